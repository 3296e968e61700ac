import Derived.Test.YthglcjhdmoljjaaDoorURel
import Derived.Test.YthglcjhdmoljjaaDoorUFacts
/-! The walks. -/
set_option linter.unusedVariables false
set_option linter.unusedSimpArgs false
set_option maxRecDepth 4000
set_option maxHeartbeats 4000000
namespace Go.Rel
open Go Go.Eng Go.Proofs
theorem law17_Cut_ok {a0 : Int × List Int × List (Int × Int) × List Int × ByteArray × ByteArray} {v1 : Value} {v2 : Value} {r : (Int × List Int × List (Int × Int) × List Int × ByteArray × ByteArray)} (h : law17_Cut a0 r) (σ : Sto) (hs3 : Sl (kP (kI .i64) (kI .i64)) σ v1 a0.2.2.1) (hs4 : Sl (kI .i64) σ v2 a0.2.2.2.1) :
    Does Tryd.prog 7 [.agg [.int .i64 a0.1, .int .i64 (a0.2.1.getD 0 0), .int .i64 (a0.2.1.getD 1 0), .int .i64 (a0.2.1.getD 2 0), .int .i64 (a0.2.1.getD 3 0), .int .i64 (a0.2.1.getD 4 0), .int .i64 (a0.2.1.getD 5 0), v1, v2, .string a0.2.2.2.2.1, .string a0.2.2.2.2.2].toArray] σ [] (fun v τ gs => ∃ (v23 : Value) (v24 : Value), gs = [] ∧ .agg [.int .i64 r.1, .int .i64 (r.2.1.getD 0 0), .int .i64 (r.2.1.getD 1 0), .int .i64 (r.2.1.getD 2 0), .int .i64 (r.2.1.getD 3 0), .int .i64 (r.2.1.getD 4 0), .int .i64 (r.2.1.getD 5 0), v23, v24, .string r.2.2.2.2.1, .string r.2.2.2.2.2].toArray = v ∧ Sl (kP (kI .i64) (kI .i64)) τ v23 r.2.2.1 ∧ Sl (kI .i64) τ v24 r.2.2.2.1) := by
 refine call_of Tryd.func7 Tryd.ntmps7 rfl rfl (fun cs fs => ?_)
 refine Z 2 rfl ?_
 refine o_box (cs := [.int .i64 a0.1, .int .i64 (a0.2.1.getD 0 0), .int .i64 (a0.2.1.getD 1 0), .int .i64 (a0.2.1.getD 2 0), .int .i64 (a0.2.1.getD 3 0), .int .i64 (a0.2.1.getD 4 0), .int .i64 (a0.2.1.getD 5 0), v1, v2, .string a0.2.2.2.2.1, .string a0.2.2.2.2.2]) rfl rfl rfl rfl rfl (fun b5 => ?_)
 refine o_alloc rfl rfl rfl z_zero27 (fun b6 => ?_)
 refine Z 2 rfl ?_
 obtain ⟨hf7, hf8, hf11, hf12, h⟩ := h
 refine st_d41 [[(b6, .cells #[.int .i64 0, .int .i64 0, .int .i64 0, .int .i64 0, .int .i64 0, .int .i64 0, .int .i64 0, .slice none 0 0, .slice none 0 0, .string (bstr []), .string (bstr [])] 27 (0, 0))]] [[(b5, .cells #[.int .i64 a0.1, .int .i64 (a0.2.1.getD 0 0), .int .i64 (a0.2.1.getD 1 0), .int .i64 (a0.2.1.getD 2 0), .int .i64 (a0.2.1.getD 3 0), .int .i64 (a0.2.1.getD 4 0), .int .i64 (a0.2.1.getD 5 0), v1, v2, .string a0.2.2.2.2.1, .string a0.2.2.2.2.2] 27 (0, 0))]] 16 1 [none, none, none, none, none, none, none, none, none, none, none, none, none, none, none, some (0, 0)] [none, some (0, 0), none, some (0, 0), none, none, none, none, some (0, 0), none, some (0, 0), none, none, none, none, none] [[none, none]] [.v (.pointer (some ⟨b5, 7, none⟩)), .v (v1), .v (.pointer (some ⟨b5, 7, none⟩)), .v (v1), .v (.int .i64 (a0.2.2.1.length : Int)), .v (.int .i64 (min (a0.2.2.1.length : Int) 40)), .t fun τ v => ∃ (v9 : Value), (v9 : Value) = v ∧ Sl (kP (kI .i64) (kI .i64)) τ v9 ((a0.2.2.1.drop (0 : Int).toNat).take (((min (a0.2.2.1.length : Int) 40) : Int) - 0).toNat), .v (.pointer (some ⟨b5, 8, none⟩)), .v (v2), .v (.pointer (some ⟨b5, 8, none⟩)), .v (v2), .v (.int .i64 (a0.2.2.2.1.length : Int)), .v (.int .i64 (min (a0.2.2.2.1.length : Int) 40)), .t fun τ v => ∃ (v13 : Value), (v13 : Value) = v ∧ Sl (kI .i64) τ v13 ((a0.2.2.2.1.drop (0 : Int).toNat).take (((min (a0.2.2.2.1.length : Int) 40) : Int) - 0).toNat), .v (.pointer (some ⟨b5, 7, none⟩)), .t fun _ _ => True] [[fun τ u F => F = [[(b5, .cells #[.int .i64 a0.1, .int .i64 (a0.2.1.getD 0 0), .int .i64 (a0.2.1.getD 1 0), .int .i64 (a0.2.1.getD 2 0), .int .i64 (a0.2.1.getD 3 0), .int .i64 (a0.2.1.getD 4 0), .int .i64 (a0.2.1.getD 5 0), v1, v2, .string a0.2.2.2.2.1, .string a0.2.2.2.2.2] 27 (0, 0))]], fun τ u F => ∃ (v15 : Value), F = [[(b5, .cells #[.int .i64 a0.1, .int .i64 (a0.2.1.getD 0 0), .int .i64 (a0.2.1.getD 1 0), .int .i64 (a0.2.1.getD 2 0), .int .i64 (a0.2.1.getD 3 0), .int .i64 (a0.2.1.getD 4 0), .int .i64 (a0.2.1.getD 5 0), v15, v2, .string a0.2.2.2.2.1, .string a0.2.2.2.2.2] 27 (0, 0))]] ∧ Sl (kP (kI .i64) (kI .i64)) τ v15 ((a0.2.2.1.drop (0 : Int).toNat).take (((min (a0.2.2.1.length : Int) 40) : Int) - 0).toNat)]] rfl z_mix rfl ⟨fun _ _ _ hl ⟨v9, hv, hs10⟩ => ⟨v9, hv, hs10.up hl⟩, ⟨fun _ _ _ hl ⟨v13, hv, hs14⟩ => ⟨v13, hv, hs14.up hl⟩, ⟨fun _ _ _ _ _ => trivial, trivial⟩⟩⟩ ⟨⟨fun _ _ _ _ hl h => h, ⟨fun _ _ _ _ hl h => (let ⟨v15, hF, hs16⟩ := h; ⟨v15, hF, hs16.up hl⟩), trivial⟩⟩, trivial⟩ rfl rfl ?_ (allB_cons (allB_cons (allB_cons (allB_cons (allB_cons (allB_cons (allB_cons (allB_cons (allB_cons (allB_cons (allB_cons (allB_cons (allB_cons (allB_cons (allB_cons (allB_cons allB_nil (p4 dA)) ?_) (p4 dA)) ?_) ?_) (p4 dA)) ?_) (p4 dA)) ?_) (p4 dA)) ?_) ?_) (p4 dA)) ?_) (p4 dA)) ?_) ?_
 ·exact rfl
 ·intro ρ' τ u Fv pool rs hl hI hu hd hout hw hk
  obtain ⟨_, e0, rfl⟩ := hd 0 rfl _ rfl
  have hI0 := hI
  obtain rfl := hI
  refine st_gs [[(b6, .cells #[.int .i64 0, .int .i64 0, .int .i64 0, .int .i64 0, .int .i64 0, .int .i64 0, .int .i64 0, .slice none 0 0, .slice none 0 0, .string (bstr []), .string (bstr [])] 27 (0, 0))], [(b5, .cells #[.int .i64 a0.1, .int .i64 (a0.2.1.getD 0 0), .int .i64 (a0.2.1.getD 1 0), .int .i64 (a0.2.1.getD 2 0), .int .i64 (a0.2.1.getD 3 0), .int .i64 (a0.2.1.getD 4 0), .int .i64 (a0.2.1.getD 5 0), v1, v2, .string a0.2.2.2.2.1, .string a0.2.2.2.2.2] 27 (0, 0))], pool] rfl ?_
  refine o_load (j := 1) (v := v1) rfl rfl rfl z_sc24 e0 rfl rfl ?_
  exact hk _ _ (Sto.Le.refl _) rfl
 ·intro ρ' τ u Fv pool rs hl hI hu hd hout hw hk
  obtain ⟨_, e2, rfl⟩ := hd 2 rfl _ rfl
  have hI0 := hI
  obtain rfl := hI
  refine st_gs [[(b6, .cells #[.int .i64 0, .int .i64 0, .int .i64 0, .int .i64 0, .int .i64 0, .int .i64 0, .int .i64 0, .slice none 0 0, .slice none 0 0, .string (bstr []), .string (bstr [])] 27 (0, 0))], [(b5, .cells #[.int .i64 a0.1, .int .i64 (a0.2.1.getD 0 0), .int .i64 (a0.2.1.getD 1 0), .int .i64 (a0.2.1.getD 2 0), .int .i64 (a0.2.1.getD 3 0), .int .i64 (a0.2.1.getD 4 0), .int .i64 (a0.2.1.getD 5 0), v1, v2, .string a0.2.2.2.2.1, .string a0.2.2.2.2.2] 27 (0, 0))], pool] rfl ?_
  refine o_load (j := 1) (v := v1) rfl rfl rfl z_sc24 e2 rfl rfl ?_
  exact hk _ _ (Sto.Le.refl _) rfl
 ·intro ρ' τ pool rs hl hd hout hw hk
  obtain ⟨_, e3, rfl⟩ := hd 3 rfl _ rfl
  refine o_lenI rfl rfl rfl z_slT24 e3 (hs3.up hl) ?_
  exact hk _ _ (Sto.Le.refl _) rfl
 ·intro ρ' τ pool rs hl hd hout hw hk
  obtain ⟨_, e1, rfl⟩ := hd 1 rfl _ rfl
  obtain ⟨_, e5, rfl⟩ := hd 5 rfl _ rfl
  refine o_slice (L := 0) (H := (min (a0.2.2.1.length : Int) 40)) rfl rfl rfl z_slT24 rfl e1 (hs3.up hl) rfl ⟨_, e5⟩ (by decide) hf7 hf8 trivial (by simp) (fun v9 hs10 => ?_)
  exact hk _ _ (Sto.Le.refl _) ⟨v9, rfl, hs10⟩
 ·intro ρ' τ u Fv pool rs hl hI hu hd hout hw hk
  obtain ⟨_, e7, rfl⟩ := hd 7 rfl _ rfl
  have hI0 := hI
  obtain rfl := hI
  refine st_gs [[(b6, .cells #[.int .i64 0, .int .i64 0, .int .i64 0, .int .i64 0, .int .i64 0, .int .i64 0, .int .i64 0, .slice none 0 0, .slice none 0 0, .string (bstr []), .string (bstr [])] 27 (0, 0))], [(b5, .cells #[.int .i64 a0.1, .int .i64 (a0.2.1.getD 0 0), .int .i64 (a0.2.1.getD 1 0), .int .i64 (a0.2.1.getD 2 0), .int .i64 (a0.2.1.getD 3 0), .int .i64 (a0.2.1.getD 4 0), .int .i64 (a0.2.1.getD 5 0), v1, v2, .string a0.2.2.2.2.1, .string a0.2.2.2.2.2] 27 (0, 0))], pool] rfl ?_
  refine o_load (j := 1) (v := v2) rfl rfl rfl z_sc25 e7 rfl rfl ?_
  exact hk _ _ (Sto.Le.refl _) rfl
 ·intro ρ' τ u Fv pool rs hl hI hu hd hout hw hk
  obtain ⟨_, e9, rfl⟩ := hd 9 rfl _ rfl
  have hI0 := hI
  obtain rfl := hI
  refine st_gs [[(b6, .cells #[.int .i64 0, .int .i64 0, .int .i64 0, .int .i64 0, .int .i64 0, .int .i64 0, .int .i64 0, .slice none 0 0, .slice none 0 0, .string (bstr []), .string (bstr [])] 27 (0, 0))], [(b5, .cells #[.int .i64 a0.1, .int .i64 (a0.2.1.getD 0 0), .int .i64 (a0.2.1.getD 1 0), .int .i64 (a0.2.1.getD 2 0), .int .i64 (a0.2.1.getD 3 0), .int .i64 (a0.2.1.getD 4 0), .int .i64 (a0.2.1.getD 5 0), v1, v2, .string a0.2.2.2.2.1, .string a0.2.2.2.2.2] 27 (0, 0))], pool] rfl ?_
  refine o_load (j := 1) (v := v2) rfl rfl rfl z_sc25 e9 rfl rfl ?_
  exact hk _ _ (Sto.Le.refl _) rfl
 ·intro ρ' τ pool rs hl hd hout hw hk
  obtain ⟨_, e10, rfl⟩ := hd 10 rfl _ rfl
  refine o_lenI rfl rfl rfl z_slT25 e10 (hs4.up hl) ?_
  exact hk _ _ (Sto.Le.refl _) rfl
 ·intro ρ' τ pool rs hl hd hout hw hk
  obtain ⟨_, e8, rfl⟩ := hd 8 rfl _ rfl
  obtain ⟨_, e12, rfl⟩ := hd 12 rfl _ rfl
  refine o_slice (L := 0) (H := (min (a0.2.2.2.1.length : Int) 40)) rfl rfl rfl z_slT25 rfl e8 (hs4.up hl) rfl ⟨_, e12⟩ (by decide) hf11 hf12 trivial (by simp) (fun v13 hs14 => ?_)
  exact hk _ _ (Sto.Le.refl _) ⟨v13, rfl, hs14⟩
 ·intro ρ' τ u Fv pool rs hl hI hu hd hout hw hk
  obtain ⟨_, e6, v9, rfl, hs10⟩ := hd 6 rfl _ rfl
  obtain ⟨_, e14, rfl⟩ := hd 14 rfl _ rfl
  have hI0 := hI
  obtain rfl := hI
  refine st_gs [[(b6, .cells #[.int .i64 0, .int .i64 0, .int .i64 0, .int .i64 0, .int .i64 0, .int .i64 0, .int .i64 0, .slice none 0 0, .slice none 0 0, .string (bstr []), .string (bstr [])] 27 (0, 0))], [(b5, .cells #[.int .i64 a0.1, .int .i64 (a0.2.1.getD 0 0), .int .i64 (a0.2.1.getD 1 0), .int .i64 (a0.2.1.getD 2 0), .int .i64 (a0.2.1.getD 3 0), .int .i64 (a0.2.1.getD 4 0), .int .i64 (a0.2.1.getD 5 0), v1, v2, .string a0.2.2.2.2.1, .string a0.2.2.2.2.2] 27 (0, 0))], pool] rfl ?_
  refine o_store (j := 1) (vs := [v9]) (cs' := [.int .i64 a0.1, .int .i64 (a0.2.1.getD 0 0), .int .i64 (a0.2.1.getD 1 0), .int .i64 (a0.2.1.getD 2 0), .int .i64 (a0.2.1.getD 3 0), .int .i64 (a0.2.1.getD 4 0), .int .i64 (a0.2.1.getD 5 0), v9, v2, .string a0.2.2.2.2.1, .string a0.2.2.2.2.2]) rfl rfl rfl z_size24 e14 e6 (oneL_sl hs10) (ones_cons hs10.one' ones_nil) rfl rfl rfl ?_
  refine st_gs [[(b6, .cells #[.int .i64 0, .int .i64 0, .int .i64 0, .int .i64 0, .int .i64 0, .int .i64 0, .int .i64 0, .slice none 0 0, .slice none 0 0, .string (bstr []), .string (bstr [])] 27 (0, 0))], [(b5, .cells #[.int .i64 a0.1, .int .i64 (a0.2.1.getD 0 0), .int .i64 (a0.2.1.getD 1 0), .int .i64 (a0.2.1.getD 2 0), .int .i64 (a0.2.1.getD 3 0), .int .i64 (a0.2.1.getD 4 0), .int .i64 (a0.2.1.getD 5 0), v9, v2, .string a0.2.2.2.2.1, .string a0.2.2.2.2.2] 27 (0, 0))], pool] rfl ?_
  exact hk _ _ [[(b5, .cells #[.int .i64 a0.1, .int .i64 (a0.2.1.getD 0 0), .int .i64 (a0.2.1.getD 1 0), .int .i64 (a0.2.1.getD 2 0), .int .i64 (a0.2.1.getD 3 0), .int .i64 (a0.2.1.getD 4 0), .int .i64 (a0.2.1.getD 5 0), v9, v2, .string a0.2.2.2.2.1, .string a0.2.2.2.2.2] 27 (0, 0))]] (Sto.Le.refl _) trivial (by exact ⟨v9, rfl, hs10⟩)
 intro ρ' τ17 vals u Fv hl17 hI hu hv hout
 obtain ⟨l13, v13, t13, hs14⟩ := hv 13 (by decide)
 replace l13 := l13 _ rfl
 replace l13 : Eng.look ρ' 16 = some (v13) := l13.trans (congrArg some (Eq.symm t13))
 obtain ⟨v15, rfl, hs16⟩ := hI
 refine st_gs [[(b6, .cells #[.int .i64 0, .int .i64 0, .int .i64 0, .int .i64 0, .int .i64 0, .int .i64 0, .int .i64 0, .slice none 0 0, .slice none 0 0, .string (bstr []), .string (bstr [])] 27 (0, 0))], [(b5, .cells #[.int .i64 a0.1, .int .i64 (a0.2.1.getD 0 0), .int .i64 (a0.2.1.getD 1 0), .int .i64 (a0.2.1.getD 2 0), .int .i64 (a0.2.1.getD 3 0), .int .i64 (a0.2.1.getD 4 0), .int .i64 (a0.2.1.getD 5 0), v15, v2, .string a0.2.2.2.2.1, .string a0.2.2.2.2.2] 27 (0, 0))]] rfl ?_
 refine st_env (ρ' := [(16, v13), (1, .pointer (some ⟨b5, 0, none⟩)), (2, .pointer (some ⟨b6, 0, none⟩))]) ⟨l13, (hout 1 rfl).trans rfl, (hout 2 rfl).trans rfl, trivial⟩ ?_
 refine o_fieldAddr rfl rfl rfl z_field27_3 rfl ?_
 refine o_store (j := 1) (vs := [v13]) (cs' := [.int .i64 a0.1, .int .i64 (a0.2.1.getD 0 0), .int .i64 (a0.2.1.getD 1 0), .int .i64 (a0.2.1.getD 2 0), .int .i64 (a0.2.1.getD 3 0), .int .i64 (a0.2.1.getD 4 0), .int .i64 (a0.2.1.getD 5 0), v15, v13, .string a0.2.2.2.2.1, .string a0.2.2.2.2.2]) rfl rfl rfl z_size25 rfl rfl (oneL_sl hs14) (ones_cons hs14.one' ones_nil) rfl rfl rfl ?_
 refine st_gs [[(b6, .cells #[.int .i64 0, .int .i64 0, .int .i64 0, .int .i64 0, .int .i64 0, .int .i64 0, .int .i64 0, .slice none 0 0, .slice none 0 0, .string (bstr []), .string (bstr [])] 27 (0, 0))], [(b5, .cells #[.int .i64 a0.1, .int .i64 (a0.2.1.getD 0 0), .int .i64 (a0.2.1.getD 1 0), .int .i64 (a0.2.1.getD 2 0), .int .i64 (a0.2.1.getD 3 0), .int .i64 (a0.2.1.getD 4 0), .int .i64 (a0.2.1.getD 5 0), v15, v13, .string a0.2.2.2.2.1, .string a0.2.2.2.2.2] 27 (0, 0))]] rfl ?_
 refine Z 2 rfl ?_
 obtain ⟨hf18, hf19, hf20, hf21, h⟩ := h
 refine st_d41 [[(b6, .cells #[.int .i64 0, .int .i64 0, .int .i64 0, .int .i64 0, .int .i64 0, .int .i64 0, .int .i64 0, .slice none 0 0, .slice none 0 0, .string (bstr []), .string (bstr [])] 27 (0, 0))]] [[(b5, .cells #[.int .i64 a0.1, .int .i64 (a0.2.1.getD 0 0), .int .i64 (a0.2.1.getD 1 0), .int .i64 (a0.2.1.getD 2 0), .int .i64 (a0.2.1.getD 3 0), .int .i64 (a0.2.1.getD 4 0), .int .i64 (a0.2.1.getD 5 0), v15, v13, .string a0.2.2.2.2.1, .string a0.2.2.2.2.2] 27 (0, 0))]] 16 1 [none, none, none, none, none, none, none, none, none, none, none, none, none, none, none, some (0, 0)] [none, some (0, 0), none, some (0, 0), none, none, none, none, some (0, 0), none, some (0, 0), none, none, none, none, none] [[none, none]] [.v (.pointer (some ⟨b5, 9, none⟩)), .v (.string a0.2.2.2.2.1), .v (.pointer (some ⟨b5, 9, none⟩)), .v (.string a0.2.2.2.2.1), .v (.int .i64 (a0.2.2.2.2.1.size : Int)), .v (.int .i64 (min (a0.2.2.2.2.1.size : Int) 80)), .v (.string (a0.2.2.2.2.1.extract 0 (min (a0.2.2.2.2.1.size : Int) 80).toNat)), .v (.pointer (some ⟨b5, 10, none⟩)), .v (.string a0.2.2.2.2.2), .v (.pointer (some ⟨b5, 10, none⟩)), .v (.string a0.2.2.2.2.2), .v (.int .i64 (a0.2.2.2.2.2.size : Int)), .v (.int .i64 (min (a0.2.2.2.2.2.size : Int) 80)), .v (.string (a0.2.2.2.2.2.extract 0 (min (a0.2.2.2.2.2.size : Int) 80).toNat)), .v (.pointer (some ⟨b5, 9, none⟩)), .t fun _ _ => True] [[fun τ u F => F = [[(b5, .cells #[.int .i64 a0.1, .int .i64 (a0.2.1.getD 0 0), .int .i64 (a0.2.1.getD 1 0), .int .i64 (a0.2.1.getD 2 0), .int .i64 (a0.2.1.getD 3 0), .int .i64 (a0.2.1.getD 4 0), .int .i64 (a0.2.1.getD 5 0), v15, v13, .string a0.2.2.2.2.1, .string a0.2.2.2.2.2] 27 (0, 0))]], fun τ u F => F = [[(b5, .cells #[.int .i64 a0.1, .int .i64 (a0.2.1.getD 0 0), .int .i64 (a0.2.1.getD 1 0), .int .i64 (a0.2.1.getD 2 0), .int .i64 (a0.2.1.getD 3 0), .int .i64 (a0.2.1.getD 4 0), .int .i64 (a0.2.1.getD 5 0), v15, v13, .string (a0.2.2.2.2.1.extract 0 (min (a0.2.2.2.2.1.size : Int) 80).toNat), .string a0.2.2.2.2.2] 27 (0, 0))]]]] rfl z_mix rfl ⟨fun _ _ _ _ _ => trivial, trivial⟩ ⟨⟨fun _ _ _ _ hl h => h, ⟨fun _ _ _ _ hl h => h, trivial⟩⟩, trivial⟩ rfl rfl ?_ (allB_cons (allB_cons (allB_cons (allB_cons (allB_cons (allB_cons (allB_cons (allB_cons (allB_cons (allB_cons (allB_cons (allB_cons (allB_cons (allB_cons (allB_cons (allB_cons allB_nil (p4 dA)) ?_) (p4 dA)) ?_) (p4 dA)) (p4 dA)) ?_) (p4 dA)) ?_) (p4 dA)) ?_) (p4 dA)) (p4 dA)) ?_) (p4 dA)) ?_) ?_
 ·exact rfl
 ·intro ρ' τ u Fv pool rs hl hI hu hd hout hw hk
  obtain ⟨_, e0, rfl⟩ := hd 0 rfl _ rfl
  have hI0 := hI
  obtain rfl := hI
  refine st_gs [[(b6, .cells #[.int .i64 0, .int .i64 0, .int .i64 0, .int .i64 0, .int .i64 0, .int .i64 0, .int .i64 0, .slice none 0 0, .slice none 0 0, .string (bstr []), .string (bstr [])] 27 (0, 0))], [(b5, .cells #[.int .i64 a0.1, .int .i64 (a0.2.1.getD 0 0), .int .i64 (a0.2.1.getD 1 0), .int .i64 (a0.2.1.getD 2 0), .int .i64 (a0.2.1.getD 3 0), .int .i64 (a0.2.1.getD 4 0), .int .i64 (a0.2.1.getD 5 0), v15, v13, .string a0.2.2.2.2.1, .string a0.2.2.2.2.2] 27 (0, 0))], pool] rfl ?_
  refine o_load (j := 1) (v := .string a0.2.2.2.2.1) rfl rfl rfl z_sc9 e0 rfl rfl ?_
  exact hk _ _ (Sto.Le.refl _) rfl
 ·intro ρ' τ u Fv pool rs hl hI hu hd hout hw hk
  obtain ⟨_, e2, rfl⟩ := hd 2 rfl _ rfl
  have hI0 := hI
  obtain rfl := hI
  refine st_gs [[(b6, .cells #[.int .i64 0, .int .i64 0, .int .i64 0, .int .i64 0, .int .i64 0, .int .i64 0, .int .i64 0, .slice none 0 0, .slice none 0 0, .string (bstr []), .string (bstr [])] 27 (0, 0))], [(b5, .cells #[.int .i64 a0.1, .int .i64 (a0.2.1.getD 0 0), .int .i64 (a0.2.1.getD 1 0), .int .i64 (a0.2.1.getD 2 0), .int .i64 (a0.2.1.getD 3 0), .int .i64 (a0.2.1.getD 4 0), .int .i64 (a0.2.1.getD 5 0), v15, v13, .string a0.2.2.2.2.1, .string a0.2.2.2.2.2] 27 (0, 0))], pool] rfl ?_
  refine o_load (j := 1) (v := .string a0.2.2.2.2.1) rfl rfl rfl z_sc9 e2 rfl rfl ?_
  exact hk _ _ (Sto.Le.refl _) rfl
 ·intro ρ' τ pool rs hl hd hout hw hk
  obtain ⟨_, e1, rfl⟩ := hd 1 rfl _ rfl
  obtain ⟨_, e5, rfl⟩ := hd 5 rfl _ rfl
  refine o_sliceSh rfl rfl rfl Tryd.underlying9 e1 e5 hf18 hf19 ?_
  exact hk _ _ (Sto.Le.refl _) rfl
 ·intro ρ' τ u Fv pool rs hl hI hu hd hout hw hk
  obtain ⟨_, e7, rfl⟩ := hd 7 rfl _ rfl
  have hI0 := hI
  obtain rfl := hI
  refine st_gs [[(b6, .cells #[.int .i64 0, .int .i64 0, .int .i64 0, .int .i64 0, .int .i64 0, .int .i64 0, .int .i64 0, .slice none 0 0, .slice none 0 0, .string (bstr []), .string (bstr [])] 27 (0, 0))], [(b5, .cells #[.int .i64 a0.1, .int .i64 (a0.2.1.getD 0 0), .int .i64 (a0.2.1.getD 1 0), .int .i64 (a0.2.1.getD 2 0), .int .i64 (a0.2.1.getD 3 0), .int .i64 (a0.2.1.getD 4 0), .int .i64 (a0.2.1.getD 5 0), v15, v13, .string a0.2.2.2.2.1, .string a0.2.2.2.2.2] 27 (0, 0))], pool] rfl ?_
  refine o_load (j := 1) (v := .string a0.2.2.2.2.2) rfl rfl rfl z_sc9 e7 rfl rfl ?_
  exact hk _ _ (Sto.Le.refl _) rfl
 ·intro ρ' τ u Fv pool rs hl hI hu hd hout hw hk
  obtain ⟨_, e9, rfl⟩ := hd 9 rfl _ rfl
  have hI0 := hI
  obtain rfl := hI
  refine st_gs [[(b6, .cells #[.int .i64 0, .int .i64 0, .int .i64 0, .int .i64 0, .int .i64 0, .int .i64 0, .int .i64 0, .slice none 0 0, .slice none 0 0, .string (bstr []), .string (bstr [])] 27 (0, 0))], [(b5, .cells #[.int .i64 a0.1, .int .i64 (a0.2.1.getD 0 0), .int .i64 (a0.2.1.getD 1 0), .int .i64 (a0.2.1.getD 2 0), .int .i64 (a0.2.1.getD 3 0), .int .i64 (a0.2.1.getD 4 0), .int .i64 (a0.2.1.getD 5 0), v15, v13, .string a0.2.2.2.2.1, .string a0.2.2.2.2.2] 27 (0, 0))], pool] rfl ?_
  refine o_load (j := 1) (v := .string a0.2.2.2.2.2) rfl rfl rfl z_sc9 e9 rfl rfl ?_
  exact hk _ _ (Sto.Le.refl _) rfl
 ·intro ρ' τ pool rs hl hd hout hw hk
  obtain ⟨_, e8, rfl⟩ := hd 8 rfl _ rfl
  obtain ⟨_, e12, rfl⟩ := hd 12 rfl _ rfl
  refine o_sliceSh rfl rfl rfl Tryd.underlying9 e8 e12 hf20 hf21 ?_
  exact hk _ _ (Sto.Le.refl _) rfl
 ·intro ρ' τ u Fv pool rs hl hI hu hd hout hw hk
  obtain ⟨_, e6, rfl⟩ := hd 6 rfl _ rfl
  obtain ⟨_, e14, rfl⟩ := hd 14 rfl _ rfl
  have hI0 := hI
  obtain rfl := hI
  refine st_gs [[(b6, .cells #[.int .i64 0, .int .i64 0, .int .i64 0, .int .i64 0, .int .i64 0, .int .i64 0, .int .i64 0, .slice none 0 0, .slice none 0 0, .string (bstr []), .string (bstr [])] 27 (0, 0))], [(b5, .cells #[.int .i64 a0.1, .int .i64 (a0.2.1.getD 0 0), .int .i64 (a0.2.1.getD 1 0), .int .i64 (a0.2.1.getD 2 0), .int .i64 (a0.2.1.getD 3 0), .int .i64 (a0.2.1.getD 4 0), .int .i64 (a0.2.1.getD 5 0), v15, v13, .string a0.2.2.2.2.1, .string a0.2.2.2.2.2] 27 (0, 0))], pool] rfl ?_
  refine o_store (j := 1) (vs := [.string (a0.2.2.2.2.1.extract 0 (min (a0.2.2.2.2.1.size : Int) 80).toNat)]) (cs' := [.int .i64 a0.1, .int .i64 (a0.2.1.getD 0 0), .int .i64 (a0.2.1.getD 1 0), .int .i64 (a0.2.1.getD 2 0), .int .i64 (a0.2.1.getD 3 0), .int .i64 (a0.2.1.getD 4 0), .int .i64 (a0.2.1.getD 5 0), v15, v13, .string (a0.2.2.2.2.1.extract 0 (min (a0.2.2.2.2.1.size : Int) 80).toNat), .string a0.2.2.2.2.2]) rfl rfl rfl z_size9 e14 e6 rfl (ones_cons rfl ones_nil) rfl rfl rfl ?_
  refine st_gs [[(b6, .cells #[.int .i64 0, .int .i64 0, .int .i64 0, .int .i64 0, .int .i64 0, .int .i64 0, .int .i64 0, .slice none 0 0, .slice none 0 0, .string (bstr []), .string (bstr [])] 27 (0, 0))], [(b5, .cells #[.int .i64 a0.1, .int .i64 (a0.2.1.getD 0 0), .int .i64 (a0.2.1.getD 1 0), .int .i64 (a0.2.1.getD 2 0), .int .i64 (a0.2.1.getD 3 0), .int .i64 (a0.2.1.getD 4 0), .int .i64 (a0.2.1.getD 5 0), v15, v13, .string (a0.2.2.2.2.1.extract 0 (min (a0.2.2.2.2.1.size : Int) 80).toNat), .string a0.2.2.2.2.2] 27 (0, 0))], pool] rfl ?_
  exact hk _ _ [[(b5, .cells #[.int .i64 a0.1, .int .i64 (a0.2.1.getD 0 0), .int .i64 (a0.2.1.getD 1 0), .int .i64 (a0.2.1.getD 2 0), .int .i64 (a0.2.1.getD 3 0), .int .i64 (a0.2.1.getD 4 0), .int .i64 (a0.2.1.getD 5 0), v15, v13, .string (a0.2.2.2.2.1.extract 0 (min (a0.2.2.2.2.1.size : Int) 80).toNat), .string a0.2.2.2.2.2] 27 (0, 0))]] (Sto.Le.refl _) trivial (by exact rfl)
 intro ρ' τ22 vals u Fv hl22 hI hu hv hout
 obtain rfl := hI
 refine st_gs [[(b6, .cells #[.int .i64 0, .int .i64 0, .int .i64 0, .int .i64 0, .int .i64 0, .int .i64 0, .int .i64 0, .slice none 0 0, .slice none 0 0, .string (bstr []), .string (bstr [])] 27 (0, 0))], [(b5, .cells #[.int .i64 a0.1, .int .i64 (a0.2.1.getD 0 0), .int .i64 (a0.2.1.getD 1 0), .int .i64 (a0.2.1.getD 2 0), .int .i64 (a0.2.1.getD 3 0), .int .i64 (a0.2.1.getD 4 0), .int .i64 (a0.2.1.getD 5 0), v15, v13, .string (a0.2.2.2.2.1.extract 0 (min (a0.2.2.2.2.1.size : Int) 80).toNat), .string a0.2.2.2.2.2] 27 (0, 0))]] rfl ?_
 refine st_env (ρ' := [(32, .string (a0.2.2.2.2.2.extract 0 (min (a0.2.2.2.2.2.size : Int) 80).toNat)), (1, .pointer (some ⟨b5, 0, none⟩)), (2, .pointer (some ⟨b6, 0, none⟩))]) ⟨(lv4 hv 13 rfl rfl rfl), (hout 1 rfl).trans rfl, (hout 2 rfl).trans rfl, trivial⟩ ?_
 refine ZZ 6 [1, 1] rfl rfl ?_
 refine o_store (j := 0) (vs := [.int .i64 a0.1, .int .i64 (a0.2.1.getD 0 0), .int .i64 (a0.2.1.getD 1 0), .int .i64 (a0.2.1.getD 2 0), .int .i64 (a0.2.1.getD 3 0), .int .i64 (a0.2.1.getD 4 0), .int .i64 (a0.2.1.getD 5 0), v15, v13, .string (a0.2.2.2.2.1.extract 0 (min (a0.2.2.2.2.1.size : Int) 80).toNat), .string (a0.2.2.2.2.2.extract 0 (min (a0.2.2.2.2.2.size : Int) 80).toNat)]) (cs' := [.int .i64 a0.1, .int .i64 (a0.2.1.getD 0 0), .int .i64 (a0.2.1.getD 1 0), .int .i64 (a0.2.1.getD 2 0), .int .i64 (a0.2.1.getD 3 0), .int .i64 (a0.2.1.getD 4 0), .int .i64 (a0.2.1.getD 5 0), v15, v13, .string (a0.2.2.2.2.1.extract 0 (min (a0.2.2.2.2.1.size : Int) 80).toNat), .string (a0.2.2.2.2.2.extract 0 (min (a0.2.2.2.2.2.size : Int) 80).toNat)]) rfl rfl rfl z_size27 rfl rfl rfl (ones_cons rfl (ones_cons rfl (ones_cons rfl (ones_cons rfl (ones_cons rfl (ones_cons rfl (ones_cons rfl (ones_cons (hs16.up hl22).one' (ones_cons (hs14.up hl22).one' (ones_cons rfl (ones_cons rfl ones_nil))))))))))) rfl rfl rfl ?_
 refine st_gs [[(b6, .cells #[.int .i64 a0.1, .int .i64 (a0.2.1.getD 0 0), .int .i64 (a0.2.1.getD 1 0), .int .i64 (a0.2.1.getD 2 0), .int .i64 (a0.2.1.getD 3 0), .int .i64 (a0.2.1.getD 4 0), .int .i64 (a0.2.1.getD 5 0), v15, v13, .string (a0.2.2.2.2.1.extract 0 (min (a0.2.2.2.2.1.size : Int) 80).toNat), .string (a0.2.2.2.2.2.extract 0 (min (a0.2.2.2.2.2.size : Int) 80).toNat)] 27 (0, 0))], [(b5, .cells #[.int .i64 a0.1, .int .i64 (a0.2.1.getD 0 0), .int .i64 (a0.2.1.getD 1 0), .int .i64 (a0.2.1.getD 2 0), .int .i64 (a0.2.1.getD 3 0), .int .i64 (a0.2.1.getD 4 0), .int .i64 (a0.2.1.getD 5 0), v15, v13, .string (a0.2.2.2.2.1.extract 0 (min (a0.2.2.2.2.1.size : Int) 80).toNat), .string (a0.2.2.2.2.2.extract 0 (min (a0.2.2.2.2.2.size : Int) 80).toNat)] 27 (0, 0))]] rfl ?_
 refine st_end ?_
 obtain rfl := Eq.symm h
 exact st_retC (gs' := []) [.agg #[.int .i64 a0.1, .int .i64 (a0.2.1.getD 0 0), .int .i64 (a0.2.1.getD 1 0), .int .i64 (a0.2.1.getD 2 0), .int .i64 (a0.2.1.getD 3 0), .int .i64 (a0.2.1.getD 4 0), .int .i64 (a0.2.1.getD 5 0), v15, v13, .string (a0.2.2.2.2.1.extract 0 (min (a0.2.2.2.2.1.size : Int) 80).toNat), .string (a0.2.2.2.2.2.extract 0 (min (a0.2.2.2.2.2.size : Int) 80).toNat)]] Tryd.func7 ⟨⟨_, _, _, _, rfl, mem_flat 0 rfl, fun w hw => cellOfN (vs := [.int .i64 a0.1, .int .i64 (a0.2.1.getD 0 0), .int .i64 (a0.2.1.getD 1 0), .int .i64 (a0.2.1.getD 2 0), .int .i64 (a0.2.1.getD 3 0), .int .i64 (a0.2.1.getD 4 0), .int .i64 (a0.2.1.getD 5 0), v15, v13, .string (a0.2.2.2.2.1.extract 0 (min (a0.2.2.2.2.1.size : Int) 80).toNat), .string (a0.2.2.2.2.2.extract 0 (min (a0.2.2.2.2.2.size : Int) 80).toNat)]) z_agg27 rfl w hw⟩, trivial⟩ (by simp) (hl17.trans hl22) ⟨_, _, rfl, rfl, (hs16.up hl22), (hs14.up hl22)⟩
theorem slices_Clone_msg_Point_msg_Point_ok {a0 : List (Int × Int)} {v1 : Value} {r : (List (Int × Int))} (h : slices_Clone_msg_Point_msg_Point a0 r) (σ : Sto) (hs2 : Sl (kP (kI .i64) (kI .i64)) σ v1 a0) :
    Does Tryd.prog 36 [v1] σ [] (fun v τ gs => ∃ (v18 : Value), gs = [] ∧ v18 = v ∧ Sl (kP (kI .i64) (kI .i64)) τ v18 r) := by
 refine call_of Tryd.func36 Tryd.ntmps36 rfl rfl (fun cs fs => ?_)
 refine Z 8 rfl ?_
 refine o_slNil rfl rfl rfl Tryd.underlying24 rfl hs2 rfl (fun b3 hb4 => ?_)
 replace h := h b3 hb4
 refine st_end ?_
 refine st_if rfl h (fun h => ?_) (fun h => ?_)
 ·refine Z 4 rfl ?_
  obtain rfl := Eq.symm h
  exact st_ret (gs' := []) Tryd.func36 rfl (List.Sublist.refl _) (Sto.Le.refl _) ⟨_, rfl, rfl, Sl.nil⟩
 ·refine Z 3 rfl ?_
  refine o_lit (dk := (kP (kI .i64) (kI .i64))) (xs := ([] : List (Int × Int))) (ps := []) (cs := []) rfl rfl rfl z_slT24 z_zero42 trivial rfl rfl rfl rfl Kd.Many.nil (fun v5 g6 ho7 => ?_)
  refine o_move rfl rfl rfl rfl ?_
  obtain ⟨hf11, hf12, h⟩ := h
  refine o_append (dk := (kP (kI .i64) (kI .i64))) (xs := ([] : List (Int × Int))) (ys := a0) rfl rfl rfl rfl z_slT24 rfl ho7 rfl (Sl.src hs2) hf11 hf12 (fun v8 g9 ho10 => ?_)
  refine Z 2 rfl ?_
  refine st_freeze (fun τ13 hl14 hg15 => ?_)
  have hs16 := ho10.freeze hl14 hg15
  obtain rfl := Eq.symm h
  exact st_ret (gs' := []) Tryd.func36 rfl (List.Sublist.refl _) hl14 ⟨_, rfl, rfl, hs16⟩
theorem slices_Clone_int_int_ok {a0 : List Int} {v1 : Value} {r : List Int} (h : slices_Clone_int_int a0 r) (σ : Sto) (hs2 : Sl (kI .i64) σ v1 a0) :
    Does Tryd.prog 37 [v1] σ [] (fun v τ gs => ∃ (v18 : Value), gs = [] ∧ v18 = v ∧ Sl (kI .i64) τ v18 r) := by
 refine call_of Tryd.func37 Tryd.ntmps37 rfl rfl (fun cs fs => ?_)
 refine Z 8 rfl ?_
 refine o_slNil rfl rfl rfl Tryd.underlying25 rfl hs2 rfl (fun b3 hb4 => ?_)
 replace h := h b3 hb4
 refine st_end ?_
 refine st_if rfl h (fun h => ?_) (fun h => ?_)
 ·refine Z 4 rfl ?_
  obtain rfl := Eq.symm h
  exact st_ret (gs' := []) Tryd.func37 rfl (List.Sublist.refl _) (Sto.Le.refl _) ⟨_, rfl, rfl, Sl.nil⟩
 ·refine Z 3 rfl ?_
  refine o_lit (dk := (kI .i64)) (xs := ([] : List Int)) (ps := []) (cs := []) rfl rfl rfl z_slT25 z_zero3 trivial rfl rfl rfl rfl Kd.Many.nil (fun v5 g6 ho7 => ?_)
  refine o_move rfl rfl rfl rfl ?_
  obtain ⟨hf11, hf12, h⟩ := h
  refine o_append (dk := (kI .i64)) (xs := ([] : List Int)) (ys := a0) rfl rfl rfl rfl z_slT25 rfl ho7 rfl (Sl.src hs2) hf11 hf12 (fun v8 g9 ho10 => ?_)
  refine Z 2 rfl ?_
  refine st_freeze (fun τ13 hl14 hg15 => ?_)
  have hs16 := ho10.freeze hl14 hg15
  obtain rfl := Eq.symm h
  exact st_ret (gs' := []) Tryd.func37 rfl (List.Sublist.refl _) hl14 ⟨_, rfl, rfl, hs16⟩
theorem msg_Copy_ok {a0 : Int × List Int × List (Int × Int) × List Int × ByteArray × ByteArray} {v1 : Value} {v2 : Value} {r : (Int × List Int × List (Int × Int) × List Int × ByteArray × ByteArray)} (h : msg_Copy a0 r) (σ : Sto) (hs3 : Sl (kP (kI .i64) (kI .i64)) σ v1 a0.2.2.1) (hs4 : Sl (kI .i64) σ v2 a0.2.2.2.1) :
    Does Tryd.prog 10 [.agg [.int .i64 a0.1, .int .i64 (a0.2.1.getD 0 0), .int .i64 (a0.2.1.getD 1 0), .int .i64 (a0.2.1.getD 2 0), .int .i64 (a0.2.1.getD 3 0), .int .i64 (a0.2.1.getD 4 0), .int .i64 (a0.2.1.getD 5 0), v1, v2, .string a0.2.2.2.2.1, .string a0.2.2.2.2.2].toArray] σ [] (fun v τ gs => ∃ (v20 : Value) (v21 : Value), gs = [] ∧ .agg [.int .i64 r.1, .int .i64 (r.2.1.getD 0 0), .int .i64 (r.2.1.getD 1 0), .int .i64 (r.2.1.getD 2 0), .int .i64 (r.2.1.getD 3 0), .int .i64 (r.2.1.getD 4 0), .int .i64 (r.2.1.getD 5 0), v20, v21, .string r.2.2.2.2.1, .string r.2.2.2.2.2].toArray = v ∧ Sl (kP (kI .i64) (kI .i64)) τ v20 r.2.2.1 ∧ Sl (kI .i64) τ v21 r.2.2.2.1) := by
 refine call_of Tryd.func10 Tryd.ntmps10 rfl rfl (fun cs fs => ?_)
 refine Z 2 rfl ?_
 refine o_box (cs := [.int .i64 a0.1, .int .i64 (a0.2.1.getD 0 0), .int .i64 (a0.2.1.getD 1 0), .int .i64 (a0.2.1.getD 2 0), .int .i64 (a0.2.1.getD 3 0), .int .i64 (a0.2.1.getD 4 0), .int .i64 (a0.2.1.getD 5 0), v1, v2, .string a0.2.2.2.2.1, .string a0.2.2.2.2.2]) rfl rfl rfl rfl rfl (fun b5 => ?_)
 refine o_alloc rfl rfl rfl z_zero27 (fun b6 => ?_)
 refine Z 2 rfl ?_
 obtain ⟨r7, hr8, r13, hr14, h⟩ := h
 refine st_draw 7 (dl [.v (.pointer (some ⟨b5, 7, none⟩)), .v (v1), .t fun τ v => ∃ (v11 : Value), (v11 : Value) = v ∧ Sl (kP (kI .i64) (kI .i64)) τ v11 r7, .v (.pointer (some ⟨b5, 8, none⟩)), .v (v2), .t fun τ v => ∃ (v17 : Value), (v17 : Value) = v ∧ Sl (kI .i64) τ v17 r13, .v (.pointer (some ⟨b5, 7, none⟩))]) (fun _ _ => []) z_mix rfl (dl_mono ⟨fun _ _ _ hl ⟨v11, hv, hs12⟩ => ⟨v11, hv, hs12.up hl⟩, ⟨fun _ _ _ hl ⟨v17, hv, hs18⟩ => ⟨v17, hv, hs18.up hl⟩, trivial⟩⟩) (allB_cons (allB_cons (allB_cons (allB_cons (allB_cons (allB_cons (allB_cons allB_nil (p1 dA)) ?_) ?_) (p1 dA)) ?_) ?_) (p1 dA)) ?_
 ·intro ρ' τ pool rs hl hd hout hk
  obtain ⟨_, e0, rfl⟩ := hd 0 rfl
  refine o_load (j := 1) (v := v1) rfl rfl rfl z_sc24 e0 rfl rfl ?_
  exact st_addNil (hk _ _ (Sto.Le.refl _) rfl)
 ·intro ρ' τ pool rs hl hd hout hk
  obtain ⟨_, e1, rfl⟩ := hd 1 rfl
  refine st_call (foot := []) rfl rfl rfl rfl (evs_cons e1 rfl) rfl (callV_fn z_en36 (slices_Clone_msg_Point_msg_Point_ok hr8 τ (hs3.up hl))) ?_
  rintro vτ9 τ9 gsτ9 hl10 ⟨v11, rfl, rfl, hs12⟩
  exact st_addNil (hk _ _ hl10 ⟨v11, rfl, hs12⟩)
 ·intro ρ' τ pool rs hl hd hout hk
  obtain ⟨_, e3, rfl⟩ := hd 3 rfl
  refine o_load (j := 1) (v := v2) rfl rfl rfl z_sc25 e3 rfl rfl ?_
  exact st_addNil (hk _ _ (Sto.Le.refl _) rfl)
 ·intro ρ' τ pool rs hl hd hout hk
  obtain ⟨_, e4, rfl⟩ := hd 4 rfl
  refine st_call (foot := []) rfl rfl rfl rfl (evs_cons e4 rfl) rfl (callV_fn z_en37 (slices_Clone_int_int_ok hr14 τ (hs4.up hl))) ?_
  rintro vτ15 τ15 gsτ15 hl16 ⟨v17, rfl, rfl, hs18⟩
  exact st_addNil (hk _ _ hl16 ⟨v17, rfl, hs18⟩)
 intro ρ' τ19 vals hl19 hv hout
 obtain ⟨l2, v11, t2, hs12⟩ := hv 2 (by decide)
 replace l2 : Eng.look ρ' 5 = some (v11) := l2.trans (congrArg some (Eq.symm t2))
 obtain ⟨l5, v17, t5, hs18⟩ := hv 5 (by decide)
 replace l5 : Eng.look ρ' 8 = some (v17) := l5.trans (congrArg some (Eq.symm t5))
 refine st_ord [0, 0] _ rfl ?_
 refine st_env (ρ' := [(5, v11), (8, v17), (9, .pointer (some ⟨b5, 7, none⟩)), (1, .pointer (some ⟨b5, 0, none⟩)), (2, .pointer (some ⟨b6, 0, none⟩))]) ⟨l2, l5, (lv1 hv 6 rfl rfl), (hout 1 rfl).trans rfl, (hout 2 rfl).trans rfl, trivial⟩ ?_
 refine o_store (j := 1) (vs := [v11]) (cs' := [.int .i64 a0.1, .int .i64 (a0.2.1.getD 0 0), .int .i64 (a0.2.1.getD 1 0), .int .i64 (a0.2.1.getD 2 0), .int .i64 (a0.2.1.getD 3 0), .int .i64 (a0.2.1.getD 4 0), .int .i64 (a0.2.1.getD 5 0), v11, v2, .string a0.2.2.2.2.1, .string a0.2.2.2.2.2]) rfl rfl rfl z_size24 rfl rfl (oneL_sl hs12) (ones_cons hs12.one' ones_nil) rfl rfl rfl ?_
 refine st_gs [[(b6, .cells #[.int .i64 0, .int .i64 0, .int .i64 0, .int .i64 0, .int .i64 0, .int .i64 0, .int .i64 0, .slice none 0 0, .slice none 0 0, .string (bstr []), .string (bstr [])] 27 (0, 0))], [(b5, .cells #[.int .i64 a0.1, .int .i64 (a0.2.1.getD 0 0), .int .i64 (a0.2.1.getD 1 0), .int .i64 (a0.2.1.getD 2 0), .int .i64 (a0.2.1.getD 3 0), .int .i64 (a0.2.1.getD 4 0), .int .i64 (a0.2.1.getD 5 0), v11, v2, .string a0.2.2.2.2.1, .string a0.2.2.2.2.2] 27 (0, 0))]] rfl ?_
 refine o_fieldAddr rfl rfl rfl z_field27_3 rfl ?_
 refine o_store (j := 1) (vs := [v17]) (cs' := [.int .i64 a0.1, .int .i64 (a0.2.1.getD 0 0), .int .i64 (a0.2.1.getD 1 0), .int .i64 (a0.2.1.getD 2 0), .int .i64 (a0.2.1.getD 3 0), .int .i64 (a0.2.1.getD 4 0), .int .i64 (a0.2.1.getD 5 0), v11, v17, .string a0.2.2.2.2.1, .string a0.2.2.2.2.2]) rfl rfl rfl z_size25 rfl rfl (oneL_sl hs18) (ones_cons hs18.one' ones_nil) rfl rfl rfl ?_
 refine st_gs [[(b6, .cells #[.int .i64 0, .int .i64 0, .int .i64 0, .int .i64 0, .int .i64 0, .int .i64 0, .int .i64 0, .slice none 0 0, .slice none 0 0, .string (bstr []), .string (bstr [])] 27 (0, 0))], [(b5, .cells #[.int .i64 a0.1, .int .i64 (a0.2.1.getD 0 0), .int .i64 (a0.2.1.getD 1 0), .int .i64 (a0.2.1.getD 2 0), .int .i64 (a0.2.1.getD 3 0), .int .i64 (a0.2.1.getD 4 0), .int .i64 (a0.2.1.getD 5 0), v11, v17, .string a0.2.2.2.2.1, .string a0.2.2.2.2.2] 27 (0, 0))]] rfl ?_
 refine ZZ 4 [1] rfl rfl ?_
 refine o_store (j := 0) (vs := [.int .i64 a0.1, .int .i64 (a0.2.1.getD 0 0), .int .i64 (a0.2.1.getD 1 0), .int .i64 (a0.2.1.getD 2 0), .int .i64 (a0.2.1.getD 3 0), .int .i64 (a0.2.1.getD 4 0), .int .i64 (a0.2.1.getD 5 0), v11, v17, .string a0.2.2.2.2.1, .string a0.2.2.2.2.2]) (cs' := [.int .i64 a0.1, .int .i64 (a0.2.1.getD 0 0), .int .i64 (a0.2.1.getD 1 0), .int .i64 (a0.2.1.getD 2 0), .int .i64 (a0.2.1.getD 3 0), .int .i64 (a0.2.1.getD 4 0), .int .i64 (a0.2.1.getD 5 0), v11, v17, .string a0.2.2.2.2.1, .string a0.2.2.2.2.2]) rfl rfl rfl z_size27 rfl rfl rfl (ones_cons rfl (ones_cons rfl (ones_cons rfl (ones_cons rfl (ones_cons rfl (ones_cons rfl (ones_cons rfl (ones_cons hs12.one' (ones_cons hs18.one' (ones_cons rfl (ones_cons rfl ones_nil))))))))))) rfl rfl rfl ?_
 refine st_gs [[(b6, .cells #[.int .i64 a0.1, .int .i64 (a0.2.1.getD 0 0), .int .i64 (a0.2.1.getD 1 0), .int .i64 (a0.2.1.getD 2 0), .int .i64 (a0.2.1.getD 3 0), .int .i64 (a0.2.1.getD 4 0), .int .i64 (a0.2.1.getD 5 0), v11, v17, .string a0.2.2.2.2.1, .string a0.2.2.2.2.2] 27 (0, 0))], [(b5, .cells #[.int .i64 a0.1, .int .i64 (a0.2.1.getD 0 0), .int .i64 (a0.2.1.getD 1 0), .int .i64 (a0.2.1.getD 2 0), .int .i64 (a0.2.1.getD 3 0), .int .i64 (a0.2.1.getD 4 0), .int .i64 (a0.2.1.getD 5 0), v11, v17, .string a0.2.2.2.2.1, .string a0.2.2.2.2.2] 27 (0, 0))]] rfl ?_
 refine st_end ?_
 obtain rfl := Eq.symm h
 exact st_retC (gs' := []) [.agg #[.int .i64 a0.1, .int .i64 (a0.2.1.getD 0 0), .int .i64 (a0.2.1.getD 1 0), .int .i64 (a0.2.1.getD 2 0), .int .i64 (a0.2.1.getD 3 0), .int .i64 (a0.2.1.getD 4 0), .int .i64 (a0.2.1.getD 5 0), v11, v17, .string a0.2.2.2.2.1, .string a0.2.2.2.2.2]] Tryd.func10 ⟨⟨_, _, _, _, rfl, mem_flat 0 rfl, fun w hw => cellOfN (vs := [.int .i64 a0.1, .int .i64 (a0.2.1.getD 0 0), .int .i64 (a0.2.1.getD 1 0), .int .i64 (a0.2.1.getD 2 0), .int .i64 (a0.2.1.getD 3 0), .int .i64 (a0.2.1.getD 4 0), .int .i64 (a0.2.1.getD 5 0), v11, v17, .string a0.2.2.2.2.1, .string a0.2.2.2.2.2]) z_agg27 rfl w hw⟩, trivial⟩ (by simp) hl19 ⟨_, _, rfl, rfl, hs12, hs18⟩
theorem event_Delivery_ok {a0 : Int} {a1 : Int} {a2 : Int × List Int × List (Int × Int) × List Int × ByteArray × ByteArray} {v1 : Value} {v2 : Value} {r : (Int × Int × Int × Int × (Int × List Int × List (Int × Int) × List Int × ByteArray × ByteArray))} (h : event_Delivery a0 a1 a2 r) (σ : Sto) (hs3 : Sl (kP (kI .i64) (kI .i64)) σ v1 a2.2.2.1) (hs4 : Sl (kI .i64) σ v2 a2.2.2.2.1) :
    Does Tryd.prog 8 [.int .u32 a0, .int .i64 a1, .agg [.int .i64 a2.1, .int .i64 (a2.2.1.getD 0 0), .int .i64 (a2.2.1.getD 1 0), .int .i64 (a2.2.1.getD 2 0), .int .i64 (a2.2.1.getD 3 0), .int .i64 (a2.2.1.getD 4 0), .int .i64 (a2.2.1.getD 5 0), v1, v2, .string a2.2.2.2.2.1, .string a2.2.2.2.2.2].toArray] σ [] (fun v τ gs => ∃ (v15 : Value) (v16 : Value), gs = [] ∧ .agg [.int .i64 r.1, .int .u32 r.2.1, .int .i64 r.2.2.1, .int .i64 r.2.2.2.1, .int .i64 r.2.2.2.2.1, .int .i64 (r.2.2.2.2.2.1.getD 0 0), .int .i64 (r.2.2.2.2.2.1.getD 1 0), .int .i64 (r.2.2.2.2.2.1.getD 2 0), .int .i64 (r.2.2.2.2.2.1.getD 3 0), .int .i64 (r.2.2.2.2.2.1.getD 4 0), .int .i64 (r.2.2.2.2.2.1.getD 5 0), v15, v16, .string r.2.2.2.2.2.2.2.2.1, .string r.2.2.2.2.2.2.2.2.2].toArray = v ∧ Sl (kP (kI .i64) (kI .i64)) τ v15 r.2.2.2.2.2.2.1 ∧ Sl (kI .i64) τ v16 r.2.2.2.2.2.2.2.1) := by
 refine call_of Tryd.func8 Tryd.ntmps8 rfl rfl (fun cs fs => ?_)
 refine Z 2 rfl ?_
 refine o_box (cs := [.int .i64 a2.1, .int .i64 (a2.2.1.getD 0 0), .int .i64 (a2.2.1.getD 1 0), .int .i64 (a2.2.1.getD 2 0), .int .i64 (a2.2.1.getD 3 0), .int .i64 (a2.2.1.getD 4 0), .int .i64 (a2.2.1.getD 5 0), v1, v2, .string a2.2.2.2.2.1, .string a2.2.2.2.2.2]) rfl rfl rfl rfl rfl (fun b5 => ?_)
 refine o_alloc rfl rfl rfl z_zero31 (fun b6 => ?_)
 refine ZZ 6 [1] rfl rfl ?_
 obtain ⟨r7, hr8, h⟩ := h
 refine st_call (foot := []) rfl rfl rfl rfl rfl rfl (callV_fn z_en10 (msg_Copy_ok hr8 σ hs3 hs4)) ?_
 rintro vτ9 τ9 gsτ9 hl10 ⟨v11, v12, rfl, rfl, hs13, hs14⟩
 refine ZZ 1 [] rfl rfl ?_
 refine o_store (j := 0) (vs := [.int .i64 1, .int .u32 a0, .int .i64 a1, .int .i64 0, .int .i64 r7.1, .int .i64 (r7.2.1.getD 0 0), .int .i64 (r7.2.1.getD 1 0), .int .i64 (r7.2.1.getD 2 0), .int .i64 (r7.2.1.getD 3 0), .int .i64 (r7.2.1.getD 4 0), .int .i64 (r7.2.1.getD 5 0), v11, v12, .string r7.2.2.2.2.1, .string r7.2.2.2.2.2]) (cs' := [.int .i64 1, .int .u32 a0, .int .i64 a1, .int .i64 0, .int .i64 r7.1, .int .i64 (r7.2.1.getD 0 0), .int .i64 (r7.2.1.getD 1 0), .int .i64 (r7.2.1.getD 2 0), .int .i64 (r7.2.1.getD 3 0), .int .i64 (r7.2.1.getD 4 0), .int .i64 (r7.2.1.getD 5 0), v11, v12, .string r7.2.2.2.2.1, .string r7.2.2.2.2.2]) rfl rfl rfl z_size31 rfl rfl rfl (ones_cons rfl (ones_cons rfl (ones_cons rfl (ones_cons rfl (ones_cons rfl (ones_cons rfl (ones_cons rfl (ones_cons rfl (ones_cons rfl (ones_cons rfl (ones_cons rfl (ones_cons hs13.one' (ones_cons hs14.one' (ones_cons rfl (ones_cons rfl ones_nil))))))))))))))) rfl rfl rfl ?_
 refine st_gs [[(b6, .cells #[.int .i64 1, .int .u32 a0, .int .i64 a1, .int .i64 0, .int .i64 r7.1, .int .i64 (r7.2.1.getD 0 0), .int .i64 (r7.2.1.getD 1 0), .int .i64 (r7.2.1.getD 2 0), .int .i64 (r7.2.1.getD 3 0), .int .i64 (r7.2.1.getD 4 0), .int .i64 (r7.2.1.getD 5 0), v11, v12, .string r7.2.2.2.2.1, .string r7.2.2.2.2.2] 31 (0, 0))], [(b5, .cells #[.int .i64 a2.1, .int .i64 (a2.2.1.getD 0 0), .int .i64 (a2.2.1.getD 1 0), .int .i64 (a2.2.1.getD 2 0), .int .i64 (a2.2.1.getD 3 0), .int .i64 (a2.2.1.getD 4 0), .int .i64 (a2.2.1.getD 5 0), v1, v2, .string a2.2.2.2.2.1, .string a2.2.2.2.2.2] 27 (0, 0))]] rfl ?_
 refine st_end ?_
 obtain rfl := Eq.symm h
 exact st_retC (gs' := []) [.agg #[.int .i64 1, .int .u32 a0, .int .i64 a1, .int .i64 0, .int .i64 r7.1, .int .i64 (r7.2.1.getD 0 0), .int .i64 (r7.2.1.getD 1 0), .int .i64 (r7.2.1.getD 2 0), .int .i64 (r7.2.1.getD 3 0), .int .i64 (r7.2.1.getD 4 0), .int .i64 (r7.2.1.getD 5 0), v11, v12, .string r7.2.2.2.2.1, .string r7.2.2.2.2.2]] Tryd.func8 ⟨⟨_, _, _, _, rfl, mem_flat 0 rfl, fun w hw => cellOfN (vs := [.int .i64 1, .int .u32 a0, .int .i64 a1, .int .i64 0, .int .i64 r7.1, .int .i64 (r7.2.1.getD 0 0), .int .i64 (r7.2.1.getD 1 0), .int .i64 (r7.2.1.getD 2 0), .int .i64 (r7.2.1.getD 3 0), .int .i64 (r7.2.1.getD 4 0), .int .i64 (r7.2.1.getD 5 0), v11, v12, .string r7.2.2.2.2.1, .string r7.2.2.2.2.2]) z_agg31 rfl w hw⟩, trivial⟩ (by simp) hl10 ⟨_, _, rfl, rfl, hs13, hs14⟩
theorem strconv_Itoa_ok {a0 : Int} {r : ByteArray} (h : strconv_Itoa a0 r) (σ : Sto) (hT : Tab Tryd.prog σ) :
    Does Tryd.prog 66 [.int .i64 a0] σ [] (fun v τ gs => gs = [] ∧ .string r = v) := by
 obtain ⟨hk, rfl⟩ := h
 rw [itoa_lib]
 exact does_grow fun w hw => Tryd.strconv_Itoa a0 (i64_lo hk) (i64_hi hk) w (hT w hw)
theorem say_Number_ok {a0 : Int} {r : ByteArray} (h : say_Number a0 r) (σ : Sto) (hT : Tab Tryd.prog σ) :
    Does Tryd.prog 45 [.int .i64 a0] σ [] (fun v τ gs => gs = [] ∧ .string r = v) := by
 refine call_of Tryd.func45 Tryd.ntmps45 rfl rfl (fun cs fs => ?_)
 refine Z 2 rfl ?_
 refine o_assign rfl rfl rfl (ev_str z_str0) ?_
 refine Z 4 rfl ?_
 obtain ⟨r1, hr2, h⟩ := h
 refine st_call (foot := []) rfl rfl rfl rfl rfl rfl (callV_fn z_en66 (strconv_Itoa_ok hr2 σ hT)) ?_
 rintro vτ3 τ3 gsτ3 hl4 ⟨rfl, rfl⟩
 refine Z 2 rfl ?_
 obtain rfl := Eq.symm h
 exact st_ret (gs' := []) Tryd.func45 rfl (List.Sublist.refl _) hl4 ⟨rfl, rfl⟩
theorem field_Word_ok {a0 : Int} {r : ByteArray} (h : field_Word a0 r) (σ : Sto)  :
    Does Tryd.prog 40 [.int .i64 a0] σ [] (fun v τ gs => gs = [] ∧ .string r = v) := by
 refine call_of Tryd.func40 Tryd.ntmps40 rfl rfl (fun cs fs => ?_)
 refine Z 2 rfl ?_
 refine o_assign rfl rfl rfl (ev_str z_str0) ?_
 refine Z 12 rfl ?_
 refine st_if rfl h (fun h => ?_) (fun h => ?_)
 ·refine Z 2 rfl ?_
  refine o_assign rfl rfl rfl (ev_str z_str23) ?_
  refine st_end ?_
  obtain rfl := Eq.symm h
  exact st_ret (gs' := []) Tryd.func40 rfl (List.Sublist.refl _) (Sto.Le.refl _) ⟨rfl, rfl⟩
 ·refine Z 5 rfl ?_
  refine st_if rfl h (fun h => ?_) (fun h => ?_)
  ·refine Z 2 rfl ?_
   refine o_assign rfl rfl rfl (ev_str z_str24) ?_
   refine st_end ?_
   obtain rfl := Eq.symm h
   exact st_ret (gs' := []) Tryd.func40 rfl (List.Sublist.refl _) (Sto.Le.refl _) ⟨rfl, rfl⟩
  ·refine Z 5 rfl ?_
   refine st_if rfl h (fun h => ?_) (fun h => ?_)
   ·refine Z 2 rfl ?_
    refine o_assign rfl rfl rfl (ev_str z_str25) ?_
    refine st_end ?_
    obtain rfl := Eq.symm h
    exact st_ret (gs' := []) Tryd.func40 rfl (List.Sublist.refl _) (Sto.Le.refl _) ⟨rfl, rfl⟩
   ·refine Z 5 rfl ?_
    refine st_if rfl h (fun h => ?_) (fun h => ?_)
    ·refine Z 2 rfl ?_
     refine o_assign rfl rfl rfl (ev_str z_str26) ?_
     refine st_end ?_
     obtain rfl := Eq.symm h
     exact st_ret (gs' := []) Tryd.func40 rfl (List.Sublist.refl _) (Sto.Le.refl _) ⟨rfl, rfl⟩
    ·refine Z 5 rfl ?_
     refine st_if rfl h (fun h => ?_) (fun h => ?_)
     ·refine Z 2 rfl ?_
      refine o_assign rfl rfl rfl (ev_str z_str27) ?_
      refine st_end ?_
      obtain rfl := Eq.symm h
      exact st_ret (gs' := []) Tryd.func40 rfl (List.Sublist.refl _) (Sto.Le.refl _) ⟨rfl, rfl⟩
     ·refine Z 4 rfl ?_
      refine o_assign rfl rfl rfl (ev_str z_str0) ?_
      refine st_end ?_
      obtain rfl := Eq.symm h
      exact st_ret (gs' := []) Tryd.func40 rfl (List.Sublist.refl _) (Sto.Le.refl _) ⟨rfl, rfl⟩
theorem event_Word_ok {a0 : Int} {r : ByteArray} (h : event_Word a0 r) (σ : Sto)  :
    Does Tryd.prog 47 [.int .i64 a0] σ [] (fun v τ gs => gs = [] ∧ .string r = v) := by
 refine call_of Tryd.func47 Tryd.ntmps47 rfl rfl (fun cs fs => ?_)
 refine Z 2 rfl ?_
 refine o_assign rfl rfl rfl (ev_str z_str0) ?_
 refine Z 12 rfl ?_
 refine st_if rfl h (fun h => ?_) (fun h => ?_)
 ·refine Z 2 rfl ?_
  refine o_assign rfl rfl rfl (ev_str z_str33) ?_
  refine st_end ?_
  obtain rfl := Eq.symm h
  exact st_ret (gs' := []) Tryd.func47 rfl (List.Sublist.refl _) (Sto.Le.refl _) ⟨rfl, rfl⟩
 ·refine Z 5 rfl ?_
  refine st_if rfl h (fun h => ?_) (fun h => ?_)
  ·refine Z 2 rfl ?_
   refine o_assign rfl rfl rfl (ev_str z_str34) ?_
   refine st_end ?_
   obtain rfl := Eq.symm h
   exact st_ret (gs' := []) Tryd.func47 rfl (List.Sublist.refl _) (Sto.Le.refl _) ⟨rfl, rfl⟩
  ·refine Z 5 rfl ?_
   refine st_if rfl h (fun h => ?_) (fun h => ?_)
   ·refine Z 2 rfl ?_
    refine o_assign rfl rfl rfl (ev_str z_str35) ?_
    refine st_end ?_
    obtain rfl := Eq.symm h
    exact st_ret (gs' := []) Tryd.func47 rfl (List.Sublist.refl _) (Sto.Le.refl _) ⟨rfl, rfl⟩
   ·refine Z 5 rfl ?_
    refine st_if rfl h (fun h => ?_) (fun h => ?_)
    ·refine Z 2 rfl ?_
     refine o_assign rfl rfl rfl (ev_str z_str36) ?_
     refine st_end ?_
     obtain rfl := Eq.symm h
     exact st_ret (gs' := []) Tryd.func47 rfl (List.Sublist.refl _) (Sto.Le.refl _) ⟨rfl, rfl⟩
    ·refine Z 5 rfl ?_
     refine st_if rfl h (fun h => ?_) (fun h => ?_)
     ·refine Z 2 rfl ?_
      refine o_assign rfl rfl rfl (ev_str z_str37) ?_
      refine st_end ?_
      obtain rfl := Eq.symm h
      exact st_ret (gs' := []) Tryd.func47 rfl (List.Sublist.refl _) (Sto.Le.refl _) ⟨rfl, rfl⟩
     ·refine Z 5 rfl ?_
      refine st_if rfl h (fun h => ?_) (fun h => ?_)
      ·refine Z 2 rfl ?_
       refine o_assign rfl rfl rfl (ev_str z_str38) ?_
       refine st_end ?_
       obtain rfl := Eq.symm h
       exact st_ret (gs' := []) Tryd.func47 rfl (List.Sublist.refl _) (Sto.Le.refl _) ⟨rfl, rfl⟩
      ·refine Z 5 rfl ?_
       refine st_if rfl h (fun h => ?_) (fun h => ?_)
       ·refine Z 2 rfl ?_
        refine o_assign rfl rfl rfl (ev_str z_str39) ?_
        refine st_end ?_
        obtain rfl := Eq.symm h
        exact st_ret (gs' := []) Tryd.func47 rfl (List.Sublist.refl _) (Sto.Le.refl _) ⟨rfl, rfl⟩
       ·refine Z 5 rfl ?_
        refine st_if rfl h (fun h => ?_) (fun h => ?_)
        ·refine Z 2 rfl ?_
         refine o_assign rfl rfl rfl (ev_str z_str40) ?_
         refine st_end ?_
         obtain rfl := Eq.symm h
         exact st_ret (gs' := []) Tryd.func47 rfl (List.Sublist.refl _) (Sto.Le.refl _) ⟨rfl, rfl⟩
        ·refine Z 5 rfl ?_
         refine st_if rfl h (fun h => ?_) (fun h => ?_)
         ·refine Z 2 rfl ?_
          refine o_assign rfl rfl rfl (ev_str z_str41) ?_
          refine st_end ?_
          obtain rfl := Eq.symm h
          exact st_ret (gs' := []) Tryd.func47 rfl (List.Sublist.refl _) (Sto.Le.refl _) ⟨rfl, rfl⟩
         ·refine Z 5 rfl ?_
          refine st_if rfl h (fun h => ?_) (fun h => ?_)
          ·refine Z 2 rfl ?_
           refine o_assign rfl rfl rfl (ev_str z_str42) ?_
           refine st_end ?_
           obtain rfl := Eq.symm h
           exact st_ret (gs' := []) Tryd.func47 rfl (List.Sublist.refl _) (Sto.Le.refl _) ⟨rfl, rfl⟩
          ·refine Z 5 rfl ?_
           refine st_if rfl h (fun h => ?_) (fun h => ?_)
           ·refine Z 2 rfl ?_
            refine o_assign rfl rfl rfl (ev_str z_str43) ?_
            refine st_end ?_
            obtain rfl := Eq.symm h
            exact st_ret (gs' := []) Tryd.func47 rfl (List.Sublist.refl _) (Sto.Le.refl _) ⟨rfl, rfl⟩
           ·refine Z 5 rfl ?_
            refine st_if rfl h (fun h => ?_) (fun h => ?_)
            ·refine Z 2 rfl ?_
             refine o_assign rfl rfl rfl (ev_str z_str44) ?_
             refine st_end ?_
             obtain rfl := Eq.symm h
             exact st_ret (gs' := []) Tryd.func47 rfl (List.Sublist.refl _) (Sto.Le.refl _) ⟨rfl, rfl⟩
            ·refine Z 5 rfl ?_
             refine st_if rfl h (fun h => ?_) (fun h => ?_)
             ·refine Z 2 rfl ?_
              refine o_assign rfl rfl rfl (ev_str z_str45) ?_
              refine st_end ?_
              obtain rfl := Eq.symm h
              exact st_ret (gs' := []) Tryd.func47 rfl (List.Sublist.refl _) (Sto.Le.refl _) ⟨rfl, rfl⟩
             ·refine Z 5 rfl ?_
              refine st_if rfl h (fun h => ?_) (fun h => ?_)
              ·refine Z 2 rfl ?_
               refine o_assign rfl rfl rfl (ev_str z_str46) ?_
               refine st_end ?_
               obtain rfl := Eq.symm h
               exact st_ret (gs' := []) Tryd.func47 rfl (List.Sublist.refl _) (Sto.Le.refl _) ⟨rfl, rfl⟩
              ·refine Z 5 rfl ?_
               refine st_if rfl h (fun h => ?_) (fun h => ?_)
               ·refine Z 2 rfl ?_
                refine o_assign rfl rfl rfl (ev_str z_str47) ?_
                refine st_end ?_
                obtain rfl := Eq.symm h
                exact st_ret (gs' := []) Tryd.func47 rfl (List.Sublist.refl _) (Sto.Le.refl _) ⟨rfl, rfl⟩
               ·refine Z 5 rfl ?_
                refine st_if rfl h (fun h => ?_) (fun h => ?_)
                ·refine Z 2 rfl ?_
                 refine o_assign rfl rfl rfl (ev_str z_str22) ?_
                 refine st_end ?_
                 obtain rfl := Eq.symm h
                 exact st_ret (gs' := []) Tryd.func47 rfl (List.Sublist.refl _) (Sto.Le.refl _) ⟨rfl, rfl⟩
                ·refine Z 4 rfl ?_
                 refine o_assign rfl rfl rfl (ev_str z_str0) ?_
                 refine st_end ?_
                 obtain rfl := Eq.symm h
                 exact st_ret (gs' := []) Tryd.func47 rfl (List.Sublist.refl _) (Sto.Le.refl _) ⟨rfl, rfl⟩
theorem event_Rejection_ok {a0 : Int} {a1 : Int} {r : (Int × Int × Int × Int × (Int × List Int × List (Int × Int) × List Int × ByteArray × ByteArray))} (h : event_Rejection a0 a1 r) (σ : Sto)  :
    Does Tryd.prog 14 [.int .u32 a0, .int .i64 a1] σ [] (fun v τ gs => ∃ (v2 : Value) (v3 : Value), gs = [] ∧ .agg [.int .i64 r.1, .int .u32 r.2.1, .int .i64 r.2.2.1, .int .i64 r.2.2.2.1, .int .i64 r.2.2.2.2.1, .int .i64 (r.2.2.2.2.2.1.getD 0 0), .int .i64 (r.2.2.2.2.2.1.getD 1 0), .int .i64 (r.2.2.2.2.2.1.getD 2 0), .int .i64 (r.2.2.2.2.2.1.getD 3 0), .int .i64 (r.2.2.2.2.2.1.getD 4 0), .int .i64 (r.2.2.2.2.2.1.getD 5 0), v2, v3, .string r.2.2.2.2.2.2.2.2.1, .string r.2.2.2.2.2.2.2.2.2].toArray = v ∧ Sl (kP (kI .i64) (kI .i64)) τ v2 r.2.2.2.2.2.2.1 ∧ Sl (kI .i64) τ v3 r.2.2.2.2.2.2.2.1) := by
 refine call_of Tryd.func14 Tryd.ntmps14 rfl rfl (fun cs fs => ?_)
 refine Z 2 rfl ?_
 refine o_alloc rfl rfl rfl z_zero31 (fun b1 => ?_)
 refine ZZ 8 [0] rfl rfl ?_
 obtain rfl := Eq.symm h
 exact st_retC (gs' := []) [.agg #[.int .i64 2, .int .u32 a0, .int .i64 0, .int .i64 a1, .int .i64 0, .int .i64 0, .int .i64 0, .int .i64 0, .int .i64 0, .int .i64 0, .int .i64 0, .slice none 0 0, .slice none 0 0, .string (bstr []), .string (bstr [])]] Tryd.func14 ⟨⟨_, _, _, _, rfl, mem_flat 0 rfl, fun w hw => cellOfN (vs := [.int .i64 2, .int .u32 a0, .int .i64 0, .int .i64 a1, .int .i64 0, .int .i64 0, .int .i64 0, .int .i64 0, .int .i64 0, .int .i64 0, .int .i64 0, .slice none 0 0, .slice none 0 0, .string (bstr []), .string (bstr [])]) z_agg31 rfl w hw⟩, trivial⟩ (by simp) (Sto.Le.refl _) ⟨_, _, rfl, rfl, Sl.nil, Sl.nil⟩
theorem law23_Cut_ok {a0 : Int × Int × Int × Int × (Int × List Int × List (Int × Int) × List Int × ByteArray × ByteArray)} {v1 : Value} {v2 : Value} {r : (Int × Int × Int × Int × (Int × List Int × List (Int × Int) × List Int × ByteArray × ByteArray))} (h : law23_Cut a0 r) (σ : Sto) (hs3 : Sl (kP (kI .i64) (kI .i64)) σ v1 a0.2.2.2.2.2.2.1) (hs4 : Sl (kI .i64) σ v2 a0.2.2.2.2.2.2.2.1) :
    Does Tryd.prog 41 [.agg [.int .i64 a0.1, .int .u32 a0.2.1, .int .i64 a0.2.2.1, .int .i64 a0.2.2.2.1, .int .i64 a0.2.2.2.2.1, .int .i64 (a0.2.2.2.2.2.1.getD 0 0), .int .i64 (a0.2.2.2.2.2.1.getD 1 0), .int .i64 (a0.2.2.2.2.2.1.getD 2 0), .int .i64 (a0.2.2.2.2.2.1.getD 3 0), .int .i64 (a0.2.2.2.2.2.1.getD 4 0), .int .i64 (a0.2.2.2.2.2.1.getD 5 0), v1, v2, .string a0.2.2.2.2.2.2.2.2.1, .string a0.2.2.2.2.2.2.2.2.2].toArray] σ [] (fun v τ gs => ∃ (v15 : Value) (v16 : Value), gs = [] ∧ .agg [.int .i64 r.1, .int .u32 r.2.1, .int .i64 r.2.2.1, .int .i64 r.2.2.2.1, .int .i64 r.2.2.2.2.1, .int .i64 (r.2.2.2.2.2.1.getD 0 0), .int .i64 (r.2.2.2.2.2.1.getD 1 0), .int .i64 (r.2.2.2.2.2.1.getD 2 0), .int .i64 (r.2.2.2.2.2.1.getD 3 0), .int .i64 (r.2.2.2.2.2.1.getD 4 0), .int .i64 (r.2.2.2.2.2.1.getD 5 0), v15, v16, .string r.2.2.2.2.2.2.2.2.1, .string r.2.2.2.2.2.2.2.2.2].toArray = v ∧ Sl (kP (kI .i64) (kI .i64)) τ v15 r.2.2.2.2.2.2.1 ∧ Sl (kI .i64) τ v16 r.2.2.2.2.2.2.2.1) := by
 refine call_of Tryd.func41 Tryd.ntmps41 rfl rfl (fun cs fs => ?_)
 refine Z 2 rfl ?_
 refine o_box (cs := [.int .i64 a0.1, .int .u32 a0.2.1, .int .i64 a0.2.2.1, .int .i64 a0.2.2.2.1, .int .i64 a0.2.2.2.2.1, .int .i64 (a0.2.2.2.2.2.1.getD 0 0), .int .i64 (a0.2.2.2.2.2.1.getD 1 0), .int .i64 (a0.2.2.2.2.2.1.getD 2 0), .int .i64 (a0.2.2.2.2.2.1.getD 3 0), .int .i64 (a0.2.2.2.2.2.1.getD 4 0), .int .i64 (a0.2.2.2.2.2.1.getD 5 0), v1, v2, .string a0.2.2.2.2.2.2.2.2.1, .string a0.2.2.2.2.2.2.2.2.2]) rfl rfl rfl rfl rfl (fun b5 => ?_)
 refine o_alloc rfl rfl rfl z_zero31 (fun b6 => ?_)
 refine ZZ 5 [1] rfl rfl ?_
 obtain ⟨r7, hr8, h⟩ := h
 refine st_call (foot := []) rfl rfl rfl rfl rfl rfl (callV_fn z_en7 (law17_Cut_ok hr8 σ hs3 hs4)) ?_
 rintro vτ9 τ9 gsτ9 hl10 ⟨v11, v12, rfl, rfl, hs13, hs14⟩
 refine o_fieldAddr rfl rfl rfl z_field31_4 rfl ?_
 refine o_store (j := 1) (vs := [.int .i64 r7.1, .int .i64 (r7.2.1.getD 0 0), .int .i64 (r7.2.1.getD 1 0), .int .i64 (r7.2.1.getD 2 0), .int .i64 (r7.2.1.getD 3 0), .int .i64 (r7.2.1.getD 4 0), .int .i64 (r7.2.1.getD 5 0), v11, v12, .string r7.2.2.2.2.1, .string r7.2.2.2.2.2]) (cs' := [.int .i64 a0.1, .int .u32 a0.2.1, .int .i64 a0.2.2.1, .int .i64 a0.2.2.2.1, .int .i64 r7.1, .int .i64 (r7.2.1.getD 0 0), .int .i64 (r7.2.1.getD 1 0), .int .i64 (r7.2.1.getD 2 0), .int .i64 (r7.2.1.getD 3 0), .int .i64 (r7.2.1.getD 4 0), .int .i64 (r7.2.1.getD 5 0), v11, v12, .string r7.2.2.2.2.1, .string r7.2.2.2.2.2]) rfl rfl rfl z_size27 rfl rfl rfl (ones_cons rfl (ones_cons rfl (ones_cons rfl (ones_cons rfl (ones_cons rfl (ones_cons rfl (ones_cons rfl (ones_cons hs13.one' (ones_cons hs14.one' (ones_cons rfl (ones_cons rfl ones_nil))))))))))) rfl rfl rfl ?_
 refine st_gs [[(b6, .cells #[.int .i64 0, .int .u32 0, .int .i64 0, .int .i64 0, .int .i64 0, .int .i64 0, .int .i64 0, .int .i64 0, .int .i64 0, .int .i64 0, .int .i64 0, .slice none 0 0, .slice none 0 0, .string (bstr []), .string (bstr [])] 31 (0, 0))], [(b5, .cells #[.int .i64 a0.1, .int .u32 a0.2.1, .int .i64 a0.2.2.1, .int .i64 a0.2.2.2.1, .int .i64 r7.1, .int .i64 (r7.2.1.getD 0 0), .int .i64 (r7.2.1.getD 1 0), .int .i64 (r7.2.1.getD 2 0), .int .i64 (r7.2.1.getD 3 0), .int .i64 (r7.2.1.getD 4 0), .int .i64 (r7.2.1.getD 5 0), v11, v12, .string r7.2.2.2.2.1, .string r7.2.2.2.2.2] 31 (0, 0))]] rfl ?_
 refine ZZ 4 [1] rfl rfl ?_
 refine o_store (j := 0) (vs := [.int .i64 a0.1, .int .u32 a0.2.1, .int .i64 a0.2.2.1, .int .i64 a0.2.2.2.1, .int .i64 r7.1, .int .i64 (r7.2.1.getD 0 0), .int .i64 (r7.2.1.getD 1 0), .int .i64 (r7.2.1.getD 2 0), .int .i64 (r7.2.1.getD 3 0), .int .i64 (r7.2.1.getD 4 0), .int .i64 (r7.2.1.getD 5 0), v11, v12, .string r7.2.2.2.2.1, .string r7.2.2.2.2.2]) (cs' := [.int .i64 a0.1, .int .u32 a0.2.1, .int .i64 a0.2.2.1, .int .i64 a0.2.2.2.1, .int .i64 r7.1, .int .i64 (r7.2.1.getD 0 0), .int .i64 (r7.2.1.getD 1 0), .int .i64 (r7.2.1.getD 2 0), .int .i64 (r7.2.1.getD 3 0), .int .i64 (r7.2.1.getD 4 0), .int .i64 (r7.2.1.getD 5 0), v11, v12, .string r7.2.2.2.2.1, .string r7.2.2.2.2.2]) rfl rfl rfl z_size31 rfl rfl rfl (ones_cons rfl (ones_cons rfl (ones_cons rfl (ones_cons rfl (ones_cons rfl (ones_cons rfl (ones_cons rfl (ones_cons rfl (ones_cons rfl (ones_cons rfl (ones_cons rfl (ones_cons hs13.one' (ones_cons hs14.one' (ones_cons rfl (ones_cons rfl ones_nil))))))))))))))) rfl rfl rfl ?_
 refine st_gs [[(b6, .cells #[.int .i64 a0.1, .int .u32 a0.2.1, .int .i64 a0.2.2.1, .int .i64 a0.2.2.2.1, .int .i64 r7.1, .int .i64 (r7.2.1.getD 0 0), .int .i64 (r7.2.1.getD 1 0), .int .i64 (r7.2.1.getD 2 0), .int .i64 (r7.2.1.getD 3 0), .int .i64 (r7.2.1.getD 4 0), .int .i64 (r7.2.1.getD 5 0), v11, v12, .string r7.2.2.2.2.1, .string r7.2.2.2.2.2] 31 (0, 0))], [(b5, .cells #[.int .i64 a0.1, .int .u32 a0.2.1, .int .i64 a0.2.2.1, .int .i64 a0.2.2.2.1, .int .i64 r7.1, .int .i64 (r7.2.1.getD 0 0), .int .i64 (r7.2.1.getD 1 0), .int .i64 (r7.2.1.getD 2 0), .int .i64 (r7.2.1.getD 3 0), .int .i64 (r7.2.1.getD 4 0), .int .i64 (r7.2.1.getD 5 0), v11, v12, .string r7.2.2.2.2.1, .string r7.2.2.2.2.2] 31 (0, 0))]] rfl ?_
 refine st_end ?_
 obtain rfl := Eq.symm h
 exact st_retC (gs' := []) [.agg #[.int .i64 a0.1, .int .u32 a0.2.1, .int .i64 a0.2.2.1, .int .i64 a0.2.2.2.1, .int .i64 r7.1, .int .i64 (r7.2.1.getD 0 0), .int .i64 (r7.2.1.getD 1 0), .int .i64 (r7.2.1.getD 2 0), .int .i64 (r7.2.1.getD 3 0), .int .i64 (r7.2.1.getD 4 0), .int .i64 (r7.2.1.getD 5 0), v11, v12, .string r7.2.2.2.2.1, .string r7.2.2.2.2.2]] Tryd.func41 ⟨⟨_, _, _, _, rfl, mem_flat 0 rfl, fun w hw => cellOfN (vs := [.int .i64 a0.1, .int .u32 a0.2.1, .int .i64 a0.2.2.1, .int .i64 a0.2.2.2.1, .int .i64 r7.1, .int .i64 (r7.2.1.getD 0 0), .int .i64 (r7.2.1.getD 1 0), .int .i64 (r7.2.1.getD 2 0), .int .i64 (r7.2.1.getD 3 0), .int .i64 (r7.2.1.getD 4 0), .int .i64 (r7.2.1.getD 5 0), v11, v12, .string r7.2.2.2.2.1, .string r7.2.2.2.2.2]) z_agg31 rfl w hw⟩, trivial⟩ (by simp) hl10 ⟨_, _, rfl, rfl, hs13, hs14⟩
theorem law25_cut_ok {a0 : List (Int × Int × Int × Int × (Int × List Int × List (Int × Int) × List Int × ByteArray × ByteArray))} {v1 : Value} {r : (List (Int × Int × Int × Int × (Int × List Int × List (Int × Int) × List Int × ByteArray × ByteArray)))} (h : law25_cut a0 r) (σ : Sto) (hs2 : Sl (kP (kI .i64) (kP (kI .u32) (kP (kI .i64) (kP (kI .i64) (kP (kI .i64) (kP (kA .i64 6) (kP (kSl (kP (kI .i64) (kI .i64))) (kP (kSl (kI .i64)) (kP kS kS))))))))) σ v1 a0) :
    Does Tryd.prog 17 [v1] σ [] (fun v τ gs => ∃ (v44 : Value), gs = [] ∧ v44 = v ∧ Sl (kP (kI .i64) (kP (kI .u32) (kP (kI .i64) (kP (kI .i64) (kP (kI .i64) (kP (kA .i64 6) (kP (kSl (kP (kI .i64) (kI .i64))) (kP (kSl (kI .i64)) (kP kS kS))))))))) τ v44 r) := by
 refine call_of Tryd.func17 Tryd.ntmps17 rfl rfl (fun cs fs => ?_)
 refine Z 9 rfl ?_
 refine st_cut (fun ρ τ3 gs => ∃ (s3 : (List (Int × Int × Int × Int × (Int × List Int × List (Int × Int) × List Int × ByteArray × ByteArray)))) (v4 : Value) (g5 : Grp), law25_cut_j1 s3 r ∧ σ.Le τ3 ∧ ESub ρ [(2, .slice none 0 0), (3, v4)] ∧ gs = [g5] ∧ Ow (kP (kI .i64) (kP (kI .u32) (kP (kI .i64) (kP (kI .i64) (kP (kI .i64) (kP (kA .i64 6) (kP (kSl (kP (kI .i64) (kI .i64))) (kP (kSl (kI .i64)) (kP kS kS))))))))) 31 τ3 v4 s3 g5) ?_ (fun hk3 => ?_)
 ·rintro ρ3 τ3 gs3 ⟨s3, v4, g5, h, hl3, hρ, rfl, ho6⟩
  refine st_es hρ ?_
  refine Z 5 rfl ?_
  refine st_freeze (fun τ7 hl8 hg9 => ?_)
  have hs10 := ho6.freeze hl8 hg9
  obtain rfl := Eq.symm h
  exact st_ret (gs' := []) Tryd.func17 rfl (List.Sublist.refl _) (hl3.trans hl8) ⟨_, rfl, rfl, hs10⟩
 refine Z 4 rfl ?_
 obtain ⟨e13, hL13, hA13⟩ := h
 refine st_addNil ?_
 refine st_loop hL13 (fun (s13 : (List (Int × Int × Int × Int × (Int × List Int × List (Int × Int) × List Int × ByteArray × ByteArray))) × Int) ρ τ13 gs => σ.Le τ13 ∧ ∃ (v14 : Value) (g15 : Grp), ESub ρ [(0, v1), (2, .slice none 0 0), (3, v14), (4, .int .i64 s13.2)] ∧ gs = [g15] ∧ Ow (kP (kI .i64) (kP (kI .u32) (kP (kI .i64) (kP (kI .i64) (kP (kI .i64) (kP (kA .i64 6) (kP (kSl (kP (kI .i64) (kI .i64))) (kP (kSl (kI .i64)) (kP kS kS))))))))) 31 τ13 v14 s13.1 g15) ⟨Sto.Le.refl _, _, _, rfl, rfl, Ow.nil⟩ ?_
 rintro s13 o13 h he13 ρ13 τ13 gs13 ⟨hl13, v14, g15, hρ, rfl, ho16⟩ hn13
 refine st_es hρ ?_
 refine Z 2 rfl ?_
 refine st_cut (fun ρ τ17 gs => ∃ (s17 : Bool), law25_cut_j3 a0 s13 s17 o13 ∧ τ13.Le τ17 ∧ ESub ρ [(0, v1), (2, .slice none 0 0), (3, v14), (4, .int .i64 s13.2), (12, .bool s17)] ∧ gs = [g15]) ?_ (fun hk17 => ?_)
 ·rintro ρ17 τ17 gs17 ⟨s17, h, hl17, hρ, rfl⟩
  refine st_es hρ ?_
  refine st_if rfl h (fun h => ?_) (fun h => ?_)
  ·refine Z 7 rfl ?_
   obtain ⟨q18, hf19, h⟩ := h
   refine o_index rfl rfl rfl z_slT47 rfl rfl (hs2.up (hl13.trans hl17)) rfl hf19 (fun b20 of21 vs hc24 hrep => ?_)
   obtain ⟨_, _, rfl, rfl, ⟨_, _, rfl, rfl, ⟨_, _, rfl, rfl, ⟨_, _, rfl, rfl, ⟨_, _, rfl, rfl, ⟨_, _, rfl, rfl, ⟨_, _, rfl, ⟨v22, rfl, hs25⟩, ⟨_, _, rfl, ⟨v23, rfl, hs26⟩, ⟨_, _, rfl, rfl, rfl⟩⟩⟩⟩⟩⟩⟩⟩⟩ := hrep
   refine o_loadIN (vs := [.int .i64 q18.1, .int .u32 q18.2.1, .int .i64 q18.2.2.1, .int .i64 q18.2.2.2.1, .int .i64 q18.2.2.2.2.1, .int .i64 (q18.2.2.2.2.2.1.getD 0 0), .int .i64 (q18.2.2.2.2.2.1.getD 1 0), .int .i64 (q18.2.2.2.2.2.1.getD 2 0), .int .i64 (q18.2.2.2.2.2.1.getD 3 0), .int .i64 (q18.2.2.2.2.2.1.getD 4 0), .int .i64 (q18.2.2.2.2.2.1.getD 5 0), v22, v23, .string q18.2.2.2.2.2.2.2.2.1, .string q18.2.2.2.2.2.2.2.2.2]) rfl rfl rfl z_agg31 rfl rfl (celn_part 0 rfl hc24) ?_
   obtain ⟨r27, hr28, h⟩ := h
   refine st_call (foot := []) rfl rfl rfl rfl rfl rfl (callV_fn z_en41 (law23_Cut_ok hr28 τ17 hs25 hs26)) ?_
   rintro vτ29 τ29 gsτ29 hl30 ⟨v31, v32, rfl, rfl, hs33, hs34⟩
   refine o_lit (dk := (kP (kI .i64) (kP (kI .u32) (kP (kI .i64) (kP (kI .i64) (kP (kI .i64) (kP (kA .i64 6) (kP (kSl (kP (kI .i64) (kI .i64))) (kP (kSl (kI .i64)) (kP kS kS)))))))))) (xs := [r27]) (ps := [(0, [.int .i64 r27.1, .int .u32 r27.2.1, .int .i64 r27.2.2.1, .int .i64 r27.2.2.2.1, .int .i64 r27.2.2.2.2.1, .int .i64 (r27.2.2.2.2.2.1.getD 0 0), .int .i64 (r27.2.2.2.2.2.1.getD 1 0), .int .i64 (r27.2.2.2.2.2.1.getD 2 0), .int .i64 (r27.2.2.2.2.2.1.getD 3 0), .int .i64 (r27.2.2.2.2.2.1.getD 4 0), .int .i64 (r27.2.2.2.2.2.1.getD 5 0), v31, v32, .string r27.2.2.2.2.2.2.2.2.1, .string r27.2.2.2.2.2.2.2.2.2])]) (cs := [.int .i64 r27.1, .int .u32 r27.2.1, .int .i64 r27.2.2.1, .int .i64 r27.2.2.2.1, .int .i64 r27.2.2.2.2.1, .int .i64 (r27.2.2.2.2.2.1.getD 0 0), .int .i64 (r27.2.2.2.2.2.1.getD 1 0), .int .i64 (r27.2.2.2.2.2.1.getD 2 0), .int .i64 (r27.2.2.2.2.2.1.getD 3 0), .int .i64 (r27.2.2.2.2.2.1.getD 4 0), .int .i64 (r27.2.2.2.2.2.1.getD 5 0), v31, v32, .string r27.2.2.2.2.2.2.2.2.1, .string r27.2.2.2.2.2.2.2.2.2]) rfl rfl rfl z_slT47 z_zero31 ⟨rfl, ⟨_, rfl, rfl⟩, trivial⟩ rfl rfl rfl rfl (Kd.Many.cons (d := (kP (kI .i64) (kP (kI .u32) (kP (kI .i64) (kP (kI .i64) (kP (kI .i64) (kP (kA .i64 6) (kP (kSl (kP (kI .i64) (kI .i64))) (kP (kSl (kI .i64)) (kP kS kS)))))))))) (x := r27) (a := [.int .i64 r27.1, .int .u32 r27.2.1, .int .i64 r27.2.2.1, .int .i64 r27.2.2.2.1, .int .i64 r27.2.2.2.2.1, .int .i64 (r27.2.2.2.2.2.1.getD 0 0), .int .i64 (r27.2.2.2.2.2.1.getD 1 0), .int .i64 (r27.2.2.2.2.2.1.getD 2 0), .int .i64 (r27.2.2.2.2.2.1.getD 3 0), .int .i64 (r27.2.2.2.2.2.1.getD 4 0), .int .i64 (r27.2.2.2.2.2.1.getD 5 0), v31, v32, .string r27.2.2.2.2.2.2.2.2.1, .string r27.2.2.2.2.2.2.2.2.2]) ⟨[.int .i64 r27.1], _, rfl, rfl, ⟨[.int .u32 r27.2.1], _, rfl, rfl, ⟨[.int .i64 r27.2.2.1], _, rfl, rfl, ⟨[.int .i64 r27.2.2.2.1], _, rfl, rfl, ⟨[.int .i64 r27.2.2.2.2.1], _, rfl, rfl, ⟨[.int .i64 (r27.2.2.2.2.2.1.getD 0 0), .int .i64 (r27.2.2.2.2.2.1.getD 1 0), .int .i64 (r27.2.2.2.2.2.1.getD 2 0), .int .i64 (r27.2.2.2.2.2.1.getD 3 0), .int .i64 (r27.2.2.2.2.2.1.getD 4 0), .int .i64 (r27.2.2.2.2.2.1.getD 5 0)], _, rfl, rfl, ⟨[v31], _, rfl, ⟨_, rfl, hs33⟩, ⟨[v32], _, rfl, ⟨_, rfl, hs34⟩, ⟨[.string r27.2.2.2.2.2.2.2.2.1], _, rfl, rfl, rfl⟩⟩⟩⟩⟩⟩⟩⟩⟩ Kd.Many.nil) (fun v35 g36 ho37 => ?_)
   obtain ⟨hf41, hf42, h⟩ := h
   refine st_ord [1, 0] _ rfl ?_
   refine o_append (dk := (kP (kI .i64) (kP (kI .u32) (kP (kI .i64) (kP (kI .i64) (kP (kI .i64) (kP (kA .i64 6) (kP (kSl (kP (kI .i64) (kI .i64))) (kP (kSl (kI .i64)) (kP kS kS)))))))))) (xs := s13.1) (ys := [r27]) rfl rfl rfl rfl z_slT47 rfl (ho16.up (hl17.trans hl30)) rfl (Ow.src (j := 1) ho37 rfl) hf41 hf42 (fun v38 g39 ho40 => ?_)
   refine Z 8 rfl ?_
   refine st_ord [0] _ rfl ?_
   exact hn13 _ _ _ _ h ⟨((hl13.trans hl17).trans hl30), _, _, rfl, rfl, ho40⟩
  ·refine st_exit rfl ?_
   obtain rfl := he13 _ h
   replace h := hA13
   exact hk3 _ _ _ ⟨s13.1, _, _, h, (hl13.trans hl17), rfl, rfl, (ho16.up hl17)⟩
 refine Z 3 rfl ?_
 refine o_lenI rfl rfl rfl z_slT47 rfl (hs2.up hl13) ?_
 refine o_ibin (v := .bool (decide (s13.2 < (a0.length : Int)))) rfl rfl rfl rfl rfl rfl ?_
 refine o_mif rfl rfl rfl rfl h (fun h => ?_) (fun h => ?_)
 ·refine Z 4 rfl ?_
  exact hk17 _ _ _ ⟨(decide (s13.2 < 40)), h, (Sto.Le.refl _), rfl, rfl⟩
 ·refine Z 4 rfl ?_
  exact hk17 _ _ _ ⟨false, h, (Sto.Le.refl _), rfl, rfl⟩
theorem tally_New_ok  {r : (Int × Int × List Int × List (Int × Int))} (h : tally_New r) (σ : Sto)  :
    Does Tryd.prog 19 [] σ [] (fun v τ gs => ∃ (b5 : Nat) (v6 : Value) (g7 : Grp), gs = [[(b5, .cells [.int .i64 r.1, .int .i64 r.2.1, .int .i64 (r.2.2.1.getD 0 0), .int .i64 (r.2.2.1.getD 1 0), .int .i64 (r.2.2.1.getD 2 0), .int .i64 (r.2.2.1.getD 3 0), .int .i64 (r.2.2.1.getD 4 0), .int .i64 (r.2.2.1.getD 5 0), v6].toArray 78 (0, 0))], g7] ∧ .pointer (some ⟨b5, 0, none⟩) = v ∧ Mp (Value.int .i64) (rF (Value.int .i64)) τ v6 r.2.2.2 g7) := by
 refine call_of Tryd.func19 Tryd.ntmps19 rfl rfl (fun cs fs => ?_)
 refine Z 6 rfl ?_
 refine o_makeMap (fk := (Value.int .i64)) (rv := rF (Value.int .i64)) rfl rfl rfl (fun v1 g2 ho3 => ?_)
 refine o_build (ps := [(3, [v1])]) (cs := [.int .i64 0, .int .i64 0, .int .i64 0, .int .i64 0, .int .i64 0, .int .i64 0, .int .i64 0, .int .i64 0, v1]) rfl rfl rfl z_struct78 ⟨rfl, ⟨_, rfl, (oneL_mp ho3)⟩, trivial⟩ rfl ?_
 refine o_box (cs := [.int .i64 0, .int .i64 0, .int .i64 0, .int .i64 0, .int .i64 0, .int .i64 0, .int .i64 0, .int .i64 0, v1]) rfl rfl rfl rfl rfl (fun b4 => ?_)
 refine Z 2 rfl ?_
 obtain rfl := Eq.symm h
 exact st_ret (gs' := [[(b4, .cells #[.int .i64 0, .int .i64 0, .int .i64 0, .int .i64 0, .int .i64 0, .int .i64 0, .int .i64 0, .int .i64 0, v1] 78 (0, 0))], g2]) Tryd.func19 rfl (List.Sublist.refl _) (Sto.Le.refl _) ⟨_, _, _, rfl, rfl, ho3⟩
theorem tally_Tally_Add_ok {a0 : Int × Int × List Int × List (Int × Int)} {a1 : List (Int × Int × Int × Int × (Int × List Int × List (Int × Int) × List Int × ByteArray × ByteArray))} {ba0 : Nat} {v1 : Value} {g2 : Grp} {v4 : Value} {r : (Int × Int × List Int × List (Int × Int))} (h : tally_Tally_Add a0 a1 r) (σ : Sto) (ho3 : Mp (Value.int .i64) (rF (Value.int .i64)) σ v1 a0.2.2.2 g2) (hs5 : Sl (kP (kI .i64) (kP (kI .u32) (kP (kI .i64) (kP (kI .i64) (kP (kI .i64) (kP (kA .i64 6) (kP (kSl (kP (kI .i64) (kI .i64))) (kP (kSl (kI .i64)) (kP kS kS))))))))) σ v4 a1) :
    Does Tryd.prog 16 [.pointer (some ⟨ba0, 0, none⟩), v4] σ [[(ba0, .cells [.int .i64 a0.1, .int .i64 a0.2.1, .int .i64 (a0.2.2.1.getD 0 0), .int .i64 (a0.2.2.1.getD 1 0), .int .i64 (a0.2.2.1.getD 2 0), .int .i64 (a0.2.2.1.getD 3 0), .int .i64 (a0.2.2.1.getD 4 0), .int .i64 (a0.2.2.1.getD 5 0), v1].toArray 78 (0, 0))], g2] (fun v τ gs => ∃ (v37 : Value) (g38 : Grp), gs = [[(ba0, .cells [.int .i64 r.1, .int .i64 r.2.1, .int .i64 (r.2.2.1.getD 0 0), .int .i64 (r.2.2.1.getD 1 0), .int .i64 (r.2.2.1.getD 2 0), .int .i64 (r.2.2.1.getD 3 0), .int .i64 (r.2.2.1.getD 4 0), .int .i64 (r.2.2.1.getD 5 0), v37].toArray 78 (0, 0))], g38] ∧ .tuple [].toArray = v ∧ Mp (Value.int .i64) (rF (Value.int .i64)) τ v37 r.2.2.2 g38) := by
 refine call_of Tryd.func16 Tryd.ntmps16 rfl rfl (fun cs fs => ?_)
 refine Z 14 rfl ?_
 refine o_lenI rfl rfl rfl z_slT47 rfl hs5 ?_
 refine Z 2 rfl ?_
 obtain ⟨e6, hL6, hA6⟩ := h
 refine st_loop hL6 (fun (s6 : Int × Int × Int × Int × Int × Int × Int × Int × Int × (List (Int × Int))) ρ τ6 gs => σ.Le τ6 ∧ ∃ (v7 : Value) (g8 : Grp), ESub ρ [(0, .pointer (some ⟨ba0, 0, none⟩)), (8, v4), (9, .int .i64 (a1.length : Int)), (10, .int .i64 s6.1)] ∧ gs = [[(ba0, .cells #[.int .i64 s6.2.1, .int .i64 s6.2.2.1, .int .i64 s6.2.2.2.1, .int .i64 s6.2.2.2.2.1, .int .i64 s6.2.2.2.2.2.1, .int .i64 s6.2.2.2.2.2.2.1, .int .i64 s6.2.2.2.2.2.2.2.1, .int .i64 s6.2.2.2.2.2.2.2.2.1, v7] 78 (0, 0))], g8] ∧ Mp (Value.int .i64) (rF (Value.int .i64)) τ6 v7 s6.2.2.2.2.2.2.2.2.2 g8) ⟨Sto.Le.refl _, _, _, rfl, rfl, ho3⟩ ?_
 rintro s6 o6 h he6 ρ6 τ6 gs6 ⟨hl6, v7, g8, hρ, rfl, ho9⟩ hn6
 refine st_es hρ ?_
 refine Z 5 rfl ?_
 refine st_if rfl h (fun h => ?_) (fun h => ?_)
 ·refine Z 2 rfl ?_
  refine st_cut (fun ρ τ10 gs => ∃ (s10 : Int × Int × Int × Int × Int × Int × Int × Int × (List (Int × Int))) (v11 : Value) (g12 : Grp), tally_Tally_Add_j2 s6 s10 o6 ∧ τ6.Le τ10 ∧ ESub ρ [(0, .pointer (some ⟨ba0, 0, none⟩)), (8, v4), (9, .int .i64 (a1.length : Int)), (10, .int .i64 s6.1)] ∧ gs = [[(ba0, .cells #[.int .i64 s10.1, .int .i64 s10.2.1, .int .i64 s10.2.2.1, .int .i64 s10.2.2.2.1, .int .i64 s10.2.2.2.2.1, .int .i64 s10.2.2.2.2.2.1, .int .i64 s10.2.2.2.2.2.2.1, .int .i64 s10.2.2.2.2.2.2.2.1, v11] 78 (0, 0))], g12] ∧ Mp (Value.int .i64) (rF (Value.int .i64)) τ10 v11 s10.2.2.2.2.2.2.2.2 g12) ?_ (fun hk10 => ?_)
  ·rintro ρ10 τ10 gs10 ⟨s10, v11, g12, h, hl10, hρ, rfl, ho13⟩
   refine st_es hρ ?_
   refine Z 4 rfl ?_
   exact hn6 _ _ _ _ h ⟨(hl6.trans hl10), _, _, rfl, rfl, ho13⟩
  refine Z 3 rfl ?_
  obtain ⟨q14, hf15, h⟩ := h
  refine o_index rfl rfl rfl z_slT47 rfl rfl (hs5.up hl6) rfl hf15 (fun b16 of17 vs hc20 hrep => ?_)
  obtain ⟨_, _, rfl, rfl, ⟨_, _, rfl, rfl, ⟨_, _, rfl, rfl, ⟨_, _, rfl, rfl, ⟨_, _, rfl, rfl, ⟨_, _, rfl, rfl, ⟨_, _, rfl, ⟨v18, rfl, hs21⟩, ⟨_, _, rfl, ⟨v19, rfl, hs22⟩, ⟨_, _, rfl, rfl, rfl⟩⟩⟩⟩⟩⟩⟩⟩⟩ := hrep
  refine o_loadIN (vs := [.int .i64 q14.1, .int .u32 q14.2.1, .int .i64 q14.2.2.1, .int .i64 q14.2.2.2.1, .int .i64 q14.2.2.2.2.1, .int .i64 (q14.2.2.2.2.2.1.getD 0 0), .int .i64 (q14.2.2.2.2.2.1.getD 1 0), .int .i64 (q14.2.2.2.2.2.1.getD 2 0), .int .i64 (q14.2.2.2.2.2.1.getD 3 0), .int .i64 (q14.2.2.2.2.2.1.getD 4 0), .int .i64 (q14.2.2.2.2.2.1.getD 5 0), v18, v19, .string q14.2.2.2.2.2.2.2.2.1, .string q14.2.2.2.2.2.2.2.2.2]) rfl rfl rfl z_agg31 rfl rfl (celn_part 0 rfl hc20) ?_
  refine o_alloc rfl rfl rfl z_zero31 (fun b23 => ?_)
  refine o_store (j := 0) (vs := [.int .i64 q14.1, .int .u32 q14.2.1, .int .i64 q14.2.2.1, .int .i64 q14.2.2.2.1, .int .i64 q14.2.2.2.2.1, .int .i64 (q14.2.2.2.2.2.1.getD 0 0), .int .i64 (q14.2.2.2.2.2.1.getD 1 0), .int .i64 (q14.2.2.2.2.2.1.getD 2 0), .int .i64 (q14.2.2.2.2.2.1.getD 3 0), .int .i64 (q14.2.2.2.2.2.1.getD 4 0), .int .i64 (q14.2.2.2.2.2.1.getD 5 0), v18, v19, .string q14.2.2.2.2.2.2.2.2.1, .string q14.2.2.2.2.2.2.2.2.2]) (cs' := [.int .i64 q14.1, .int .u32 q14.2.1, .int .i64 q14.2.2.1, .int .i64 q14.2.2.2.1, .int .i64 q14.2.2.2.2.1, .int .i64 (q14.2.2.2.2.2.1.getD 0 0), .int .i64 (q14.2.2.2.2.2.1.getD 1 0), .int .i64 (q14.2.2.2.2.2.1.getD 2 0), .int .i64 (q14.2.2.2.2.2.1.getD 3 0), .int .i64 (q14.2.2.2.2.2.1.getD 4 0), .int .i64 (q14.2.2.2.2.2.1.getD 5 0), v18, v19, .string q14.2.2.2.2.2.2.2.2.1, .string q14.2.2.2.2.2.2.2.2.2]) rfl rfl rfl z_size31 rfl rfl rfl (ones_cons rfl (ones_cons rfl (ones_cons rfl (ones_cons rfl (ones_cons rfl (ones_cons rfl (ones_cons rfl (ones_cons rfl (ones_cons rfl (ones_cons rfl (ones_cons rfl (ones_cons hs21.one' (ones_cons hs22.one' (ones_cons rfl (ones_cons rfl ones_nil))))))))))))))) rfl rfl rfl ?_
  refine st_gs [[(b23, .cells #[.int .i64 q14.1, .int .u32 q14.2.1, .int .i64 q14.2.2.1, .int .i64 q14.2.2.2.1, .int .i64 q14.2.2.2.2.1, .int .i64 (q14.2.2.2.2.2.1.getD 0 0), .int .i64 (q14.2.2.2.2.2.1.getD 1 0), .int .i64 (q14.2.2.2.2.2.1.getD 2 0), .int .i64 (q14.2.2.2.2.2.1.getD 3 0), .int .i64 (q14.2.2.2.2.2.1.getD 4 0), .int .i64 (q14.2.2.2.2.2.1.getD 5 0), v18, v19, .string q14.2.2.2.2.2.2.2.2.1, .string q14.2.2.2.2.2.2.2.2.2] 31 (0, 0))], [(ba0, .cells #[.int .i64 s6.2.1, .int .i64 s6.2.2.1, .int .i64 s6.2.2.2.1, .int .i64 s6.2.2.2.2.1, .int .i64 s6.2.2.2.2.2.1, .int .i64 s6.2.2.2.2.2.2.1, .int .i64 s6.2.2.2.2.2.2.2.1, .int .i64 s6.2.2.2.2.2.2.2.2.1, v7] 78 (0, 0))], g8] rfl ?_
  refine ZZ 12 [0] rfl rfl ?_
  refine st_if rfl h (fun h => ?_) (fun h => ?_)
  ·refine ZZ 17 [1, 1, 0] rfl rfl ?_
   obtain ⟨r24, hr25, h⟩ := h
   refine st_call (foot := []) rfl rfl rfl rfl rfl rfl (callV_fn z_en40 (field_Word_ok hr25 τ6)) ?_
   rintro vτ26 τ26 gsτ26 hl27 ⟨rfl, rfl⟩
   refine o_sbin (v := .bool (decide (r24 = (bstr [])))) rfl rfl rfl rfl (ev_str z_str0) rfl ?_
   refine st_end ?_
   refine st_if rfl h (fun h => ?_) (fun h => ?_)
   ·refine st_exit rfl ?_
    refine st_ord [1, 1] _ rfl ?_
    exact hk10 _ _ _ ⟨((IntKind.i64.wrap (s6.2.1 + 1)), s6.2.2.1, s6.2.2.2.1, s6.2.2.2.2.1, s6.2.2.2.2.2.1, s6.2.2.2.2.2.2.1, s6.2.2.2.2.2.2.2.1, s6.2.2.2.2.2.2.2.2.1, s6.2.2.2.2.2.2.2.2.2), _, _, h, hl27, rfl, rfl, (ho9.up hl27)⟩
   ·refine st_skip ?_
    obtain ⟨hf28, hf29, hf30, hf31, h⟩ := h
    refine st_d41 [[(b23, .cells #[.int .i64 q14.1, .int .u32 q14.2.1, .int .i64 q14.2.2.1, .int .i64 q14.2.2.2.1, .int .i64 q14.2.2.2.2.1, .int .i64 (q14.2.2.2.2.2.1.getD 0 0), .int .i64 (q14.2.2.2.2.2.1.getD 1 0), .int .i64 (q14.2.2.2.2.2.1.getD 2 0), .int .i64 (q14.2.2.2.2.2.1.getD 3 0), .int .i64 (q14.2.2.2.2.2.1.getD 4 0), .int .i64 (q14.2.2.2.2.2.1.getD 5 0), v18, v19, .string q14.2.2.2.2.2.2.2.2.1, .string q14.2.2.2.2.2.2.2.2.2] 31 (0, 0))]] [[(ba0, .cells #[.int .i64 (IntKind.i64.wrap (s6.2.1 + 1)), .int .i64 s6.2.2.1, .int .i64 s6.2.2.2.1, .int .i64 s6.2.2.2.2.1, .int .i64 s6.2.2.2.2.2.1, .int .i64 s6.2.2.2.2.2.2.1, .int .i64 s6.2.2.2.2.2.2.2.1, .int .i64 s6.2.2.2.2.2.2.2.2.1, v7] 78 (0, 0))], g8] 13 2 [none, none, none, none, none, none, none, some (0, 0), none, none, none, none, some (0, 1)] [none, none, none, none, none, none, none, none, none, none, none, none, none] [[none, some 37, none]] [.v (.pointer (some ⟨ba0, 0, none⟩)), .v (.pointer (some ⟨b23, 4, none⟩)), .v (.pointer (some ⟨b23, 4, none⟩)), .v (.int .i64 q14.2.2.2.2.1), .v (.pointer (some ⟨ba0, 0, none⟩)), .v (.pointer (some ⟨ba0, 2, none⟩)), .v (.pointer (some ⟨ba0, 2 + q14.2.2.2.2.1.toNat * 1, none⟩)), .v (.int .i64 ([s6.2.2.2.1, s6.2.2.2.2.1, s6.2.2.2.2.2.1, s6.2.2.2.2.2.2.1, s6.2.2.2.2.2.2.2.1, s6.2.2.2.2.2.2.2.2.1].getD q14.2.2.2.2.1.toNat 0)), .v (.int .i64 (IntKind.i64.wrap (([s6.2.2.2.1, s6.2.2.2.2.1, s6.2.2.2.2.2.1, s6.2.2.2.2.2.2.1, s6.2.2.2.2.2.2.2.1, s6.2.2.2.2.2.2.2.2.1].getD q14.2.2.2.2.1.toNat 0) + 1))), .v (.pointer (some ⟨ba0, 0, none⟩)), .v (.pointer (some ⟨ba0, 2, none⟩)), .v (.pointer (some ⟨ba0, 2 + q14.2.2.2.2.1.toNat * 1, none⟩)), .t fun _ _ => True] [[fun τ u F => F = [[(ba0, .cells #[.int .i64 (IntKind.i64.wrap (s6.2.1 + 1)), .int .i64 s6.2.2.1, .int .i64 s6.2.2.2.1, .int .i64 s6.2.2.2.2.1, .int .i64 s6.2.2.2.2.2.1, .int .i64 s6.2.2.2.2.2.2.1, .int .i64 s6.2.2.2.2.2.2.2.1, .int .i64 s6.2.2.2.2.2.2.2.2.1, v7] 78 (0, 0))], g8], fun τ u F => F = [[(ba0, .cells #[.int .i64 (IntKind.i64.wrap (s6.2.1 + 1)), .int .i64 s6.2.2.1, .int .i64 s6.2.2.2.1, .int .i64 s6.2.2.2.2.1, .int .i64 s6.2.2.2.2.2.1, .int .i64 s6.2.2.2.2.2.2.1, .int .i64 s6.2.2.2.2.2.2.2.1, .int .i64 s6.2.2.2.2.2.2.2.2.1, v7] 78 (0, 0))], g8], fun τ u F => F = [[(ba0, .cells #[.int .i64 (IntKind.i64.wrap (s6.2.1 + 1)), .int .i64 s6.2.2.1, .int .i64 ((putN 6 0 [s6.2.2.2.1, s6.2.2.2.2.1, s6.2.2.2.2.2.1, s6.2.2.2.2.2.2.1, s6.2.2.2.2.2.2.2.1, s6.2.2.2.2.2.2.2.2.1] q14.2.2.2.2.1.toNat (IntKind.i64.wrap (([s6.2.2.2.1, s6.2.2.2.2.1, s6.2.2.2.2.2.1, s6.2.2.2.2.2.2.1, s6.2.2.2.2.2.2.2.1, s6.2.2.2.2.2.2.2.2.1].getD q14.2.2.2.2.1.toNat 0) + 1))).getD 0 0), .int .i64 ((putN 6 0 [s6.2.2.2.1, s6.2.2.2.2.1, s6.2.2.2.2.2.1, s6.2.2.2.2.2.2.1, s6.2.2.2.2.2.2.2.1, s6.2.2.2.2.2.2.2.2.1] q14.2.2.2.2.1.toNat (IntKind.i64.wrap (([s6.2.2.2.1, s6.2.2.2.2.1, s6.2.2.2.2.2.1, s6.2.2.2.2.2.2.1, s6.2.2.2.2.2.2.2.1, s6.2.2.2.2.2.2.2.2.1].getD q14.2.2.2.2.1.toNat 0) + 1))).getD 1 0), .int .i64 ((putN 6 0 [s6.2.2.2.1, s6.2.2.2.2.1, s6.2.2.2.2.2.1, s6.2.2.2.2.2.2.1, s6.2.2.2.2.2.2.2.1, s6.2.2.2.2.2.2.2.2.1] q14.2.2.2.2.1.toNat (IntKind.i64.wrap (([s6.2.2.2.1, s6.2.2.2.2.1, s6.2.2.2.2.2.1, s6.2.2.2.2.2.2.1, s6.2.2.2.2.2.2.2.1, s6.2.2.2.2.2.2.2.2.1].getD q14.2.2.2.2.1.toNat 0) + 1))).getD 2 0), .int .i64 ((putN 6 0 [s6.2.2.2.1, s6.2.2.2.2.1, s6.2.2.2.2.2.1, s6.2.2.2.2.2.2.1, s6.2.2.2.2.2.2.2.1, s6.2.2.2.2.2.2.2.2.1] q14.2.2.2.2.1.toNat (IntKind.i64.wrap (([s6.2.2.2.1, s6.2.2.2.2.1, s6.2.2.2.2.2.1, s6.2.2.2.2.2.2.1, s6.2.2.2.2.2.2.2.1, s6.2.2.2.2.2.2.2.2.1].getD q14.2.2.2.2.1.toNat 0) + 1))).getD 3 0), .int .i64 ((putN 6 0 [s6.2.2.2.1, s6.2.2.2.2.1, s6.2.2.2.2.2.1, s6.2.2.2.2.2.2.1, s6.2.2.2.2.2.2.2.1, s6.2.2.2.2.2.2.2.2.1] q14.2.2.2.2.1.toNat (IntKind.i64.wrap (([s6.2.2.2.1, s6.2.2.2.2.1, s6.2.2.2.2.2.1, s6.2.2.2.2.2.2.1, s6.2.2.2.2.2.2.2.1, s6.2.2.2.2.2.2.2.2.1].getD q14.2.2.2.2.1.toNat 0) + 1))).getD 4 0), .int .i64 ((putN 6 0 [s6.2.2.2.1, s6.2.2.2.2.1, s6.2.2.2.2.2.1, s6.2.2.2.2.2.2.1, s6.2.2.2.2.2.2.2.1, s6.2.2.2.2.2.2.2.2.1] q14.2.2.2.2.1.toNat (IntKind.i64.wrap (([s6.2.2.2.1, s6.2.2.2.2.1, s6.2.2.2.2.2.1, s6.2.2.2.2.2.2.1, s6.2.2.2.2.2.2.2.1, s6.2.2.2.2.2.2.2.2.1].getD q14.2.2.2.2.1.toNat 0) + 1))).getD 5 0), v7] 78 (0, 0))], g8]]] rfl z_mix rfl ⟨fun _ _ _ _ _ => trivial, trivial⟩ ⟨⟨fun _ _ _ _ hl h => h, ⟨fun _ _ _ _ hl h => h, ⟨fun _ _ _ _ hl h => h, trivial⟩⟩⟩, trivial⟩ rfl rfl ?_ (allB_cons (allB_cons (allB_cons (allB_cons (allB_cons (allB_cons (allB_cons (allB_cons (allB_cons (allB_cons (allB_cons (allB_cons (allB_cons allB_nil (p4 dA)) (p4 dA)) (p4 dA)) ?_) (p4 dA)) (p4 dA)) ?_) ?_) (p4 dA)) (p4 dA)) (p4 dA)) ?_) ?_) ?_
    ·exact rfl
    ·intro ρ' τ pool rs hl hd hout hw hk
     obtain ⟨_, e2, rfl⟩ := hd 2 rfl _ rfl
     refine o_load (j := 0) (v := .int .i64 q14.2.2.2.2.1) rfl rfl rfl z_sc3 e2 rfl rfl ?_
     exact hk _ _ (Sto.Le.refl _) rfl
    ·intro ρ' τ pool rs hl hd hout hw hk
     obtain ⟨_, e3, rfl⟩ := hd 3 rfl _ rfl
     obtain ⟨_, e5, rfl⟩ := hd 5 rfl _ rfl
     refine o_indexA rfl rfl rfl z_arr23 e5 e3 hf28 hf29 ?_
     exact hk _ _ (Sto.Le.refl _) rfl
    ·intro ρ' τ u Fv pool rs hl hI hu hd hout hw hk
     obtain ⟨_, e6, rfl⟩ := hd 6 rfl _ rfl
     have hI0 := hI
     obtain rfl := hI
     refine st_gs [[(b23, .cells #[.int .i64 q14.1, .int .u32 q14.2.1, .int .i64 q14.2.2.1, .int .i64 q14.2.2.2.1, .int .i64 q14.2.2.2.2.1, .int .i64 (q14.2.2.2.2.2.1.getD 0 0), .int .i64 (q14.2.2.2.2.2.1.getD 1 0), .int .i64 (q14.2.2.2.2.2.1.getD 2 0), .int .i64 (q14.2.2.2.2.2.1.getD 3 0), .int .i64 (q14.2.2.2.2.2.1.getD 4 0), .int .i64 (q14.2.2.2.2.2.1.getD 5 0), v18, v19, .string q14.2.2.2.2.2.2.2.2.1, .string q14.2.2.2.2.2.2.2.2.2] 31 (0, 0))], [(ba0, .cells #[.int .i64 (IntKind.i64.wrap (s6.2.1 + 1)), .int .i64 s6.2.2.1, .int .i64 s6.2.2.2.1, .int .i64 s6.2.2.2.2.1, .int .i64 s6.2.2.2.2.2.1, .int .i64 s6.2.2.2.2.2.2.1, .int .i64 s6.2.2.2.2.2.2.2.1, .int .i64 s6.2.2.2.2.2.2.2.2.1, v7] 78 (0, 0))], g8, pool] rfl ?_
     refine o_loadV (j := 1) (q14.2.2.2.2.1.toNat) (f := (Value.int .i64)) (zz := 0) (l := 6) (xs := [s6.2.2.2.1, s6.2.2.2.2.1, s6.2.2.2.2.2.1, s6.2.2.2.2.2.2.1, s6.2.2.2.2.2.2.2.1, s6.2.2.2.2.2.2.2.2.1]) [.int .i64 (IntKind.i64.wrap (s6.2.1 + 1)), .int .i64 s6.2.2.1] [v7] rfl rfl rfl z_sc3 e6 rfl (by simp only [List.length_cons, List.length_nil] <;> omega) (by omega) ?_
     exact hk _ _ [[(ba0, .cells #[.int .i64 (IntKind.i64.wrap (s6.2.1 + 1)), .int .i64 s6.2.2.1, .int .i64 s6.2.2.2.1, .int .i64 s6.2.2.2.2.1, .int .i64 s6.2.2.2.2.2.1, .int .i64 s6.2.2.2.2.2.2.1, .int .i64 s6.2.2.2.2.2.2.2.1, .int .i64 s6.2.2.2.2.2.2.2.2.1, v7] 78 (0, 0))], g8] (Sto.Le.refl _) rfl (by exact hI0)
    ·intro ρ' τ pool rs hl hd hout hw hk
     obtain ⟨_, e3, rfl⟩ := hd 3 rfl _ rfl
     obtain ⟨_, e10, rfl⟩ := hd 10 rfl _ rfl
     refine o_indexA rfl rfl rfl z_arr23 e10 e3 hf30 hf31 ?_
     exact hk _ _ (Sto.Le.refl _) rfl
    ·intro ρ' τ u Fv pool rs hl hI hu hd hout hw hk
     obtain ⟨_, e8, rfl⟩ := hd 8 rfl _ rfl
     obtain ⟨_, e11, rfl⟩ := hd 11 rfl _ rfl
     have hI0 := hI
     obtain rfl := hI
     refine st_gs [[(b23, .cells #[.int .i64 q14.1, .int .u32 q14.2.1, .int .i64 q14.2.2.1, .int .i64 q14.2.2.2.1, .int .i64 q14.2.2.2.2.1, .int .i64 (q14.2.2.2.2.2.1.getD 0 0), .int .i64 (q14.2.2.2.2.2.1.getD 1 0), .int .i64 (q14.2.2.2.2.2.1.getD 2 0), .int .i64 (q14.2.2.2.2.2.1.getD 3 0), .int .i64 (q14.2.2.2.2.2.1.getD 4 0), .int .i64 (q14.2.2.2.2.2.1.getD 5 0), v18, v19, .string q14.2.2.2.2.2.2.2.2.1, .string q14.2.2.2.2.2.2.2.2.2] 31 (0, 0))], [(ba0, .cells #[.int .i64 (IntKind.i64.wrap (s6.2.1 + 1)), .int .i64 s6.2.2.1, .int .i64 s6.2.2.2.1, .int .i64 s6.2.2.2.2.1, .int .i64 s6.2.2.2.2.2.1, .int .i64 s6.2.2.2.2.2.2.1, .int .i64 s6.2.2.2.2.2.2.2.1, .int .i64 s6.2.2.2.2.2.2.2.2.1, v7] 78 (0, 0))], g8, pool] rfl ?_
     refine o_storeV (j := 1) (q14.2.2.2.2.1.toNat) (f := (Value.int .i64)) (zz := 0) (a := (IntKind.i64.wrap (([s6.2.2.2.1, s6.2.2.2.2.1, s6.2.2.2.2.2.1, s6.2.2.2.2.2.2.1, s6.2.2.2.2.2.2.2.1, s6.2.2.2.2.2.2.2.2.1].getD q14.2.2.2.2.1.toNat 0) + 1))) (l := 6) (xs := [s6.2.2.2.1, s6.2.2.2.2.1, s6.2.2.2.2.2.1, s6.2.2.2.2.2.2.1, s6.2.2.2.2.2.2.2.1, s6.2.2.2.2.2.2.2.2.1]) [.int .i64 (IntKind.i64.wrap (s6.2.1 + 1)), .int .i64 s6.2.2.1] [v7] rfl rfl rfl z_size3 e11 e8 rfl rfl rfl (by simp only [List.length_cons, List.length_nil] <;> omega) (by omega) ?_
     refine st_gs [[(b23, .cells #[.int .i64 q14.1, .int .u32 q14.2.1, .int .i64 q14.2.2.1, .int .i64 q14.2.2.2.1, .int .i64 q14.2.2.2.2.1, .int .i64 (q14.2.2.2.2.2.1.getD 0 0), .int .i64 (q14.2.2.2.2.2.1.getD 1 0), .int .i64 (q14.2.2.2.2.2.1.getD 2 0), .int .i64 (q14.2.2.2.2.2.1.getD 3 0), .int .i64 (q14.2.2.2.2.2.1.getD 4 0), .int .i64 (q14.2.2.2.2.2.1.getD 5 0), v18, v19, .string q14.2.2.2.2.2.2.2.2.1, .string q14.2.2.2.2.2.2.2.2.2] 31 (0, 0))], [(ba0, .cells #[.int .i64 (IntKind.i64.wrap (s6.2.1 + 1)), .int .i64 s6.2.2.1, .int .i64 ((putN 6 0 [s6.2.2.2.1, s6.2.2.2.2.1, s6.2.2.2.2.2.1, s6.2.2.2.2.2.2.1, s6.2.2.2.2.2.2.2.1, s6.2.2.2.2.2.2.2.2.1] q14.2.2.2.2.1.toNat (IntKind.i64.wrap (([s6.2.2.2.1, s6.2.2.2.2.1, s6.2.2.2.2.2.1, s6.2.2.2.2.2.2.1, s6.2.2.2.2.2.2.2.1, s6.2.2.2.2.2.2.2.2.1].getD q14.2.2.2.2.1.toNat 0) + 1))).getD 0 0), .int .i64 ((putN 6 0 [s6.2.2.2.1, s6.2.2.2.2.1, s6.2.2.2.2.2.1, s6.2.2.2.2.2.2.1, s6.2.2.2.2.2.2.2.1, s6.2.2.2.2.2.2.2.2.1] q14.2.2.2.2.1.toNat (IntKind.i64.wrap (([s6.2.2.2.1, s6.2.2.2.2.1, s6.2.2.2.2.2.1, s6.2.2.2.2.2.2.1, s6.2.2.2.2.2.2.2.1, s6.2.2.2.2.2.2.2.2.1].getD q14.2.2.2.2.1.toNat 0) + 1))).getD 1 0), .int .i64 ((putN 6 0 [s6.2.2.2.1, s6.2.2.2.2.1, s6.2.2.2.2.2.1, s6.2.2.2.2.2.2.1, s6.2.2.2.2.2.2.2.1, s6.2.2.2.2.2.2.2.2.1] q14.2.2.2.2.1.toNat (IntKind.i64.wrap (([s6.2.2.2.1, s6.2.2.2.2.1, s6.2.2.2.2.2.1, s6.2.2.2.2.2.2.1, s6.2.2.2.2.2.2.2.1, s6.2.2.2.2.2.2.2.2.1].getD q14.2.2.2.2.1.toNat 0) + 1))).getD 2 0), .int .i64 ((putN 6 0 [s6.2.2.2.1, s6.2.2.2.2.1, s6.2.2.2.2.2.1, s6.2.2.2.2.2.2.1, s6.2.2.2.2.2.2.2.1, s6.2.2.2.2.2.2.2.2.1] q14.2.2.2.2.1.toNat (IntKind.i64.wrap (([s6.2.2.2.1, s6.2.2.2.2.1, s6.2.2.2.2.2.1, s6.2.2.2.2.2.2.1, s6.2.2.2.2.2.2.2.1, s6.2.2.2.2.2.2.2.2.1].getD q14.2.2.2.2.1.toNat 0) + 1))).getD 3 0), .int .i64 ((putN 6 0 [s6.2.2.2.1, s6.2.2.2.2.1, s6.2.2.2.2.2.1, s6.2.2.2.2.2.2.1, s6.2.2.2.2.2.2.2.1, s6.2.2.2.2.2.2.2.2.1] q14.2.2.2.2.1.toNat (IntKind.i64.wrap (([s6.2.2.2.1, s6.2.2.2.2.1, s6.2.2.2.2.2.1, s6.2.2.2.2.2.2.1, s6.2.2.2.2.2.2.2.1, s6.2.2.2.2.2.2.2.2.1].getD q14.2.2.2.2.1.toNat 0) + 1))).getD 4 0), .int .i64 ((putN 6 0 [s6.2.2.2.1, s6.2.2.2.2.1, s6.2.2.2.2.2.1, s6.2.2.2.2.2.2.1, s6.2.2.2.2.2.2.2.1, s6.2.2.2.2.2.2.2.2.1] q14.2.2.2.2.1.toNat (IntKind.i64.wrap (([s6.2.2.2.1, s6.2.2.2.2.1, s6.2.2.2.2.2.1, s6.2.2.2.2.2.2.1, s6.2.2.2.2.2.2.2.1, s6.2.2.2.2.2.2.2.2.1].getD q14.2.2.2.2.1.toNat 0) + 1))).getD 5 0), v7] 78 (0, 0))], g8, pool] rfl ?_
     exact hk _ _ [[(ba0, .cells #[.int .i64 (IntKind.i64.wrap (s6.2.1 + 1)), .int .i64 s6.2.2.1, .int .i64 ((putN 6 0 [s6.2.2.2.1, s6.2.2.2.2.1, s6.2.2.2.2.2.1, s6.2.2.2.2.2.2.1, s6.2.2.2.2.2.2.2.1, s6.2.2.2.2.2.2.2.2.1] q14.2.2.2.2.1.toNat (IntKind.i64.wrap (([s6.2.2.2.1, s6.2.2.2.2.1, s6.2.2.2.2.2.1, s6.2.2.2.2.2.2.1, s6.2.2.2.2.2.2.2.1, s6.2.2.2.2.2.2.2.2.1].getD q14.2.2.2.2.1.toNat 0) + 1))).getD 0 0), .int .i64 ((putN 6 0 [s6.2.2.2.1, s6.2.2.2.2.1, s6.2.2.2.2.2.1, s6.2.2.2.2.2.2.1, s6.2.2.2.2.2.2.2.1, s6.2.2.2.2.2.2.2.2.1] q14.2.2.2.2.1.toNat (IntKind.i64.wrap (([s6.2.2.2.1, s6.2.2.2.2.1, s6.2.2.2.2.2.1, s6.2.2.2.2.2.2.1, s6.2.2.2.2.2.2.2.1, s6.2.2.2.2.2.2.2.2.1].getD q14.2.2.2.2.1.toNat 0) + 1))).getD 1 0), .int .i64 ((putN 6 0 [s6.2.2.2.1, s6.2.2.2.2.1, s6.2.2.2.2.2.1, s6.2.2.2.2.2.2.1, s6.2.2.2.2.2.2.2.1, s6.2.2.2.2.2.2.2.2.1] q14.2.2.2.2.1.toNat (IntKind.i64.wrap (([s6.2.2.2.1, s6.2.2.2.2.1, s6.2.2.2.2.2.1, s6.2.2.2.2.2.2.1, s6.2.2.2.2.2.2.2.1, s6.2.2.2.2.2.2.2.2.1].getD q14.2.2.2.2.1.toNat 0) + 1))).getD 2 0), .int .i64 ((putN 6 0 [s6.2.2.2.1, s6.2.2.2.2.1, s6.2.2.2.2.2.1, s6.2.2.2.2.2.2.1, s6.2.2.2.2.2.2.2.1, s6.2.2.2.2.2.2.2.2.1] q14.2.2.2.2.1.toNat (IntKind.i64.wrap (([s6.2.2.2.1, s6.2.2.2.2.1, s6.2.2.2.2.2.1, s6.2.2.2.2.2.2.1, s6.2.2.2.2.2.2.2.1, s6.2.2.2.2.2.2.2.2.1].getD q14.2.2.2.2.1.toNat 0) + 1))).getD 3 0), .int .i64 ((putN 6 0 [s6.2.2.2.1, s6.2.2.2.2.1, s6.2.2.2.2.2.1, s6.2.2.2.2.2.2.1, s6.2.2.2.2.2.2.2.1, s6.2.2.2.2.2.2.2.2.1] q14.2.2.2.2.1.toNat (IntKind.i64.wrap (([s6.2.2.2.1, s6.2.2.2.2.1, s6.2.2.2.2.2.1, s6.2.2.2.2.2.2.1, s6.2.2.2.2.2.2.2.1, s6.2.2.2.2.2.2.2.2.1].getD q14.2.2.2.2.1.toNat 0) + 1))).getD 4 0), .int .i64 ((putN 6 0 [s6.2.2.2.1, s6.2.2.2.2.1, s6.2.2.2.2.2.1, s6.2.2.2.2.2.2.1, s6.2.2.2.2.2.2.2.1, s6.2.2.2.2.2.2.2.2.1] q14.2.2.2.2.1.toNat (IntKind.i64.wrap (([s6.2.2.2.1, s6.2.2.2.2.1, s6.2.2.2.2.2.1, s6.2.2.2.2.2.2.1, s6.2.2.2.2.2.2.2.1, s6.2.2.2.2.2.2.2.2.1].getD q14.2.2.2.2.1.toNat 0) + 1))).getD 5 0), v7] 78 (0, 0))], g8] (Sto.Le.refl _) trivial (by exact rfl)
    intro ρ' τ32 vals u Fv hl32 hI hu hv hout
    obtain rfl := hI
    refine st_gs [[(b23, .cells #[.int .i64 q14.1, .int .u32 q14.2.1, .int .i64 q14.2.2.1, .int .i64 q14.2.2.2.1, .int .i64 q14.2.2.2.2.1, .int .i64 (q14.2.2.2.2.2.1.getD 0 0), .int .i64 (q14.2.2.2.2.2.1.getD 1 0), .int .i64 (q14.2.2.2.2.2.1.getD 2 0), .int .i64 (q14.2.2.2.2.2.1.getD 3 0), .int .i64 (q14.2.2.2.2.2.1.getD 4 0), .int .i64 (q14.2.2.2.2.2.1.getD 5 0), v18, v19, .string q14.2.2.2.2.2.2.2.2.1, .string q14.2.2.2.2.2.2.2.2.2] 31 (0, 0))], [(ba0, .cells #[.int .i64 (IntKind.i64.wrap (s6.2.1 + 1)), .int .i64 s6.2.2.1, .int .i64 ((putN 6 0 [s6.2.2.2.1, s6.2.2.2.2.1, s6.2.2.2.2.2.1, s6.2.2.2.2.2.2.1, s6.2.2.2.2.2.2.2.1, s6.2.2.2.2.2.2.2.2.1] q14.2.2.2.2.1.toNat (IntKind.i64.wrap (([s6.2.2.2.1, s6.2.2.2.2.1, s6.2.2.2.2.2.1, s6.2.2.2.2.2.2.1, s6.2.2.2.2.2.2.2.1, s6.2.2.2.2.2.2.2.2.1].getD q14.2.2.2.2.1.toNat 0) + 1))).getD 0 0), .int .i64 ((putN 6 0 [s6.2.2.2.1, s6.2.2.2.2.1, s6.2.2.2.2.2.1, s6.2.2.2.2.2.2.1, s6.2.2.2.2.2.2.2.1, s6.2.2.2.2.2.2.2.2.1] q14.2.2.2.2.1.toNat (IntKind.i64.wrap (([s6.2.2.2.1, s6.2.2.2.2.1, s6.2.2.2.2.2.1, s6.2.2.2.2.2.2.1, s6.2.2.2.2.2.2.2.1, s6.2.2.2.2.2.2.2.2.1].getD q14.2.2.2.2.1.toNat 0) + 1))).getD 1 0), .int .i64 ((putN 6 0 [s6.2.2.2.1, s6.2.2.2.2.1, s6.2.2.2.2.2.1, s6.2.2.2.2.2.2.1, s6.2.2.2.2.2.2.2.1, s6.2.2.2.2.2.2.2.2.1] q14.2.2.2.2.1.toNat (IntKind.i64.wrap (([s6.2.2.2.1, s6.2.2.2.2.1, s6.2.2.2.2.2.1, s6.2.2.2.2.2.2.1, s6.2.2.2.2.2.2.2.1, s6.2.2.2.2.2.2.2.2.1].getD q14.2.2.2.2.1.toNat 0) + 1))).getD 2 0), .int .i64 ((putN 6 0 [s6.2.2.2.1, s6.2.2.2.2.1, s6.2.2.2.2.2.1, s6.2.2.2.2.2.2.1, s6.2.2.2.2.2.2.2.1, s6.2.2.2.2.2.2.2.2.1] q14.2.2.2.2.1.toNat (IntKind.i64.wrap (([s6.2.2.2.1, s6.2.2.2.2.1, s6.2.2.2.2.2.1, s6.2.2.2.2.2.2.1, s6.2.2.2.2.2.2.2.1, s6.2.2.2.2.2.2.2.2.1].getD q14.2.2.2.2.1.toNat 0) + 1))).getD 3 0), .int .i64 ((putN 6 0 [s6.2.2.2.1, s6.2.2.2.2.1, s6.2.2.2.2.2.1, s6.2.2.2.2.2.2.1, s6.2.2.2.2.2.2.2.1, s6.2.2.2.2.2.2.2.2.1] q14.2.2.2.2.1.toNat (IntKind.i64.wrap (([s6.2.2.2.1, s6.2.2.2.2.1, s6.2.2.2.2.2.1, s6.2.2.2.2.2.2.1, s6.2.2.2.2.2.2.2.1, s6.2.2.2.2.2.2.2.2.1].getD q14.2.2.2.2.1.toNat 0) + 1))).getD 4 0), .int .i64 ((putN 6 0 [s6.2.2.2.1, s6.2.2.2.2.1, s6.2.2.2.2.2.1, s6.2.2.2.2.2.2.1, s6.2.2.2.2.2.2.2.1, s6.2.2.2.2.2.2.2.2.1] q14.2.2.2.2.1.toNat (IntKind.i64.wrap (([s6.2.2.2.1, s6.2.2.2.2.1, s6.2.2.2.2.2.1, s6.2.2.2.2.2.2.1, s6.2.2.2.2.2.2.2.1, s6.2.2.2.2.2.2.2.2.1].getD q14.2.2.2.2.1.toNat 0) + 1))).getD 5 0), v7] 78 (0, 0))], g8] rfl ?_
    refine st_env (ρ' := [(0, .pointer (some ⟨ba0, 0, none⟩)), (8, v4), (9, .int .i64 (a1.length : Int)), (10, .int .i64 s6.1)]) ⟨(hout 0 rfl).trans rfl, (hout 8 rfl).trans rfl, (hout 9 rfl).trans rfl, (hout 10 rfl).trans rfl, trivial⟩ ?_
    refine Z 3 rfl ?_
    refine st_ord [1, 1] _ rfl ?_
    exact hk10 _ _ _ ⟨((IntKind.i64.wrap (s6.2.1 + 1)), s6.2.2.1, ((putN 6 0 [s6.2.2.2.1, s6.2.2.2.2.1, s6.2.2.2.2.2.1, s6.2.2.2.2.2.2.1, s6.2.2.2.2.2.2.2.1, s6.2.2.2.2.2.2.2.2.1] q14.2.2.2.2.1.toNat (IntKind.i64.wrap (([s6.2.2.2.1, s6.2.2.2.2.1, s6.2.2.2.2.2.1, s6.2.2.2.2.2.2.1, s6.2.2.2.2.2.2.2.1, s6.2.2.2.2.2.2.2.2.1].getD q14.2.2.2.2.1.toNat 0) + 1))).getD 0 0), ((putN 6 0 [s6.2.2.2.1, s6.2.2.2.2.1, s6.2.2.2.2.2.1, s6.2.2.2.2.2.2.1, s6.2.2.2.2.2.2.2.1, s6.2.2.2.2.2.2.2.2.1] q14.2.2.2.2.1.toNat (IntKind.i64.wrap (([s6.2.2.2.1, s6.2.2.2.2.1, s6.2.2.2.2.2.1, s6.2.2.2.2.2.2.1, s6.2.2.2.2.2.2.2.1, s6.2.2.2.2.2.2.2.2.1].getD q14.2.2.2.2.1.toNat 0) + 1))).getD 1 0), ((putN 6 0 [s6.2.2.2.1, s6.2.2.2.2.1, s6.2.2.2.2.2.1, s6.2.2.2.2.2.2.1, s6.2.2.2.2.2.2.2.1, s6.2.2.2.2.2.2.2.2.1] q14.2.2.2.2.1.toNat (IntKind.i64.wrap (([s6.2.2.2.1, s6.2.2.2.2.1, s6.2.2.2.2.2.1, s6.2.2.2.2.2.2.1, s6.2.2.2.2.2.2.2.1, s6.2.2.2.2.2.2.2.2.1].getD q14.2.2.2.2.1.toNat 0) + 1))).getD 2 0), ((putN 6 0 [s6.2.2.2.1, s6.2.2.2.2.1, s6.2.2.2.2.2.1, s6.2.2.2.2.2.2.1, s6.2.2.2.2.2.2.2.1, s6.2.2.2.2.2.2.2.2.1] q14.2.2.2.2.1.toNat (IntKind.i64.wrap (([s6.2.2.2.1, s6.2.2.2.2.1, s6.2.2.2.2.2.1, s6.2.2.2.2.2.2.1, s6.2.2.2.2.2.2.2.1, s6.2.2.2.2.2.2.2.2.1].getD q14.2.2.2.2.1.toNat 0) + 1))).getD 3 0), ((putN 6 0 [s6.2.2.2.1, s6.2.2.2.2.1, s6.2.2.2.2.2.1, s6.2.2.2.2.2.2.1, s6.2.2.2.2.2.2.2.1, s6.2.2.2.2.2.2.2.2.1] q14.2.2.2.2.1.toNat (IntKind.i64.wrap (([s6.2.2.2.1, s6.2.2.2.2.1, s6.2.2.2.2.2.1, s6.2.2.2.2.2.2.1, s6.2.2.2.2.2.2.2.1, s6.2.2.2.2.2.2.2.2.1].getD q14.2.2.2.2.1.toNat 0) + 1))).getD 4 0), ((putN 6 0 [s6.2.2.2.1, s6.2.2.2.2.1, s6.2.2.2.2.2.1, s6.2.2.2.2.2.2.1, s6.2.2.2.2.2.2.2.1, s6.2.2.2.2.2.2.2.2.1] q14.2.2.2.2.1.toNat (IntKind.i64.wrap (([s6.2.2.2.1, s6.2.2.2.2.1, s6.2.2.2.2.2.1, s6.2.2.2.2.2.2.1, s6.2.2.2.2.2.2.2.1, s6.2.2.2.2.2.2.2.2.1].getD q14.2.2.2.2.1.toNat 0) + 1))).getD 5 0), s6.2.2.2.2.2.2.2.2.2), _, _, h, (hl27.trans hl32), rfl, rfl, (ho9.up (hl27.trans hl32))⟩
  ·refine Z 5 rfl ?_
   refine st_if rfl h (fun h => ?_) (fun h => ?_)
   ·refine st_draw 8 (dl [.v (.pointer (some ⟨ba0, 0, none⟩)), .v (.pointer (some ⟨ba0, 0, none⟩)), .v (.pointer (some ⟨ba0, 8, none⟩)), .v (v7), .v (.pointer (some ⟨b23, 3, none⟩)), .v (.int .i64 q14.2.2.2.1), .v (.int .i64 ((mget s6.2.2.2.2.2.2.2.2.2 q14.2.2.2.1).getD 0)), .v (.int .i64 (IntKind.i64.wrap (((mget s6.2.2.2.2.2.2.2.2.2 q14.2.2.2.1).getD 0) + 1)))]) (fun _ _ => []) z_mix rfl (dl_mono trivial) (allB_cons (allB_cons (allB_cons (allB_cons (allB_cons (allB_cons (allB_cons (allB_cons allB_nil (p1 dA)) (p1 dA)) (p1 dA)) ?_) (p1 dA)) ?_) ?_) (p1 dA)) ?_
    ·intro ρ' τ pool rs hl hd hout hk
     obtain ⟨_, e2, rfl⟩ := hd 2 rfl
     refine o_load (j := 1) (v := v7) rfl rfl rfl z_sc76 e2 rfl rfl ?_
     exact st_addNil (hk _ _ (Sto.Le.refl _) rfl)
    ·intro ρ' τ pool rs hl hd hout hk
     obtain ⟨_, e4, rfl⟩ := hd 4 rfl
     refine o_load (j := 0) (v := .int .i64 q14.2.2.2.1) rfl rfl rfl z_sc28 e4 rfl rfl ?_
     exact st_addNil (hk _ _ (Sto.Le.refl _) rfl)
    ·intro ρ' τ pool rs hl hd hout hk
     obtain ⟨_, e3, rfl⟩ := hd 3 rfl
     obtain ⟨_, e5, rfl⟩ := hd 5 rfl
     refine o_lookup (fv := (Value.int .i64)) (q0 := 0) (j := 2) (a := q14.2.2.2.1) rfl rfl rfl z_map76 (keyI Tryd.underlying28) z_zeroV3 e3 (ho9.up hl) rfl e5 ?_
     exact st_addNil (hk _ _ (Sto.Le.refl _) rfl)
    intro ρ' τ33 vals hl33 hv hout
    refine st_ord [0, 0, 0] _ rfl ?_
    refine st_env (ρ' := [(47, v7), (49, .int .i64 q14.2.2.2.1), (51, .int .i64 (IntKind.i64.wrap (((mget s6.2.2.2.2.2.2.2.2.2 q14.2.2.2.1).getD 0) + 1))), (0, .pointer (some ⟨ba0, 0, none⟩)), (8, v4), (9, .int .i64 (a1.length : Int)), (10, .int .i64 s6.1)]) ⟨(lv1 hv 3 rfl rfl), (lv1 hv 5 rfl rfl), (lv1 hv 7 rfl rfl), (hout 0 rfl).trans rfl, (hout 8 rfl).trans rfl, (hout 9 rfl).trans rfl, (hout 10 rfl).trans rfl, trivial⟩ ?_
    refine o_mapUpdate (j := 2) (a := q14.2.2.2.1) (q := (IntKind.i64.wrap (((mget s6.2.2.2.2.2.2.2.2.2 q14.2.2.2.1).getD 0) + 1))) rfl rfl rfl z_map76 (keyI Tryd.underlying28) rfl (ho9.up hl33) rfl rfl rfl (fun g34 ho35 => ?_)
    refine st_gs [[(b23, .cells #[.int .i64 q14.1, .int .u32 q14.2.1, .int .i64 q14.2.2.1, .int .i64 q14.2.2.2.1, .int .i64 q14.2.2.2.2.1, .int .i64 (q14.2.2.2.2.2.1.getD 0 0), .int .i64 (q14.2.2.2.2.2.1.getD 1 0), .int .i64 (q14.2.2.2.2.2.1.getD 2 0), .int .i64 (q14.2.2.2.2.2.1.getD 3 0), .int .i64 (q14.2.2.2.2.2.1.getD 4 0), .int .i64 (q14.2.2.2.2.2.1.getD 5 0), v18, v19, .string q14.2.2.2.2.2.2.2.2.1, .string q14.2.2.2.2.2.2.2.2.2] 31 (0, 0))], [(ba0, .cells #[.int .i64 s6.2.1, .int .i64 s6.2.2.1, .int .i64 s6.2.2.2.1, .int .i64 s6.2.2.2.2.1, .int .i64 s6.2.2.2.2.2.1, .int .i64 s6.2.2.2.2.2.2.1, .int .i64 s6.2.2.2.2.2.2.2.1, .int .i64 s6.2.2.2.2.2.2.2.2.1, v7] 78 (0, 0))], g34] rfl ?_
    refine Z 3 rfl ?_
    refine st_ord [1, 1] _ rfl ?_
    exact hk10 _ _ _ ⟨(s6.2.1, s6.2.2.1, s6.2.2.2.1, s6.2.2.2.2.1, s6.2.2.2.2.2.1, s6.2.2.2.2.2.2.1, s6.2.2.2.2.2.2.2.1, s6.2.2.2.2.2.2.2.2.1, (mput s6.2.2.2.2.2.2.2.2.2 q14.2.2.2.1 (IntKind.i64.wrap (((mget s6.2.2.2.2.2.2.2.2.2 q14.2.2.2.1).getD 0) + 1)))), _, _, h, hl33, rfl, rfl, ho35⟩
   ·refine Z 5 rfl ?_
    refine st_if rfl h (fun h => ?_) (fun h => ?_)
    ·refine ZZ 12 [1, 1] rfl rfl ?_
     refine st_ord [1, 1] _ rfl ?_
     exact hk10 _ _ _ ⟨(s6.2.1, (IntKind.i64.wrap (s6.2.2.1 + 1)), s6.2.2.2.1, s6.2.2.2.2.1, s6.2.2.2.2.2.1, s6.2.2.2.2.2.2.1, s6.2.2.2.2.2.2.2.1, s6.2.2.2.2.2.2.2.2.1, s6.2.2.2.2.2.2.2.2.2), _, _, h, (Sto.Le.refl _), rfl, rfl, ho9⟩
    ·refine Z 3 rfl ?_
     refine st_ord [1, 1] _ rfl ?_
     exact hk10 _ _ _ ⟨(s6.2.1, s6.2.2.1, s6.2.2.2.1, s6.2.2.2.2.1, s6.2.2.2.2.2.1, s6.2.2.2.2.2.2.1, s6.2.2.2.2.2.2.2.1, s6.2.2.2.2.2.2.2.2.1, s6.2.2.2.2.2.2.2.2.2), _, _, h, (Sto.Le.refl _), rfl, rfl, ho9⟩
 ·refine Z 2 rfl ?_
  obtain rfl := he6 _ h
  replace h := hA6
  obtain rfl := Eq.symm h
  exact st_fin (gs' := [[(ba0, .cells #[.int .i64 s6.2.1, .int .i64 s6.2.2.1, .int .i64 s6.2.2.2.1, .int .i64 s6.2.2.2.2.1, .int .i64 s6.2.2.2.2.2.1, .int .i64 s6.2.2.2.2.2.2.1, .int .i64 s6.2.2.2.2.2.2.2.1, .int .i64 s6.2.2.2.2.2.2.2.2.1, v7] 78 (0, 0))], g8]) Tryd.func16 rfl (List.Sublist.refl _) hl6 ⟨_, _, rfl, rfl, ho9⟩
theorem field_Kinds_1_ok  {σ0 : Sto}  :
    IterV Tryd.prog (fun _ x vx => vx = [.int .i64 x.1, .string x.2]) (.func (.func 67) #[] [].toArray) σ0 [] (fun (_ : Unit) _ f => f = []) (field_Kinds_1) := by
 intro S Y I y hyc hyo hIm hY s s' o hR σ g hle hIg
 obtain ⟨r, hr0⟩ : ∃ r, r = (s', o) := ⟨_, rfl⟩
 rw [← hr0] at hR
 have h := hR
 refine callV_of (caps := []) z_en67 ?_
 refine call_of Tryd.func67 Tryd.ntmps67 rfl rfl (fun cs fs => ?_)
 refine st_ord [0] _ rfl ?_
 refine Z 4 rfl ?_
 obtain ⟨e1, hL1, hA1⟩ := h
 refine st_loop hL1 (fun (s1 : S × Int) ρ τ1 gs => σ.Le τ1 ∧ ∃ (g2 : Grp), ESub ρ [(0, y), (2, .int .i64 s1.2)] ∧ gs = [g2] ∧ I s1.1 τ1 g2) ⟨Sto.Le.refl _, g, rfl, rfl, hIg⟩ ?_
 rintro s1 o1 h he1 ρ1 τ1 gs1 ⟨hl1, g2, hρ, rfl, hI3⟩ hn1
 refine st_es hρ ?_
 refine Z 6 rfl ?_
 refine st_if rfl h (fun h => ?_) (fun h => ?_)
 ·refine Z 8 rfl ?_
  obtain ⟨r4, hr5, h⟩ := h
  refine st_call (foot := []) rfl rfl rfl rfl rfl rfl (callV_fn z_en40 (field_Word_ok hr5 τ1)) ?_
  rintro vτ6 τ6 gsτ6 hl7 ⟨rfl, rfl⟩
  obtain ⟨y8, u9, hy10, h⟩ := h
  refine st_call (foot := [g2]) rfl rfl rfl rfl rfl rfl (hY (s1.2, r4) s1.1 _ _ _ _ _ (hle.trans (hl1.trans hl7)) hy10 rfl (hIm _ _ _ _ hl7 hI3)) ?_
  rintro vτ11 τ11 gsτ11 hl12 ⟨rfl, g13, rfl, hI14⟩
  refine Z 2 rfl ?_
  refine st_if rfl h (fun h => ?_) (fun h => ?_)
  ·obtain rfl := he1 _ h
   replace h := hA1
   obtain rfl := Eq.symm h
   cases hr0
   exact st_ret (gs' := [g13, []]) Tryd.func67 rfl (by simp) ((hl1.trans hl7).trans hl12) ⟨g13, _, rfl, hI14, rfl⟩
  ·refine Z 7 rfl ?_
   exact hn1 _ _ _ _ h ⟨((hl1.trans hl7).trans hl12), g13, rfl, rfl, hI14⟩
 ·refine st_exit rfl ?_
  obtain rfl := he1 _ h
  replace h := hA1
  obtain rfl := Eq.symm h
  cases hr0
  exact st_fin (gs' := [g2, []]) Tryd.func67 rfl (by simp) hl1 ⟨g2, _, rfl, hI3, rfl⟩
theorem field_Kinds_ok  {r : (((S : Type) → ((Int × ByteArray) → S → Bool × S → Prop) → S → S × Unit → Prop))} (h : field_Kinds r) (σ : Sto)  :
    Does Tryd.prog 46 [] σ [] (fun v τ gs => ∃ (f1 : Nat) (q2 : Array Value), gs = [] ∧ .func (.func f1) #[] q2 = v ∧ IterV Tryd.prog (fun _ x vx => vx = [.int .i64 x.1, .string x.2]) (.func (.func f1) #[] q2) τ [] (fun (_ : Unit) _ f => f = []) r) := by
 refine call_of Tryd.func46 Tryd.ntmps46 rfl rfl (fun cs fs => ?_)
 refine Z 8 rfl ?_
 obtain rfl := Eq.symm h
 exact st_ret (gs' := []) Tryd.func46 rfl (List.Sublist.refl _) (Sto.Le.refl _) ⟨_, _, rfl, rfl, (field_Kinds_1_ok )⟩
theorem tally_Tally_Errors_1_ok {c0 : Int × Int × List Int × List (Int × Int)} {bc0 : Nat} {bp0 : Nat} {v1 : Value} {g2 : Grp} {σ0 : Sto} (hc0_0 : Cel σ0 ⟨bc0, 0, none⟩ (.pointer (some ⟨bp0, 0, none⟩))) (ho3 : Mp (Value.int .i64) (rF (Value.int .i64)) σ0 v1 c0.2.2.2 g2) :
    IterV Tryd.prog (fun _ x vx => vx = [.int .i64 x.1, .int .i64 x.2]) (.func (.func 42) #[] [.pointer (some ⟨bc0, 0, none⟩)].toArray) σ0 ([(bp0, .cells [.int .i64 c0.1, .int .i64 c0.2.1, .int .i64 (c0.2.2.1.getD 0 0), .int .i64 (c0.2.2.1.getD 1 0), .int .i64 (c0.2.2.1.getD 2 0), .int .i64 (c0.2.2.1.getD 3 0), .int .i64 (c0.2.2.1.getD 4 0), .int .i64 (c0.2.2.1.getD 5 0), v1].toArray 78 (0, 0))] ++ g2) (fun (oo : (Int × Int × List Int × List (Int × Int))) υ f => ∃ (v33 : Value) (g34 : Grp), f = ([(bp0, .cells [.int .i64 oo.1, .int .i64 oo.2.1, .int .i64 (oo.2.2.1.getD 0 0), .int .i64 (oo.2.2.1.getD 1 0), .int .i64 (oo.2.2.1.getD 2 0), .int .i64 (oo.2.2.1.getD 3 0), .int .i64 (oo.2.2.1.getD 4 0), .int .i64 (oo.2.2.1.getD 5 0), v33].toArray 78 (0, 0))] ++ g34) ∧ Mp (Value.int .i64) (rF (Value.int .i64)) υ v33 oo.2.2.2 g34) (tally_Tally_Errors_1 c0) := by
 intro S Y I y hyc hyo hIm hY s s' o hR σ g hle hIg
 obtain ⟨r, hr0⟩ : ∃ r, r = (s', o) := ⟨_, rfl⟩
 rw [← hr0] at hR
 have h := hR
 refine callV_of (caps := [.pointer (some ⟨bc0, 0, none⟩)]) z_en42 ?_
 refine call_of Tryd.func42 Tryd.ntmps42 rfl rfl (fun cs fs => ?_)
 refine st_perm (gs' := [g, [(bp0, .cells #[.int .i64 c0.1, .int .i64 c0.2.1, .int .i64 (c0.2.2.1.getD 0 0), .int .i64 (c0.2.2.1.getD 1 0), .int .i64 (c0.2.2.1.getD 2 0), .int .i64 (c0.2.2.1.getD 3 0), .int .i64 (c0.2.2.1.getD 4 0), .int .i64 (c0.2.2.1.getD 5 0), v1] 78 (0, 0))], g2]) (by simp) ?_
 refine Z 3 rfl ?_
 refine o_loadI (v := .pointer (some ⟨bp0, 0, none⟩)) rfl rfl rfl z_sc48 rfl (Cel.up hc0_0 hle) ?_
 refine Z 6 rfl ?_
 refine o_loadI (v := .pointer (some ⟨bp0, 0, none⟩)) rfl rfl rfl z_sc48 rfl (Cel.up hc0_0 hle) ?_
 refine ZZ 3 [1] rfl rfl ?_
 refine st_call (foot := []) rfl rfl rfl rfl rfl rfl (callV_fn z_en44 (keys_does Tryd.keys44 (ho3.up hle))) ?_
 rintro vτ4 τ4 gsτ4 hl5 ⟨b6, rfl, rfl, hc7⟩
 obtain ⟨hf10, hf11, h⟩ := h
 refine st_ord [2, 0, 0] _ rfl ?_
 refine st_call (foot := [g2]) rfl rfl rfl rfl rfl rfl (callV_fn z_en43 (sorted_does Tryd.sorted43 Tryd.keys44 Tryd.sorts43 Tryd.enter64 Tryd.enter65 hc7 (ho3.up (hle.trans hl5)) hf10 hf11)) ?_
 rintro vτ8 τ8 gsτ8 hl9 ⟨v12, g13, rfl, rfl, ho14⟩
 replace ho14 : Ow (kI .i64) 28 τ8 v12 (skeys c0.2.2.2) g13 := ho14
 refine o_lenO rfl rfl rfl z_slT82 rfl ho14 ?_
 refine Z 2 rfl ?_
 obtain ⟨e15, hL15, hA15⟩ := h
 refine st_ord [3, 0, 0, 0] _ rfl ?_
 refine st_loop hL15 (fun (s15 : S × Int) ρ τ15 gs => τ8.Le τ15 ∧ ∃ (g16 : Grp), ESub ρ [(0, y), (1, .pointer (some ⟨bc0, 0, none⟩)), (12, v12), (13, .int .i64 ((skeys c0.2.2.2).length : Int)), (14, .int .i64 s15.2)] ∧ gs = [[(bp0, .cells #[.int .i64 c0.1, .int .i64 c0.2.1, .int .i64 (c0.2.2.1.getD 0 0), .int .i64 (c0.2.2.1.getD 1 0), .int .i64 (c0.2.2.1.getD 2 0), .int .i64 (c0.2.2.1.getD 3 0), .int .i64 (c0.2.2.1.getD 4 0), .int .i64 (c0.2.2.1.getD 5 0), v1] 78 (0, 0))], g13, g2, g16] ∧ I s15.1 τ15 g16) ⟨Sto.Le.refl _, g, rfl, rfl, (hIm _ _ _ _ (hl5.trans hl9) hIg)⟩ ?_
 rintro s15 o15 h he15 ρ15 τ15 gs15 ⟨hl15, g16, hρ, rfl, hI17⟩ hn15
 refine st_es hρ ?_
 refine Z 5 rfl ?_
 refine st_if rfl h (fun h => ?_) (fun h => ?_)
 ·refine Z 5 rfl ?_
  obtain ⟨q18, hf19, h⟩ := h
  refine o_indexOw rfl rfl rfl z_slT82 rfl rfl (ho14.up hl15) rfl hf19 (fun b20 hb21 => ?_)
  obtain ⟨vs22, hrep23, hat24⟩ := Ow.at (ho14.up hl15) hb21 hf19
  obtain rfl := hrep23
  refine o_loadOw (off := 0) (j := 1) (v := .int .i64 q18) rfl rfl rfl z_sc28 rfl hat24 rfl rfl ?_
  refine Z 6 rfl ?_
  refine o_loadI (v := .pointer (some ⟨bp0, 0, none⟩)) rfl rfl rfl z_sc48 rfl (Cel.up hc0_0 (((hle.trans hl5).trans hl9).trans hl15)) ?_
  refine ZZ 4 [0] rfl rfl ?_
  refine o_lookup (fv := (Value.int .i64)) (q0 := 0) (j := 2) (a := q18) rfl rfl rfl z_map76 (keyI Tryd.underlying28) z_zeroV3 rfl (ho3.up (((hle.trans hl5).trans hl9).trans hl15)) rfl rfl ?_
  obtain ⟨y25, u26, hy27, h⟩ := h
  refine st_ord [3, 0, 0, 0] _ rfl ?_
  refine st_call (foot := [g16]) rfl rfl rfl rfl rfl rfl (hY (q18, ((mget c0.2.2.2 q18).getD 0)) s15.1 _ _ _ _ _ (hle.trans ((hl5.trans hl9).trans hl15)) hy27 rfl hI17) ?_
  rintro vτ28 τ28 gsτ28 hl29 ⟨rfl, g30, rfl, hI31⟩
  refine Z 2 rfl ?_
  refine st_if rfl h (fun h => ?_) (fun h => ?_)
  ·refine st_ord [0, 0, 1] _ rfl ?_
   obtain rfl := he15 _ h
   replace h := hA15
   obtain rfl := Eq.symm h
   cases hr0
   exact st_ret (gs' := [g30, ([(bp0, .cells #[.int .i64 c0.1, .int .i64 c0.2.1, .int .i64 (c0.2.2.1.getD 0 0), .int .i64 (c0.2.2.1.getD 1 0), .int .i64 (c0.2.2.1.getD 2 0), .int .i64 (c0.2.2.1.getD 3 0), .int .i64 (c0.2.2.1.getD 4 0), .int .i64 (c0.2.2.1.getD 5 0), v1] 78 (0, 0))] ++ g2)]) Tryd.func42 rfl (by simp) (((hl5.trans hl9).trans hl15).trans hl29) ⟨g30, _, rfl, hI31, ⟨_, _, rfl, (ho3.up ((((hle.trans hl5).trans hl9).trans hl15).trans hl29))⟩⟩
  ·refine Z 6 rfl ?_
   refine st_ord [1, 1, 1, 0] _ rfl ?_
   exact hn15 _ _ _ _ h ⟨(hl15.trans hl29), g30, rfl, rfl, hI31⟩
 ·refine st_exit rfl ?_
  refine st_ord [3, 0, 1] _ rfl ?_
  obtain rfl := he15 _ h
  replace h := hA15
  obtain rfl := Eq.symm h
  cases hr0
  exact st_fin (gs' := [g16, ([(bp0, .cells #[.int .i64 c0.1, .int .i64 c0.2.1, .int .i64 (c0.2.2.1.getD 0 0), .int .i64 (c0.2.2.1.getD 1 0), .int .i64 (c0.2.2.1.getD 2 0), .int .i64 (c0.2.2.1.getD 3 0), .int .i64 (c0.2.2.1.getD 4 0), .int .i64 (c0.2.2.1.getD 5 0), v1] 78 (0, 0))] ++ g2)]) Tryd.func42 rfl (by simp) ((hl5.trans hl9).trans hl15) ⟨g16, _, rfl, hI17, ⟨_, _, rfl, (ho3.up (((hle.trans hl5).trans hl9).trans hl15))⟩⟩
theorem tally_Tally_Errors_ok {a0 : Int × Int × List Int × List (Int × Int)} {ba0 : Nat} {v1 : Value} {g2 : Grp} {r : (((Int × Int × List Int × List (Int × Int)) → (S : Type) → ((Int × Int) → S → Bool × S → Prop) → S → S × (Int × Int × List Int × List (Int × Int)) → Prop))} (h : tally_Tally_Errors a0 r) (σ : Sto) (ho3 : Mp (Value.int .i64) (rF (Value.int .i64)) σ v1 a0.2.2.2 g2) :
    Does Tryd.prog 20 [.pointer (some ⟨ba0, 0, none⟩)] σ [[(ba0, .cells [.int .i64 a0.1, .int .i64 a0.2.1, .int .i64 (a0.2.2.1.getD 0 0), .int .i64 (a0.2.2.1.getD 1 0), .int .i64 (a0.2.2.1.getD 2 0), .int .i64 (a0.2.2.1.getD 3 0), .int .i64 (a0.2.2.1.getD 4 0), .int .i64 (a0.2.2.1.getD 5 0), v1].toArray 78 (0, 0))], g2] (fun v τ gs => ∃ (f12 : Nat) (q13 : Array Value), gs = [[(ba0, .cells [.int .i64 a0.1, .int .i64 a0.2.1, .int .i64 (a0.2.2.1.getD 0 0), .int .i64 (a0.2.2.1.getD 1 0), .int .i64 (a0.2.2.1.getD 2 0), .int .i64 (a0.2.2.1.getD 3 0), .int .i64 (a0.2.2.1.getD 4 0), .int .i64 (a0.2.2.1.getD 5 0), v1].toArray 78 (0, 0))], g2] ∧ .func (.func f12) #[] q13 = v ∧ ∀ (x16 : Int × Int × List Int × List (Int × Int)) (v17 : Value) (g18 : Grp) (σ15 : Sto), τ.Le σ15 → Mp (Value.int .i64) (rF (Value.int .i64)) σ15 v17 x16.2.2.2 g18 → IterV Tryd.prog (fun _ x vx => vx = [.int .i64 x.1, .int .i64 x.2]) (.func (.func f12) #[] q13) σ15 ([(ba0, .cells [.int .i64 x16.1, .int .i64 x16.2.1, .int .i64 (x16.2.2.1.getD 0 0), .int .i64 (x16.2.2.1.getD 1 0), .int .i64 (x16.2.2.1.getD 2 0), .int .i64 (x16.2.2.1.getD 3 0), .int .i64 (x16.2.2.1.getD 4 0), .int .i64 (x16.2.2.1.getD 5 0), v17].toArray 78 (0, 0))] ++ g18) (fun (o20 : (Int × Int × List Int × List (Int × Int))) υ f => ∃ (v21 : Value) (g22 : Grp), f = ([(ba0, .cells [.int .i64 o20.1, .int .i64 o20.2.1, .int .i64 (o20.2.2.1.getD 0 0), .int .i64 (o20.2.2.1.getD 1 0), .int .i64 (o20.2.2.1.getD 2 0), .int .i64 (o20.2.2.1.getD 3 0), .int .i64 (o20.2.2.1.getD 4 0), .int .i64 (o20.2.2.1.getD 5 0), v21].toArray 78 (0, 0))] ++ g22) ∧ Mp (Value.int .i64) (rF (Value.int .i64)) υ v21 o20.2.2.2 g22) (r x16)) := by
 refine call_of Tryd.func20 Tryd.ntmps20 rfl rfl (fun cs fs => ?_)
 refine Z 2 rfl ?_
 refine o_boxC rfl rfl rfl rfl rfl rfl (fun b4 => ?_)
 refine Z 4 rfl ?_
 refine st_freeze (fun τ5 hl6 hg7 => ?_)
 refine Z 3 rfl ?_
 obtain rfl := Eq.symm h
 exact st_ret (gs' := [[(ba0, .cells #[.int .i64 a0.1, .int .i64 a0.2.1, .int .i64 (a0.2.2.1.getD 0 0), .int .i64 (a0.2.2.1.getD 1 0), .int .i64 (a0.2.2.1.getD 2 0), .int .i64 (a0.2.2.1.getD 3 0), .int .i64 (a0.2.2.1.getD 4 0), .int .i64 (a0.2.2.1.getD 5 0), v1] 78 (0, 0))], g2]) Tryd.func20 rfl (List.Sublist.refl _) hl6 ⟨_, _, rfl, rfl, (fun _ _ _ _ hl ho11 => tally_Tally_Errors_1_ok ((cel_of hg7 rfl).up hl) ho11)⟩
theorem tally_Tally_Lines_ok {a0 : Int × Int × List Int × List (Int × Int)} {ba0 : Nat} {v1 : Value} {g2 : Grp} {r : List ByteArray × (Int × Int × List Int × List (Int × Int))} (h : tally_Tally_Lines a0 r) (σ : Sto) (ho3 : Mp (Value.int .i64) (rF (Value.int .i64)) σ v1 a0.2.2.2 g2) (hT : Tab Tryd.prog σ) :
    Does Tryd.prog 27 [.pointer (some ⟨ba0, 0, none⟩)] σ [[(ba0, .cells [.int .i64 a0.1, .int .i64 a0.2.1, .int .i64 (a0.2.2.1.getD 0 0), .int .i64 (a0.2.2.1.getD 1 0), .int .i64 (a0.2.2.1.getD 2 0), .int .i64 (a0.2.2.1.getD 3 0), .int .i64 (a0.2.2.1.getD 4 0), .int .i64 (a0.2.2.1.getD 5 0), v1].toArray 78 (0, 0))], g2] (fun v τ gs => ∃ (v141 : Value) (v143 : Value) (g144 : Grp), gs = [[(ba0, .cells [.int .i64 r.2.1, .int .i64 r.2.2.1, .int .i64 (r.2.2.2.1.getD 0 0), .int .i64 (r.2.2.2.1.getD 1 0), .int .i64 (r.2.2.2.1.getD 2 0), .int .i64 (r.2.2.2.1.getD 3 0), .int .i64 (r.2.2.2.1.getD 4 0), .int .i64 (r.2.2.2.1.getD 5 0), v143].toArray 78 (0, 0))], g144] ∧ v141 = v ∧ Sl kS τ v141 r.1 ∧ Mp (Value.int .i64) (rF (Value.int .i64)) τ v143 r.2.2.2.2 g144) := by
 refine call_of Tryd.func27 Tryd.ntmps27 rfl rfl (fun cs fs => ?_)
 refine Z 2 rfl ?_
 refine o_boxC rfl rfl rfl rfl rfl rfl (fun b4 => ?_)
 refine ZZ 16 [0, 0, 1] rfl rfl ?_
 obtain ⟨r5, hr6, h⟩ := h
 refine st_call (foot := []) rfl rfl rfl rfl rfl rfl (callV_fn z_en45 (say_Number_ok hr6 σ hT)) ?_
 rintro vτ7 τ7 gsτ7 hl8 ⟨rfl, rfl⟩
 obtain ⟨hf9, h⟩ := h
 refine o_sadd rfl rfl rfl (ev_str z_str52) rfl hf9 ?_
 refine o_litE eS [((bstr [100, 101, 108, 105, 118, 101, 114, 101, 100, 32]) ++ r5)] rfl rfl rfl z_slT59 z_zero9 ⟨rfl, ⟨_, rfl, rfl⟩, trivial⟩ rfl rfl rfl rfl (fun v10 g11 ho12 => ?_)
 refine o_alloc rfl rfl rfl z_zero59 (fun b13 => ?_)
 refine o_store (j := 0) (vs := [v10]) (cs' := [v10]) rfl rfl rfl z_size59 rfl rfl (oneL_ow ho12) (ones_cons ho12.one' ones_nil) rfl rfl rfl ?_
 refine st_gs [[(b13, .cells #[v10] 59 (0, 0))], g11, [(b4, .cells #[.pointer (some ⟨ba0, 0, none⟩)] 48 (0, 0))], [(ba0, .cells #[.int .i64 a0.1, .int .i64 a0.2.1, .int .i64 (a0.2.2.1.getD 0 0), .int .i64 (a0.2.2.1.getD 1 0), .int .i64 (a0.2.2.1.getD 2 0), .int .i64 (a0.2.2.1.getD 3 0), .int .i64 (a0.2.2.1.getD 4 0), .int .i64 (a0.2.2.1.getD 5 0), v1] 78 (0, 0))], g2] rfl ?_
 refine Z 4 rfl ?_
 obtain ⟨r14, hr15, h⟩ := h
 refine st_call (foot := []) rfl rfl rfl rfl rfl rfl (callV_fn z_en46 (field_Kinds_ok hr15 τ7)) ?_
 rintro vτ16 τ16 gsτ16 hl17 ⟨f18, q19, rfl, rfl, hit20⟩
 refine Z 2 rfl ?_
 obtain ⟨t21, w21, hR21, hA21⟩ := h
 refine st_env (ρ' := [(1, .pointer (some ⟨b4, 0, none⟩)), (2, .slice none 0 0), (3, .pointer (some ⟨b13, 0, none⟩)), (18, .func (.func f18) #[] q19)]) ⟨rfl, rfl, rfl, rfl, trivial⟩ ?_
 refine st_ord [3, 2, 0, 1, 0] _ rfl ?_
 refine st_addNil ?_
 refine st_range (B := tally_Tally_Lines_l1 a0) (s0 := [((bstr [100, 101, 108, 105, 118, 101, 114, 101, 100, 32]) ++ r5)]) ranges_fctx rfl hit20 (Sto.Le.refl _) hR21 rfl (fun _ _ _ h => by cases h; rfl) (fun (s21 : List ByteArray) τ21 gs => τ16.Le τ21 ∧ ∃ (v22 : Value) (g23 : Grp), gs = [[(ba0, .cells #[.int .i64 a0.1, .int .i64 a0.2.1, .int .i64 (a0.2.2.1.getD 0 0), .int .i64 (a0.2.2.1.getD 1 0), .int .i64 (a0.2.2.1.getD 2 0), .int .i64 (a0.2.2.1.getD 3 0), .int .i64 (a0.2.2.1.getD 4 0), .int .i64 (a0.2.2.1.getD 5 0), v1] 78 (0, 0))], [(b4, .cells #[.pointer (some ⟨ba0, 0, none⟩)] 48 (0, 0))], [(b13, .cells #[v22] 59 (0, 0))], g2, g23] ∧ Ow kS 9 τ21 v22 s21 g23) (fun _ _ _ _ => False) (fun _ _ _ _ hl ⟨hb, v22, g23, hg, ho24⟩ => ⟨hb.trans hl, v22, g23, hg, ho24.up hl⟩) (fun _ _ _ _ _ _ h => h.elim) ⟨Sto.Le.refl _, _, _, rfl, (ho12.up hl17)⟩ ?_ ?_ ?_
 ·rintro x21 s21 o21 τ21 gs21 vx21 hl21 h rfl ⟨hb21, v22, g23, rfl, ho24⟩ l21 rc21 caller21 cs21 fs21
  refine Z 7 rfl ?_
  refine st_begin ?_
  refine ZZ 7 [1] rfl rfl ?_
  obtain ⟨hf25, hf26, h⟩ := h
  refine o_indexA rfl rfl rfl z_arr23 rfl rfl hf25 hf26 ?_
  refine o_loadV (j := 0) (x21.1.toNat) (f := (Value.int .i64)) (zz := 0) (l := 6) (xs := a0.2.2.1) [.int .i64 a0.1, .int .i64 a0.2.1] [v1] rfl rfl rfl z_sc3 rfl rfl (by simp only [List.length_cons, List.length_nil] <;> omega) (by omega) ?_
  refine Z 7 rfl ?_
  refine st_if rfl h (fun h => ?_) (fun h => ?_)
  ·obtain ⟨hf27, r28, hr29, hf32, hf43, hf44, h⟩ := h
   refine st_ord [0, 0, 1, 0, 0] _ rfl ?_
   refine st_d41 [[(ba0, .cells #[.int .i64 a0.1, .int .i64 a0.2.1, .int .i64 (a0.2.2.1.getD 0 0), .int .i64 (a0.2.2.1.getD 1 0), .int .i64 (a0.2.2.1.getD 2 0), .int .i64 (a0.2.2.1.getD 3 0), .int .i64 (a0.2.2.1.getD 4 0), .int .i64 (a0.2.2.1.getD 5 0), v1] 78 (0, 0))], [(b4, .cells #[.pointer (some ⟨ba0, 0, none⟩)] 48 (0, 0))], g2] [[(b13, .cells #[v22] 59 (0, 0))], g23] 8 2 [some (0, 0), none, none, none, none, none, none, some (0, 1)] [none, none, none, none, none, none, none, none] [[none, some 29, some 36]] [.v (v22), .v (.string x21.2), .v (.string (x21.2 ++ (bstr [32]))), .v (.int .i64 (a0.2.2.1.getD x21.1.toNat 0)), .v (.string r28), .v (.string ((x21.2 ++ (bstr [32])) ++ r28)), .t fun τ v => ∃ (v33 : Value), (v33 : Value) = v ∧ Sl kS τ v33 [((x21.2 ++ (bstr [32])) ++ r28)], .t fun _ _ => True] [[fun τ u F => F = [[(b13, .cells #[v22] 59 (0, 0))], g23], fun τ u F => F = [[(b13, .cells #[v22] 59 (0, 0))], g23], fun τ u F => ∃ (v45 : Value) (g46 : Grp), F = [g46, [(b13, .cells #[v22] 59 (0, 0))]] ∧ v45 = u ∧ Ow kS 9 τ v45 (s21 ++ [((x21.2 ++ (bstr [32])) ++ r28)]) g46]] rfl z_mix rfl ⟨fun _ _ _ hl ⟨v33, hv, hs39⟩ => ⟨v33, hv, hs39.up hl⟩, ⟨fun _ _ _ _ _ => trivial, trivial⟩⟩ ⟨⟨fun _ _ _ _ hl h => h, ⟨fun _ _ _ _ hl h => h, ⟨fun _ _ _ _ hl h => (let ⟨v45, g46, hF, hU, ho47⟩ := h; ⟨v45, g46, hF, hU, ho47.up hl⟩), trivial⟩⟩⟩, trivial⟩ rfl rfl ?_ (allB_cons (allB_cons (allB_cons (allB_cons (allB_cons (allB_cons (allB_cons (allB_cons allB_nil ?_) (p4 dA)) ?_) (p4 dA)) ?_) ?_) ?_) ?_) ?_
   ·exact rfl
   ·intro ρ' τ u Fv pool rs hl hI hu hd hout hw hk
    have hI0 := hI
    obtain rfl := hI
    refine st_gs [[(ba0, .cells #[.int .i64 a0.1, .int .i64 a0.2.1, .int .i64 (a0.2.2.1.getD 0 0), .int .i64 (a0.2.2.1.getD 1 0), .int .i64 (a0.2.2.1.getD 2 0), .int .i64 (a0.2.2.1.getD 3 0), .int .i64 (a0.2.2.1.getD 4 0), .int .i64 (a0.2.2.1.getD 5 0), v1] 78 (0, 0))], [(b4, .cells #[.pointer (some ⟨ba0, 0, none⟩)] 48 (0, 0))], g2, [(b13, .cells #[v22] 59 (0, 0))], g23, pool] rfl ?_
    refine o_load (j := 3) (v := v22) rfl rfl rfl z_sc59 ((hout 3 rfl).trans rfl) rfl rfl ?_
    exact hk _ _ [[(b13, .cells #[v22] 59 (0, 0))], g23] (Sto.Le.refl _) rfl (by exact hI0)
   ·intro ρ' τ pool rs hl hd hout hw hk
    obtain ⟨_, e1, rfl⟩ := hd 1 rfl _ rfl
    refine o_sadd rfl rfl rfl e1 (ev_str z_str3) hf27 ?_
    exact hk _ _ (Sto.Le.refl _) rfl
   ·intro ρ' τ pool rs hl hd hout hw hk
    obtain ⟨_, e3, rfl⟩ := hd 3 rfl _ rfl
    refine st_call (foot := []) rfl rfl rfl rfl (evs_cons e3 rfl) rfl (callV_fn z_en45 (say_Number_ok hr29 τ (hT.up (((hl8.trans hl17).trans hl21).trans hl)))) ?_
    rintro vτ30 τ30 gsτ30 hl31 ⟨rfl, rfl⟩
    exact hk _ _ hl31 rfl
   ·intro ρ' τ pool rs hl hd hout hw hk
    obtain ⟨_, e2, rfl⟩ := hd 2 rfl _ rfl
    obtain ⟨_, e4, rfl⟩ := hd 4 rfl _ rfl
    refine o_sadd rfl rfl rfl e2 e4 hf32 ?_
    exact hk _ _ (Sto.Le.refl _) rfl
   ·intro ρ' τ pool rs hl hd hout hw hk
    obtain ⟨_, e5, rfl⟩ := hd 5 rfl _ rfl
    refine o_litE eS [((x21.2 ++ (bstr [32])) ++ r28)] rfl rfl rfl z_slT59 z_zero9 ⟨rfl, ⟨_, e5, rfl⟩, trivial⟩ rfl rfl rfl rfl (fun v33 g34 ho35 => ?_)
    refine st_freeze (fun τ36 hl37 hg38 => ?_)
    have hs39 := ho35.freeze hl37 hg38
    exact hk _ _ hl37 ⟨v33, rfl, hs39⟩
   ·intro ρ' τ u Fv pool rs hl hI hu hd hout hw hk
    obtain ⟨_, e0, rfl⟩ := hd 0 rfl _ rfl
    obtain ⟨_, e6, v33, rfl, hs39⟩ := hd 6 rfl _ rfl
    have hI0 := hI
    obtain rfl := hI
    refine st_gs [[(ba0, .cells #[.int .i64 a0.1, .int .i64 a0.2.1, .int .i64 (a0.2.2.1.getD 0 0), .int .i64 (a0.2.2.1.getD 1 0), .int .i64 (a0.2.2.1.getD 2 0), .int .i64 (a0.2.2.1.getD 3 0), .int .i64 (a0.2.2.1.getD 4 0), .int .i64 (a0.2.2.1.getD 5 0), v1] 78 (0, 0))], [(b4, .cells #[.pointer (some ⟨ba0, 0, none⟩)] 48 (0, 0))], g2, [(b13, .cells #[v22] 59 (0, 0))], g23, pool] rfl ?_
    refine st_ord [4, 0, 0, 0, 0, 0] _ rfl ?_
    refine o_append (dk := kS) (xs := s21) (ys := [((x21.2 ++ (bstr [32])) ++ r28)]) rfl rfl rfl rfl z_slT59 e0 (ho24.up hl) e6 (Sl.src hs39) hf43 hf44 (fun v40 g41 ho42 => ?_)
    refine st_ord [1, 1, 1, 0, 0, 0] _ rfl ?_
    exact hk _ _ [g41, [(b13, .cells #[v22] 59 (0, 0))]] (Sto.Le.refl _) trivial (by exact ⟨v40, g41, rfl, rfl, ho42⟩)
   intro ρ' τ48 vals u Fv hl48 hI hu hv hout
   obtain ⟨v45, g46, rfl, rfl, ho47⟩ := hI
   refine st_gs [[(ba0, .cells #[.int .i64 a0.1, .int .i64 a0.2.1, .int .i64 (a0.2.2.1.getD 0 0), .int .i64 (a0.2.2.1.getD 1 0), .int .i64 (a0.2.2.1.getD 2 0), .int .i64 (a0.2.2.1.getD 3 0), .int .i64 (a0.2.2.1.getD 4 0), .int .i64 (a0.2.2.1.getD 5 0), v1] 78 (0, 0))], [(b4, .cells #[.pointer (some ⟨ba0, 0, none⟩)] 48 (0, 0))], g2, g46, [(b13, .cells #[v22] 59 (0, 0))]] rfl ?_
   refine st_env (ρ' := [(1, .pointer (some ⟨b4, 0, none⟩)), (2, .slice none 0 0), (3, .pointer (some ⟨b13, 0, none⟩)), (19, .int .i64 x21.1), (20, .string x21.2), (4, .int .i64 x21.1), (5, .string x21.2), (36, v45)]) ⟨(hout 1 rfl).trans rfl, (hout 2 rfl).trans rfl, (hout 3 rfl).trans rfl, (hout 19 rfl).trans rfl, (hout 20 rfl).trans rfl, (hout 4 rfl).trans rfl, (hout 5 rfl).trans rfl, (by exact hu _ rfl), trivial⟩ ?_
   refine o_store (j := 4) (vs := [v45]) (cs' := [v45]) rfl rfl rfl z_size59 rfl rfl (oneL_ow ho47) (ones_cons ho47.one' ones_nil) rfl rfl rfl ?_
   refine st_gs [[(ba0, .cells #[.int .i64 a0.1, .int .i64 a0.2.1, .int .i64 (a0.2.2.1.getD 0 0), .int .i64 (a0.2.2.1.getD 1 0), .int .i64 (a0.2.2.1.getD 2 0), .int .i64 (a0.2.2.1.getD 3 0), .int .i64 (a0.2.2.1.getD 4 0), .int .i64 (a0.2.2.1.getD 5 0), v1] 78 (0, 0))], [(b4, .cells #[.pointer (some ⟨ba0, 0, none⟩)] 48 (0, 0))], g2, g46, [(b13, .cells #[v45] 59 (0, 0))]] rfl ?_
   refine Z 2 rfl ?_
   refine st_ord [0, 0, 2, 0, 0] _ rfl ?_
   exact st_rend (List.Sublist.refl _) hl48 ⟨_, h, (hl21.trans hl48), _, _, rfl, ho47⟩
  ·refine Z 2 rfl ?_
   exact st_rend (List.Sublist.refl _) (Sto.Le.refl _) ⟨_, h, hl21, _, _, rfl, ho24⟩
 ·rintro p49 τ50 gs21 f21 ht hl51 ⟨hb, v52, g53, rfl, ho54⟩ rfl
  subst ht
  replace h := hA21
  refine st_ord [1, 1, 1, 1, 1] _ rfl ?_
  refine ZZ 5 [1] rfl rfl ?_
  obtain ⟨r55, hr56, h⟩ := h
  refine st_ord [0, 2, 0, 0, 0] _ rfl ?_
  refine st_call (foot := [[(ba0, .cells #[.int .i64 a0.1, .int .i64 a0.2.1, .int .i64 (a0.2.2.1.getD 0 0), .int .i64 (a0.2.2.1.getD 1 0), .int .i64 (a0.2.2.1.getD 2 0), .int .i64 (a0.2.2.1.getD 3 0), .int .i64 (a0.2.2.1.getD 4 0), .int .i64 (a0.2.2.1.getD 5 0), v1] 78 (0, 0))], g2]) rfl rfl rfl rfl rfl rfl (callV_fn z_en20 (tally_Tally_Errors_ok hr56 τ50 (ho3.up ((hl8.trans hl17).trans hl51)))) ?_
  rintro vτ57 τ57 gsτ57 hl58 ⟨f59, q60, rfl, rfl, hit61⟩
  refine Z 2 rfl ?_
  obtain ⟨t71, w71, hR71, hA71⟩ := h
  refine st_env (ρ' := [(1, .pointer (some ⟨b4, 0, none⟩)), (2, .slice none 0 0), (3, .pointer (some ⟨b13, 0, none⟩)), (38, .func (.func f59) #[] q60)]) ⟨rfl, rfl, rfl, rfl, trivial⟩ ?_
  refine st_glue ?_
  refine st_range (B := tally_Tally_Lines_l2) (s0 := p49) ranges_fctx rfl (hit61 a0 _ _ τ57 (Sto.Le.refl _) (ho3.up (((hl8.trans hl17).trans hl51).trans hl58))) (Sto.Le.refl _) hR71 rfl (fun _ _ _ h => by cases h; rfl) (fun (s71 : List ByteArray) τ71 gs => τ57.Le τ71 ∧ ∃ (v72 : Value) (g73 : Grp), gs = [[(b4, .cells #[.pointer (some ⟨ba0, 0, none⟩)] 48 (0, 0))], [(b13, .cells #[v72] 59 (0, 0))], g73] ∧ Ow kS 9 τ71 v72 s71 g73) (fun _ _ _ _ => False) (fun _ _ _ _ hl ⟨hb, v72, g73, hg, ho74⟩ => ⟨hb.trans hl, v72, g73, hg, ho74.up hl⟩) (fun _ _ _ _ _ _ h => h.elim) ⟨Sto.Le.refl _, _, _, rfl, (ho54.up hl58)⟩ ?_ ?_ ?_
  ·rintro x71 s71 o71 τ71 gs71 vx71 hl71 h rfl ⟨hb71, v72, g73, rfl, ho74⟩ l71 rc71 caller71 cs71 fs71
   refine Z 7 rfl ?_
   refine st_begin ?_
   refine st_block ?_
   obtain ⟨r75, hr76, hf79, hf80, r81, hr82, hf85, hf96, hf97, h⟩ := h
   refine st_d41 [[(b4, .cells #[.pointer (some ⟨ba0, 0, none⟩)] 48 (0, 0))]] [[(b13, .cells #[v72] 59 (0, 0))], g73] 10 2 [some (0, 0), none, none, none, none, none, none, none, none, some (0, 1)] [none, none, none, none, none, none, none, none, none, none] [[none, some 41, some 50]] [.v (v72), .v (.int .i64 x71.1), .v (.string r75), .v (.string ((bstr [114, 101, 106, 101, 99, 116, 32]) ++ r75)), .v (.string (((bstr [114, 101, 106, 101, 99, 116, 32]) ++ r75) ++ (bstr [32]))), .v (.int .i64 x71.2), .v (.string r81), .v (.string ((((bstr [114, 101, 106, 101, 99, 116, 32]) ++ r75) ++ (bstr [32])) ++ r81)), .t fun τ v => ∃ (v86 : Value), (v86 : Value) = v ∧ Sl kS τ v86 [((((bstr [114, 101, 106, 101, 99, 116, 32]) ++ r75) ++ (bstr [32])) ++ r81)], .t fun _ _ => True] [[fun τ u F => F = [[(b13, .cells #[v72] 59 (0, 0))], g73], fun τ u F => F = [[(b13, .cells #[v72] 59 (0, 0))], g73], fun τ u F => ∃ (v98 : Value) (g99 : Grp), F = [g99, [(b13, .cells #[v72] 59 (0, 0))]] ∧ v98 = u ∧ Ow kS 9 τ v98 (s71 ++ [((((bstr [114, 101, 106, 101, 99, 116, 32]) ++ r75) ++ (bstr [32])) ++ r81)]) g99]] rfl z_mix rfl ⟨fun _ _ _ hl ⟨v86, hv, hs92⟩ => ⟨v86, hv, hs92.up hl⟩, ⟨fun _ _ _ _ _ => trivial, trivial⟩⟩ ⟨⟨fun _ _ _ _ hl h => h, ⟨fun _ _ _ _ hl h => h, ⟨fun _ _ _ _ hl h => (let ⟨v98, g99, hF, hU, ho100⟩ := h; ⟨v98, g99, hF, hU, ho100.up hl⟩), trivial⟩⟩⟩, trivial⟩ rfl rfl ?_ (allB_cons (allB_cons (allB_cons (allB_cons (allB_cons (allB_cons (allB_cons (allB_cons (allB_cons (allB_cons allB_nil ?_) (p4 dA)) ?_) ?_) ?_) (p4 dA)) ?_) ?_) ?_) ?_) ?_
   ·exact rfl
   ·intro ρ' τ u Fv pool rs hl hI hu hd hout hw hk
    have hI0 := hI
    obtain rfl := hI
    refine st_gs [[(b4, .cells #[.pointer (some ⟨ba0, 0, none⟩)] 48 (0, 0))], [(b13, .cells #[v72] 59 (0, 0))], g73, pool] rfl ?_
    refine o_load (j := 1) (v := v72) rfl rfl rfl z_sc59 ((hout 3 rfl).trans rfl) rfl rfl ?_
    exact hk _ _ [[(b13, .cells #[v72] 59 (0, 0))], g73] (Sto.Le.refl _) rfl (by exact hI0)
   ·intro ρ' τ pool rs hl hd hout hw hk
    obtain ⟨_, e1, rfl⟩ := hd 1 rfl _ rfl
    refine st_call (foot := []) rfl rfl rfl rfl (evs_cons e1 rfl) rfl (callV_fn z_en47 (event_Word_ok hr76 τ)) ?_
    rintro vτ77 τ77 gsτ77 hl78 ⟨rfl, rfl⟩
    exact hk _ _ hl78 rfl
   ·intro ρ' τ pool rs hl hd hout hw hk
    obtain ⟨_, e2, rfl⟩ := hd 2 rfl _ rfl
    refine o_sadd rfl rfl rfl (ev_str z_str32) e2 hf79 ?_
    exact hk _ _ (Sto.Le.refl _) rfl
   ·intro ρ' τ pool rs hl hd hout hw hk
    obtain ⟨_, e3, rfl⟩ := hd 3 rfl _ rfl
    refine o_sadd rfl rfl rfl e3 (ev_str z_str3) hf80 ?_
    exact hk _ _ (Sto.Le.refl _) rfl
   ·intro ρ' τ pool rs hl hd hout hw hk
    obtain ⟨_, e5, rfl⟩ := hd 5 rfl _ rfl
    refine st_call (foot := []) rfl rfl rfl rfl (evs_cons e5 rfl) rfl (callV_fn z_en45 (say_Number_ok hr82 τ (hT.up (((((hl8.trans hl17).trans hl51).trans hl58).trans hl71).trans hl)))) ?_
    rintro vτ83 τ83 gsτ83 hl84 ⟨rfl, rfl⟩
    exact hk _ _ hl84 rfl
   ·intro ρ' τ pool rs hl hd hout hw hk
    obtain ⟨_, e4, rfl⟩ := hd 4 rfl _ rfl
    obtain ⟨_, e6, rfl⟩ := hd 6 rfl _ rfl
    refine o_sadd rfl rfl rfl e4 e6 hf85 ?_
    exact hk _ _ (Sto.Le.refl _) rfl
   ·intro ρ' τ pool rs hl hd hout hw hk
    obtain ⟨_, e7, rfl⟩ := hd 7 rfl _ rfl
    refine o_litE eS [((((bstr [114, 101, 106, 101, 99, 116, 32]) ++ r75) ++ (bstr [32])) ++ r81)] rfl rfl rfl z_slT59 z_zero9 ⟨rfl, ⟨_, e7, rfl⟩, trivial⟩ rfl rfl rfl rfl (fun v86 g87 ho88 => ?_)
    refine st_freeze (fun τ89 hl90 hg91 => ?_)
    have hs92 := ho88.freeze hl90 hg91
    exact hk _ _ hl90 ⟨v86, rfl, hs92⟩
   ·intro ρ' τ u Fv pool rs hl hI hu hd hout hw hk
    obtain ⟨_, e0, rfl⟩ := hd 0 rfl _ rfl
    obtain ⟨_, e8, v86, rfl, hs92⟩ := hd 8 rfl _ rfl
    have hI0 := hI
    obtain rfl := hI
    refine st_gs [[(b4, .cells #[.pointer (some ⟨ba0, 0, none⟩)] 48 (0, 0))], [(b13, .cells #[v72] 59 (0, 0))], g73, pool] rfl ?_
    refine st_ord [2, 0, 0, 0] _ rfl ?_
    refine o_append (dk := kS) (xs := s71) (ys := [((((bstr [114, 101, 106, 101, 99, 116, 32]) ++ r75) ++ (bstr [32])) ++ r81)]) rfl rfl rfl rfl z_slT59 e0 (ho74.up hl) e8 (Sl.src hs92) hf96 hf97 (fun v93 g94 ho95 => ?_)
    refine st_ord [1, 0, 0, 0] _ rfl ?_
    exact hk _ _ [g94, [(b13, .cells #[v72] 59 (0, 0))]] (Sto.Le.refl _) trivial (by exact ⟨v93, g94, rfl, rfl, ho95⟩)
   intro ρ' τ101 vals u Fv hl101 hI hu hv hout
   obtain ⟨v98, g99, rfl, rfl, ho100⟩ := hI
   refine st_gs [[(b4, .cells #[.pointer (some ⟨ba0, 0, none⟩)] 48 (0, 0))], g99, [(b13, .cells #[v72] 59 (0, 0))]] rfl ?_
   refine st_env (ρ' := [(1, .pointer (some ⟨b4, 0, none⟩)), (2, .slice none 0 0), (3, .pointer (some ⟨b13, 0, none⟩)), (39, .int .i64 x71.1), (40, .int .i64 x71.2), (7, .int .i64 x71.1), (8, .int .i64 x71.2), (50, v98)]) ⟨(hout 1 rfl).trans rfl, (hout 2 rfl).trans rfl, (hout 3 rfl).trans rfl, (hout 39 rfl).trans rfl, (hout 40 rfl).trans rfl, (hout 7 rfl).trans rfl, (hout 8 rfl).trans rfl, (by exact hu _ rfl), trivial⟩ ?_
   refine o_store (j := 2) (vs := [v98]) (cs' := [v98]) rfl rfl rfl z_size59 rfl rfl (oneL_ow ho100) (ones_cons ho100.one' ones_nil) rfl rfl rfl ?_
   refine st_gs [[(b4, .cells #[.pointer (some ⟨ba0, 0, none⟩)] 48 (0, 0))], g99, [(b13, .cells #[v98] 59 (0, 0))]] rfl ?_
   refine Z 2 rfl ?_
   refine st_ord [0, 1, 0] _ rfl ?_
   exact st_rend (List.Sublist.refl _) hl101 ⟨_, h, (hl71.trans hl101), _, _, rfl, ho100⟩
  ·rintro p106 τ107 gs71 f71 ht hl108 ⟨hb, v109, g110, rfl, ho111⟩ ⟨v112, g113, rfl, ho114⟩
   subst ht
   replace h := hA71
   refine st_perm (gs' := [[(ba0, .cells #[.int .i64 w71.1, .int .i64 w71.2.1, .int .i64 (w71.2.2.1.getD 0 0), .int .i64 (w71.2.2.1.getD 1 0), .int .i64 (w71.2.2.1.getD 2 0), .int .i64 (w71.2.2.1.getD 3 0), .int .i64 (w71.2.2.1.getD 4 0), .int .i64 (w71.2.2.1.getD 5 0), v112] 78 (0, 0))], g113, [(b4, .cells #[.pointer (some ⟨ba0, 0, none⟩)] 48 (0, 0))], [(b13, .cells #[v109] 59 (0, 0))], g110]) (by simp) ?_
   refine Z 2 rfl ?_
   obtain ⟨r115, hr116, hf119, hf130, hf131, h⟩ := h
   refine st_d41 [[(ba0, .cells #[.int .i64 w71.1, .int .i64 w71.2.1, .int .i64 (w71.2.2.1.getD 0 0), .int .i64 (w71.2.2.1.getD 1 0), .int .i64 (w71.2.2.1.getD 2 0), .int .i64 (w71.2.2.1.getD 3 0), .int .i64 (w71.2.2.1.getD 4 0), .int .i64 (w71.2.2.1.getD 5 0), v112] 78 (0, 0))], g113, [(b4, .cells #[.pointer (some ⟨ba0, 0, none⟩)] 48 (0, 0))]] [[(b13, .cells #[v109] 59 (0, 0))], g110] 9 2 [some (0, 0), none, none, none, none, none, none, none, some (0, 1)] [none, none, none, none, none, none, none, none, none] [[none, some 51, some 59]] [.v (v109), .v (.pointer (some ⟨ba0, 0, none⟩)), .v (.pointer (some ⟨ba0, 0, none⟩)), .v (.pointer (some ⟨ba0, 1, none⟩)), .v (.int .i64 w71.2.1), .v (.string r115), .v (.string ((bstr [101, 118, 105, 99, 116, 101, 100, 32]) ++ r115)), .t fun τ v => ∃ (v120 : Value), (v120 : Value) = v ∧ Sl kS τ v120 [((bstr [101, 118, 105, 99, 116, 101, 100, 32]) ++ r115)], .t fun _ _ => True] [[fun τ u F => F = [[(b13, .cells #[v109] 59 (0, 0))], g110], fun τ u F => F = [[(b13, .cells #[v109] 59 (0, 0))], g110], fun τ u F => ∃ (v132 : Value) (g133 : Grp), F = [g133, [(b13, .cells #[v109] 59 (0, 0))]] ∧ v132 = u ∧ Ow kS 9 τ v132 (p106 ++ [((bstr [101, 118, 105, 99, 116, 101, 100, 32]) ++ r115)]) g133]] rfl z_mix rfl ⟨fun _ _ _ hl ⟨v120, hv, hs126⟩ => ⟨v120, hv, hs126.up hl⟩, ⟨fun _ _ _ _ _ => trivial, trivial⟩⟩ ⟨⟨fun _ _ _ _ hl h => h, ⟨fun _ _ _ _ hl h => h, ⟨fun _ _ _ _ hl h => (let ⟨v132, g133, hF, hU, ho134⟩ := h; ⟨v132, g133, hF, hU, ho134.up hl⟩), trivial⟩⟩⟩, trivial⟩ rfl rfl ?_ (allB_cons (allB_cons (allB_cons (allB_cons (allB_cons (allB_cons (allB_cons (allB_cons (allB_cons allB_nil ?_) ?_) (p4 dA)) (p4 dA)) ?_) ?_) ?_) ?_) ?_) ?_
   ·exact rfl
   ·intro ρ' τ u Fv pool rs hl hI hu hd hout hw hk
    have hI0 := hI
    obtain rfl := hI
    refine st_gs [[(ba0, .cells #[.int .i64 w71.1, .int .i64 w71.2.1, .int .i64 (w71.2.2.1.getD 0 0), .int .i64 (w71.2.2.1.getD 1 0), .int .i64 (w71.2.2.1.getD 2 0), .int .i64 (w71.2.2.1.getD 3 0), .int .i64 (w71.2.2.1.getD 4 0), .int .i64 (w71.2.2.1.getD 5 0), v112] 78 (0, 0))], g113, [(b4, .cells #[.pointer (some ⟨ba0, 0, none⟩)] 48 (0, 0))], [(b13, .cells #[v109] 59 (0, 0))], g110, pool] rfl ?_
    refine o_load (j := 3) (v := v109) rfl rfl rfl z_sc59 ((hout 3 rfl).trans rfl) rfl rfl ?_
    exact hk _ _ [[(b13, .cells #[v109] 59 (0, 0))], g110] (Sto.Le.refl _) rfl (by exact hI0)
   ·intro ρ' τ pool rs hl hd hout hw hk
    refine o_load (j := 2) (v := .pointer (some ⟨ba0, 0, none⟩)) rfl rfl rfl z_sc48 ((hout 1 rfl).trans rfl) rfl rfl ?_
    exact hk _ _ (Sto.Le.refl _) rfl
   ·intro ρ' τ pool rs hl hd hout hw hk
    obtain ⟨_, e3, rfl⟩ := hd 3 rfl _ rfl
    refine o_load (j := 0) (v := .int .i64 w71.2.1) rfl rfl rfl z_sc3 e3 rfl rfl ?_
    exact hk _ _ (Sto.Le.refl _) rfl
   ·intro ρ' τ pool rs hl hd hout hw hk
    obtain ⟨_, e4, rfl⟩ := hd 4 rfl _ rfl
    refine st_call (foot := []) rfl rfl rfl rfl (evs_cons e4 rfl) rfl (callV_fn z_en45 (say_Number_ok hr116 τ (hT.up (((((hl8.trans hl17).trans hl51).trans hl58).trans hl108).trans hl)))) ?_
    rintro vτ117 τ117 gsτ117 hl118 ⟨rfl, rfl⟩
    exact hk _ _ hl118 rfl
   ·intro ρ' τ pool rs hl hd hout hw hk
    obtain ⟨_, e5, rfl⟩ := hd 5 rfl _ rfl
    refine o_sadd rfl rfl rfl (ev_str z_str53) e5 hf119 ?_
    exact hk _ _ (Sto.Le.refl _) rfl
   ·intro ρ' τ pool rs hl hd hout hw hk
    obtain ⟨_, e6, rfl⟩ := hd 6 rfl _ rfl
    refine o_litE eS [((bstr [101, 118, 105, 99, 116, 101, 100, 32]) ++ r115)] rfl rfl rfl z_slT59 z_zero9 ⟨rfl, ⟨_, e6, rfl⟩, trivial⟩ rfl rfl rfl rfl (fun v120 g121 ho122 => ?_)
    refine st_freeze (fun τ123 hl124 hg125 => ?_)
    have hs126 := ho122.freeze hl124 hg125
    exact hk _ _ hl124 ⟨v120, rfl, hs126⟩
   ·intro ρ' τ u Fv pool rs hl hI hu hd hout hw hk
    obtain ⟨_, e0, rfl⟩ := hd 0 rfl _ rfl
    obtain ⟨_, e7, v120, rfl, hs126⟩ := hd 7 rfl _ rfl
    have hI0 := hI
    obtain rfl := hI
    refine st_gs [[(ba0, .cells #[.int .i64 w71.1, .int .i64 w71.2.1, .int .i64 (w71.2.2.1.getD 0 0), .int .i64 (w71.2.2.1.getD 1 0), .int .i64 (w71.2.2.1.getD 2 0), .int .i64 (w71.2.2.1.getD 3 0), .int .i64 (w71.2.2.1.getD 4 0), .int .i64 (w71.2.2.1.getD 5 0), v112] 78 (0, 0))], g113, [(b4, .cells #[.pointer (some ⟨ba0, 0, none⟩)] 48 (0, 0))], [(b13, .cells #[v109] 59 (0, 0))], g110, pool] rfl ?_
    refine st_ord [4, 0, 0, 0, 0, 0] _ rfl ?_
    refine o_append (dk := kS) (xs := p106) (ys := [((bstr [101, 118, 105, 99, 116, 101, 100, 32]) ++ r115)]) rfl rfl rfl rfl z_slT59 e0 (ho111.up hl) e7 (Sl.src hs126) hf130 hf131 (fun v127 g128 ho129 => ?_)
    refine st_ord [1, 1, 1, 0, 0, 0] _ rfl ?_
    exact hk _ _ [g128, [(b13, .cells #[v109] 59 (0, 0))]] (Sto.Le.refl _) trivial (by exact ⟨v127, g128, rfl, rfl, ho129⟩)
   intro ρ' τ135 vals u Fv hl135 hI hu hv hout
   obtain ⟨v132, g133, rfl, rfl, ho134⟩ := hI
   refine st_gs [[(ba0, .cells #[.int .i64 w71.1, .int .i64 w71.2.1, .int .i64 (w71.2.2.1.getD 0 0), .int .i64 (w71.2.2.1.getD 1 0), .int .i64 (w71.2.2.1.getD 2 0), .int .i64 (w71.2.2.1.getD 3 0), .int .i64 (w71.2.2.1.getD 4 0), .int .i64 (w71.2.2.1.getD 5 0), v112] 78 (0, 0))], g113, [(b4, .cells #[.pointer (some ⟨ba0, 0, none⟩)] 48 (0, 0))], g133, [(b13, .cells #[v109] 59 (0, 0))]] rfl ?_
   refine st_env (ρ' := [(2, .slice none 0 0), (59, v132)]) ⟨(hout 2 rfl).trans rfl, (by exact hu _ rfl), trivial⟩ ?_
   refine Z 2 rfl ?_
   refine st_ord [3, 0, 0, 0, 0] _ rfl ?_
   refine st_freeze (fun τ136 hl137 hg138 => ?_)
   have hs139 := ho134.freeze hl137 hg138
   refine st_ord [0, 0] _ rfl ?_
   obtain rfl := Eq.symm h
   exact st_ret (gs' := [[(ba0, .cells #[.int .i64 w71.1, .int .i64 w71.2.1, .int .i64 (w71.2.2.1.getD 0 0), .int .i64 (w71.2.2.1.getD 1 0), .int .i64 (w71.2.2.1.getD 2 0), .int .i64 (w71.2.2.1.getD 3 0), .int .i64 (w71.2.2.1.getD 4 0), .int .i64 (w71.2.2.1.getD 5 0), v112] 78 (0, 0))], g113]) Tryd.func27 rfl (List.Sublist.refl _) ((((((hl8.trans hl17).trans hl51).trans hl58).trans hl108).trans hl135).trans hl137) ⟨_, _, _, rfl, rfl, hs139, (ho114.up (hl135.trans hl137))⟩
  ·exact fun _ _ _ _ _ _ _ h => h.elim
 ·exact fun _ _ _ _ _ _ _ h => h.elim
theorem law25_Lines_ok {a0 : List ByteArray} {a1 : List ByteArray} {v1 : Value} {v3 : Value} {r : Bool} (h : law25_Lines a0 a1 r) (σ : Sto) (hs2 : Sl kS σ v1 a0) (hs4 : Sl kS σ v3 a1) :
    Does Tryd.prog 34 [v1, v3] σ [] (fun v τ gs => gs = [] ∧ .bool r = v) := by
 refine call_of Tryd.func34 Tryd.ntmps34 rfl rfl (fun cs fs => ?_)
 refine Z 8 rfl ?_
 refine o_lenI rfl rfl rfl z_slT59 rfl hs2 ?_
 refine o_move rfl rfl rfl rfl ?_
 refine o_lenI rfl rfl rfl z_slT59 rfl hs4 ?_
 refine Z 2 rfl ?_
 refine st_if rfl h (fun h => ?_) (fun h => ?_)
 ·refine Z 4 rfl ?_
  obtain rfl := Eq.symm h
  exact st_ret (gs' := []) Tryd.func34 rfl (List.Sublist.refl _) (Sto.Le.refl _) ⟨rfl, rfl⟩
 ·refine Z 2 rfl ?_
  refine st_cut (fun ρ τ5 gs => ∃ (s5 : Unit), law25_Lines_j1 s5 r ∧ σ.Le τ5 ∧ ESub ρ [(4, .bool false)] ∧ gs = []) ?_ (fun hk5 => ?_)
  ·rintro ρ5 τ5 gs5 ⟨s5, h, hl5, hρ, rfl⟩
   refine st_es hρ ?_
   refine Z 4 rfl ?_
   obtain rfl := Eq.symm h
   exact st_ret (gs' := []) Tryd.func34 rfl (List.Sublist.refl _) hl5 ⟨rfl, rfl⟩
  refine Z 4 rfl ?_
  obtain ⟨e6, hL6, hA6⟩ := h
  refine st_loop hL6 (fun (s6 : Int) ρ τ6 gs => σ.Le τ6 ∧ ESub ρ [(0, v1), (1, v3), (4, .bool false), (5, .int .i64 s6)] ∧ gs = []) ⟨Sto.Le.refl _, rfl, rfl⟩ ?_
  rintro s6 o6 h he6 ρ6 τ6 gs6 ⟨hl6, hρ, rfl⟩ hn6
  refine st_es hρ ?_
  refine Z 5 rfl ?_
  refine o_lenI rfl rfl rfl z_slT59 rfl (hs2.up hl6) ?_
  refine Z 2 rfl ?_
  refine st_if rfl h (fun h => ?_) (fun h => ?_)
  ·refine Z 4 rfl ?_
   obtain ⟨q7, hf8, q12, hf13, h⟩ := h
   refine st_draw 9 (dl [.v (v1), .v (.int .i64 s6), .t fun τ v => ∃ (b9 : Nat) (of10 : Nat) (vsb9 : List Value), (.pointer (some ⟨b9, of10, none⟩) : Value) = v ∧ CelN τ ⟨b9, of10, none⟩ vsb9 ∧ kS.rep τ vsb9 q7, .v (.string q7), .v (v3), .v (.int .i64 s6), .t fun τ v => ∃ (b14 : Nat) (of15 : Nat) (vsb14 : List Value), (.pointer (some ⟨b14, of15, none⟩) : Value) = v ∧ CelN τ ⟨b14, of15, none⟩ vsb14 ∧ kS.rep τ vsb14 q12, .v (.string q12), .v (.bool (!(decide (q7 = q12))))]) (fun _ _ => []) z_mix rfl (dl_mono ⟨fun _ _ _ hl ⟨b9, of10, vsb9, hv, hc11, hrepb9⟩ => ⟨b9, of10, vsb9, hv, hc11.up hl, Kd.mono _ hl hrepb9⟩, ⟨fun _ _ _ hl ⟨b14, of15, vsb14, hv, hc16, hrepb14⟩ => ⟨b14, of15, vsb14, hv, hc16.up hl, Kd.mono _ hl hrepb14⟩, trivial⟩⟩) (allB_cons (allB_cons (allB_cons (allB_cons (allB_cons (allB_cons (allB_cons (allB_cons (allB_cons allB_nil (p1 dA)) (p1 dA)) ?_) ?_) (p1 dA)) (p1 dA)) ?_) ?_) (p1 dA)) ?_
   ·intro ρ' τ pool rs hl hd hout hk
    obtain ⟨_, e0, rfl⟩ := hd 0 rfl
    obtain ⟨_, e1, rfl⟩ := hd 1 rfl
    refine o_index rfl rfl rfl z_slT59 rfl e0 (hs2.up (hl6.trans hl)) e1 hf8 (fun b9 of10 vsb9 hc11 hrepb9 => ?_)
    exact st_addNil (hk _ _ (Sto.Le.refl _) ⟨b9, of10, _, rfl, hc11, hrepb9⟩)
   ·intro ρ' τ pool rs hl hd hout hk
    obtain ⟨_, e2, b9, of10, vsb9, rfl, hc11, hrepb9⟩ := hd 2 rfl
    have hrepb9 := hrepb9
    obtain rfl := hrepb9
    refine o_loadI (v := .string q7) rfl rfl rfl z_sc9 e2 (hc11 0 _ rfl) ?_
    exact st_addNil (hk _ _ (Sto.Le.refl _) rfl)
   ·intro ρ' τ pool rs hl hd hout hk
    obtain ⟨_, e4, rfl⟩ := hd 4 rfl
    obtain ⟨_, e5, rfl⟩ := hd 5 rfl
    refine o_index rfl rfl rfl z_slT59 rfl e4 (hs4.up (hl6.trans hl)) e5 hf13 (fun b14 of15 vsb14 hc16 hrepb14 => ?_)
    exact st_addNil (hk _ _ (Sto.Le.refl _) ⟨b14, of15, _, rfl, hc16, hrepb14⟩)
   ·intro ρ' τ pool rs hl hd hout hk
    obtain ⟨_, e6, b14, of15, vsb14, rfl, hc16, hrepb14⟩ := hd 6 rfl
    have hrepb14 := hrepb14
    obtain rfl := hrepb14
    refine o_loadI (v := .string q12) rfl rfl rfl z_sc9 e6 (hc16 0 _ rfl) ?_
    exact st_addNil (hk _ _ (Sto.Le.refl _) rfl)
   intro ρ' τ17 vals hl17 hv hout
   refine st_ord [] _ rfl ?_
   refine st_env (ρ' := [(25, .bool (!(decide (q7 = q12)))), (0, v1), (1, v3), (4, .bool false), (5, .int .i64 s6)]) ⟨(lv1 hv 8 rfl rfl), (hout 0 rfl).trans rfl, (hout 1 rfl).trans rfl, (hout 4 rfl).trans rfl, (hout 5 rfl).trans rfl, trivial⟩ ?_
   refine st_end ?_
   refine st_if rfl h (fun h => ?_) (fun h => ?_)
   ·refine Z 4 rfl ?_
    obtain rfl := he6 _ h
    replace h := hA6
    obtain rfl := Eq.symm h
    exact st_ret (gs' := []) Tryd.func34 rfl (List.Sublist.refl _) (hl6.trans hl17) ⟨rfl, rfl⟩
   ·refine Z 7 rfl ?_
    exact hn6 _ _ _ _ h ⟨(hl6.trans hl17), rfl, rfl⟩
  ·refine st_exit rfl ?_
   obtain rfl := he6 _ h
   replace h := hA6
   exact hk5 _ _ _ ⟨(), h, hl6, rfl, rfl⟩
theorem law25_known_ok  {r : Bool} (h : law25_known r) (σ : Sto) (hT : Tab Tryd.prog σ) :
    Does Tryd.prog 21 [] σ [] (fun v τ gs => gs = [] ∧ .bool r = v) := by
 refine call_of Tryd.func21 Tryd.ntmps21 rfl rfl (fun cs fs => ?_)
 refine Z 6 rfl ?_
 obtain ⟨r1, hr2, h⟩ := h
 refine st_call (foot := []) rfl rfl rfl rfl rfl rfl (callV_fn z_en19 (tally_New_ok hr2 σ)) ?_
 rintro vτ3 τ3 gsτ3 hl4 ⟨b5, v6, g7, rfl, rfl, ho8⟩
 refine ZZ 14 [] rfl rfl ?_
 obtain ⟨r9, hr10, h⟩ := h
 refine st_call (foot := []) rfl rfl rfl rfl rfl rfl (callV_fn z_en8 (event_Delivery_ok hr10 τ3 Sl.nil Sl.nil)) ?_
 rintro vτ11 τ11 gsτ11 hl12 ⟨v13, v14, rfl, rfl, hs15, hs16⟩
 obtain ⟨r17, hr18, h⟩ := h
 refine st_call (foot := []) rfl rfl rfl rfl rfl rfl (callV_fn z_en14 (event_Rejection_ok hr18 τ11)) ?_
 rintro vτ19 τ19 gsτ19 hl20 ⟨v21, v22, rfl, rfl, hs23, hs24⟩
 obtain ⟨r25, hr26, h⟩ := h
 refine st_call (foot := []) rfl rfl rfl rfl rfl rfl (callV_fn z_en14 (event_Rejection_ok hr26 τ19)) ?_
 rintro vτ27 τ27 gsτ27 hl28 ⟨v29, v30, rfl, rfl, hs31, hs32⟩
 refine o_lit (dk := (kP (kI .i64) (kP (kI .u32) (kP (kI .i64) (kP (kI .i64) (kP (kI .i64) (kP (kA .i64 6) (kP (kSl (kP (kI .i64) (kI .i64))) (kP (kSl (kI .i64)) (kP kS kS)))))))))) (xs := [r9, r17, r25]) (ps := [(0, [.int .i64 r9.1, .int .u32 r9.2.1, .int .i64 r9.2.2.1, .int .i64 r9.2.2.2.1, .int .i64 r9.2.2.2.2.1, .int .i64 (r9.2.2.2.2.2.1.getD 0 0), .int .i64 (r9.2.2.2.2.2.1.getD 1 0), .int .i64 (r9.2.2.2.2.2.1.getD 2 0), .int .i64 (r9.2.2.2.2.2.1.getD 3 0), .int .i64 (r9.2.2.2.2.2.1.getD 4 0), .int .i64 (r9.2.2.2.2.2.1.getD 5 0), v13, v14, .string r9.2.2.2.2.2.2.2.2.1, .string r9.2.2.2.2.2.2.2.2.2]), (1, [.int .i64 r17.1, .int .u32 r17.2.1, .int .i64 r17.2.2.1, .int .i64 r17.2.2.2.1, .int .i64 r17.2.2.2.2.1, .int .i64 (r17.2.2.2.2.2.1.getD 0 0), .int .i64 (r17.2.2.2.2.2.1.getD 1 0), .int .i64 (r17.2.2.2.2.2.1.getD 2 0), .int .i64 (r17.2.2.2.2.2.1.getD 3 0), .int .i64 (r17.2.2.2.2.2.1.getD 4 0), .int .i64 (r17.2.2.2.2.2.1.getD 5 0), v21, v22, .string r17.2.2.2.2.2.2.2.2.1, .string r17.2.2.2.2.2.2.2.2.2]), (2, [.int .i64 r25.1, .int .u32 r25.2.1, .int .i64 r25.2.2.1, .int .i64 r25.2.2.2.1, .int .i64 r25.2.2.2.2.1, .int .i64 (r25.2.2.2.2.2.1.getD 0 0), .int .i64 (r25.2.2.2.2.2.1.getD 1 0), .int .i64 (r25.2.2.2.2.2.1.getD 2 0), .int .i64 (r25.2.2.2.2.2.1.getD 3 0), .int .i64 (r25.2.2.2.2.2.1.getD 4 0), .int .i64 (r25.2.2.2.2.2.1.getD 5 0), v29, v30, .string r25.2.2.2.2.2.2.2.2.1, .string r25.2.2.2.2.2.2.2.2.2])]) (cs := ((.int .i64 r9.1) :: (.int .u32 r9.2.1) :: (.int .i64 r9.2.2.1) :: (.int .i64 r9.2.2.2.1) :: (.int .i64 r9.2.2.2.2.1) :: (.int .i64 (r9.2.2.2.2.2.1.getD 0 0)) :: (.int .i64 (r9.2.2.2.2.2.1.getD 1 0)) :: (.int .i64 (r9.2.2.2.2.2.1.getD 2 0)) :: (.int .i64 (r9.2.2.2.2.2.1.getD 3 0)) :: (.int .i64 (r9.2.2.2.2.2.1.getD 4 0)) :: (.int .i64 (r9.2.2.2.2.2.1.getD 5 0)) :: v13 :: v14 :: (.string r9.2.2.2.2.2.2.2.2.1) :: (.string r9.2.2.2.2.2.2.2.2.2) :: (.int .i64 r17.1) :: (.int .u32 r17.2.1) :: (.int .i64 r17.2.2.1) :: (.int .i64 r17.2.2.2.1) :: (.int .i64 r17.2.2.2.2.1) :: (.int .i64 (r17.2.2.2.2.2.1.getD 0 0)) :: (.int .i64 (r17.2.2.2.2.2.1.getD 1 0)) :: (.int .i64 (r17.2.2.2.2.2.1.getD 2 0)) :: (.int .i64 (r17.2.2.2.2.2.1.getD 3 0)) :: (.int .i64 (r17.2.2.2.2.2.1.getD 4 0)) :: (.int .i64 (r17.2.2.2.2.2.1.getD 5 0)) :: v21 :: v22 :: (.string r17.2.2.2.2.2.2.2.2.1) :: (.string r17.2.2.2.2.2.2.2.2.2) :: (.int .i64 r25.1) :: (.int .u32 r25.2.1) :: (.int .i64 r25.2.2.1) :: (.int .i64 r25.2.2.2.1) :: (.int .i64 r25.2.2.2.2.1) :: (.int .i64 (r25.2.2.2.2.2.1.getD 0 0)) :: (.int .i64 (r25.2.2.2.2.2.1.getD 1 0)) :: (.int .i64 (r25.2.2.2.2.2.1.getD 2 0)) :: (.int .i64 (r25.2.2.2.2.2.1.getD 3 0)) :: (.int .i64 (r25.2.2.2.2.2.1.getD 4 0)) :: (.int .i64 (r25.2.2.2.2.2.1.getD 5 0)) :: v29 :: v30 :: (.string r25.2.2.2.2.2.2.2.2.1) :: (.string r25.2.2.2.2.2.2.2.2.2) :: [])) rfl rfl rfl z_slT47 z_zero31 ⟨rfl, ⟨_, rfl, rfl⟩, ⟨rfl, ⟨_, rfl, rfl⟩, ⟨rfl, ⟨_, rfl, rfl⟩, trivial⟩⟩⟩ rfl rfl rfl rfl (Kd.Many.cons (d := (kP (kI .i64) (kP (kI .u32) (kP (kI .i64) (kP (kI .i64) (kP (kI .i64) (kP (kA .i64 6) (kP (kSl (kP (kI .i64) (kI .i64))) (kP (kSl (kI .i64)) (kP kS kS)))))))))) (x := r9) (a := [.int .i64 r9.1, .int .u32 r9.2.1, .int .i64 r9.2.2.1, .int .i64 r9.2.2.2.1, .int .i64 r9.2.2.2.2.1, .int .i64 (r9.2.2.2.2.2.1.getD 0 0), .int .i64 (r9.2.2.2.2.2.1.getD 1 0), .int .i64 (r9.2.2.2.2.2.1.getD 2 0), .int .i64 (r9.2.2.2.2.2.1.getD 3 0), .int .i64 (r9.2.2.2.2.2.1.getD 4 0), .int .i64 (r9.2.2.2.2.2.1.getD 5 0), v13, v14, .string r9.2.2.2.2.2.2.2.2.1, .string r9.2.2.2.2.2.2.2.2.2]) ⟨[.int .i64 r9.1], _, rfl, rfl, ⟨[.int .u32 r9.2.1], _, rfl, rfl, ⟨[.int .i64 r9.2.2.1], _, rfl, rfl, ⟨[.int .i64 r9.2.2.2.1], _, rfl, rfl, ⟨[.int .i64 r9.2.2.2.2.1], _, rfl, rfl, ⟨[.int .i64 (r9.2.2.2.2.2.1.getD 0 0), .int .i64 (r9.2.2.2.2.2.1.getD 1 0), .int .i64 (r9.2.2.2.2.2.1.getD 2 0), .int .i64 (r9.2.2.2.2.2.1.getD 3 0), .int .i64 (r9.2.2.2.2.2.1.getD 4 0), .int .i64 (r9.2.2.2.2.2.1.getD 5 0)], _, rfl, rfl, ⟨[v13], _, rfl, ⟨_, rfl, (hs15.up (hl20.trans hl28))⟩, ⟨[v14], _, rfl, ⟨_, rfl, (hs16.up (hl20.trans hl28))⟩, ⟨[.string r9.2.2.2.2.2.2.2.2.1], _, rfl, rfl, rfl⟩⟩⟩⟩⟩⟩⟩⟩⟩ (Kd.Many.cons (d := (kP (kI .i64) (kP (kI .u32) (kP (kI .i64) (kP (kI .i64) (kP (kI .i64) (kP (kA .i64 6) (kP (kSl (kP (kI .i64) (kI .i64))) (kP (kSl (kI .i64)) (kP kS kS)))))))))) (x := r17) (a := [.int .i64 r17.1, .int .u32 r17.2.1, .int .i64 r17.2.2.1, .int .i64 r17.2.2.2.1, .int .i64 r17.2.2.2.2.1, .int .i64 (r17.2.2.2.2.2.1.getD 0 0), .int .i64 (r17.2.2.2.2.2.1.getD 1 0), .int .i64 (r17.2.2.2.2.2.1.getD 2 0), .int .i64 (r17.2.2.2.2.2.1.getD 3 0), .int .i64 (r17.2.2.2.2.2.1.getD 4 0), .int .i64 (r17.2.2.2.2.2.1.getD 5 0), v21, v22, .string r17.2.2.2.2.2.2.2.2.1, .string r17.2.2.2.2.2.2.2.2.2]) ⟨[.int .i64 r17.1], _, rfl, rfl, ⟨[.int .u32 r17.2.1], _, rfl, rfl, ⟨[.int .i64 r17.2.2.1], _, rfl, rfl, ⟨[.int .i64 r17.2.2.2.1], _, rfl, rfl, ⟨[.int .i64 r17.2.2.2.2.1], _, rfl, rfl, ⟨[.int .i64 (r17.2.2.2.2.2.1.getD 0 0), .int .i64 (r17.2.2.2.2.2.1.getD 1 0), .int .i64 (r17.2.2.2.2.2.1.getD 2 0), .int .i64 (r17.2.2.2.2.2.1.getD 3 0), .int .i64 (r17.2.2.2.2.2.1.getD 4 0), .int .i64 (r17.2.2.2.2.2.1.getD 5 0)], _, rfl, rfl, ⟨[v21], _, rfl, ⟨_, rfl, (hs23.up hl28)⟩, ⟨[v22], _, rfl, ⟨_, rfl, (hs24.up hl28)⟩, ⟨[.string r17.2.2.2.2.2.2.2.2.1], _, rfl, rfl, rfl⟩⟩⟩⟩⟩⟩⟩⟩⟩ (Kd.Many.cons (d := (kP (kI .i64) (kP (kI .u32) (kP (kI .i64) (kP (kI .i64) (kP (kI .i64) (kP (kA .i64 6) (kP (kSl (kP (kI .i64) (kI .i64))) (kP (kSl (kI .i64)) (kP kS kS)))))))))) (x := r25) (a := [.int .i64 r25.1, .int .u32 r25.2.1, .int .i64 r25.2.2.1, .int .i64 r25.2.2.2.1, .int .i64 r25.2.2.2.2.1, .int .i64 (r25.2.2.2.2.2.1.getD 0 0), .int .i64 (r25.2.2.2.2.2.1.getD 1 0), .int .i64 (r25.2.2.2.2.2.1.getD 2 0), .int .i64 (r25.2.2.2.2.2.1.getD 3 0), .int .i64 (r25.2.2.2.2.2.1.getD 4 0), .int .i64 (r25.2.2.2.2.2.1.getD 5 0), v29, v30, .string r25.2.2.2.2.2.2.2.2.1, .string r25.2.2.2.2.2.2.2.2.2]) ⟨[.int .i64 r25.1], _, rfl, rfl, ⟨[.int .u32 r25.2.1], _, rfl, rfl, ⟨[.int .i64 r25.2.2.1], _, rfl, rfl, ⟨[.int .i64 r25.2.2.2.1], _, rfl, rfl, ⟨[.int .i64 r25.2.2.2.2.1], _, rfl, rfl, ⟨[.int .i64 (r25.2.2.2.2.2.1.getD 0 0), .int .i64 (r25.2.2.2.2.2.1.getD 1 0), .int .i64 (r25.2.2.2.2.2.1.getD 2 0), .int .i64 (r25.2.2.2.2.2.1.getD 3 0), .int .i64 (r25.2.2.2.2.2.1.getD 4 0), .int .i64 (r25.2.2.2.2.2.1.getD 5 0)], _, rfl, rfl, ⟨[v29], _, rfl, ⟨_, rfl, hs31⟩, ⟨[v30], _, rfl, ⟨_, rfl, hs32⟩, ⟨[.string r25.2.2.2.2.2.2.2.2.1], _, rfl, rfl, rfl⟩⟩⟩⟩⟩⟩⟩⟩⟩ Kd.Many.nil))) (fun v33 g34 ho35 => ?_)
 obtain ⟨r40, hr41, h⟩ := h
 refine st_freeze (fun τ36 hl37 hg38 => ?_)
 have hs39 := ho35.freeze hl37 hg38
 refine st_call (foot := [[(b5, .cells #[.int .i64 r1.1, .int .i64 r1.2.1, .int .i64 (r1.2.2.1.getD 0 0), .int .i64 (r1.2.2.1.getD 1 0), .int .i64 (r1.2.2.1.getD 2 0), .int .i64 (r1.2.2.1.getD 3 0), .int .i64 (r1.2.2.1.getD 4 0), .int .i64 (r1.2.2.1.getD 5 0), v6] 78 (0, 0))], g7]) rfl rfl rfl rfl rfl rfl (callV_fn z_en16 (tally_Tally_Add_ok hr41 τ36 (ho8.up (((hl12.trans hl20).trans hl28).trans hl37)) hs39)) ?_
 rintro vτ42 τ42 gsτ42 hl43 ⟨v44, g45, rfl, rfl, ho46⟩
 refine Z 4 rfl ?_
 obtain ⟨r47, hr48, h⟩ := h
 refine st_call (foot := [[(b5, .cells #[.int .i64 r40.1, .int .i64 r40.2.1, .int .i64 (r40.2.2.1.getD 0 0), .int .i64 (r40.2.2.1.getD 1 0), .int .i64 (r40.2.2.1.getD 2 0), .int .i64 (r40.2.2.1.getD 3 0), .int .i64 (r40.2.2.1.getD 4 0), .int .i64 (r40.2.2.1.getD 5 0), v44] 78 (0, 0))], g45]) rfl rfl rfl rfl rfl rfl (callV_fn z_en27 (tally_Tally_Lines_ok hr48 τ42 ho46 (hT.up (((((hl4.trans hl12).trans hl20).trans hl28).trans hl37).trans hl43)))) ?_
 rintro vτ49 τ49 gsτ49 hl50 ⟨v51, v53, g54, rfl, rfl, hs52, ho55⟩
 refine o_litE eS [(bstr [100, 101, 108, 105, 118, 101, 114, 101, 100, 32, 49]), (bstr [104, 111, 108, 100, 32, 49]), (bstr [114, 101, 106, 101, 99, 116, 32, 115, 117, 109, 32, 50]), (bstr [101, 118, 105, 99, 116, 101, 100, 32, 48])] rfl rfl rfl z_slT59 z_zero9 ⟨rfl, ⟨_, (ev_str z_str54), rfl⟩, ⟨rfl, ⟨_, (ev_str z_str55), rfl⟩, ⟨rfl, ⟨_, (ev_str z_str56), rfl⟩, ⟨rfl, ⟨_, (ev_str z_str57), rfl⟩, trivial⟩⟩⟩⟩ rfl rfl rfl rfl (fun v56 g57 ho58 => ?_)
 obtain ⟨r63, hr64, h⟩ := h
 refine st_freeze (fun τ59 hl60 hg61 => ?_)
 have hs62 := ho58.freeze hl60 hg61
 refine st_call (foot := []) rfl rfl rfl rfl rfl rfl (callV_fn z_en34 (law25_Lines_ok hr64 τ59 (hs52.up hl60) hs62)) ?_
 rintro vτ65 τ65 gsτ65 hl66 ⟨rfl, rfl⟩
 refine Z 2 rfl ?_
 refine st_ord [] _ rfl ?_
 obtain rfl := Eq.symm h
 exact st_ret (gs' := []) Tryd.func21 rfl (List.Sublist.refl _) ((((((((hl4.trans hl12).trans hl20).trans hl28).trans hl37).trans hl43).trans hl50).trans hl60).trans hl66) ⟨rfl, rfl⟩
theorem tally_Tally_Copy_ok {a0 : Int × Int × List Int × List (Int × Int)} {ba0 : Nat} {v1 : Value} {g2 : Grp} {r : (Int × Int × List Int × List (Int × Int))} (h : tally_Tally_Copy a0 r) (σ : Sto) (ho3 : Mp (Value.int .i64) (rF (Value.int .i64)) σ v1 a0.2.2.2 g2) :
    Does Tryd.prog 28 [.pointer (some ⟨ba0, 0, none⟩)] σ [[(ba0, .cells [.int .i64 a0.1, .int .i64 a0.2.1, .int .i64 (a0.2.2.1.getD 0 0), .int .i64 (a0.2.2.1.getD 1 0), .int .i64 (a0.2.2.1.getD 2 0), .int .i64 (a0.2.2.1.getD 3 0), .int .i64 (a0.2.2.1.getD 4 0), .int .i64 (a0.2.2.1.getD 5 0), v1].toArray 78 (0, 0))], g2] (fun v τ gs => ∃ (b10 : Nat) (v11 : Value) (g12 : Grp), gs = [[(ba0, .cells [.int .i64 a0.1, .int .i64 a0.2.1, .int .i64 (a0.2.2.1.getD 0 0), .int .i64 (a0.2.2.1.getD 1 0), .int .i64 (a0.2.2.1.getD 2 0), .int .i64 (a0.2.2.1.getD 3 0), .int .i64 (a0.2.2.1.getD 4 0), .int .i64 (a0.2.2.1.getD 5 0), v1].toArray 78 (0, 0))], g2, [(b10, .cells [.int .i64 r.1, .int .i64 r.2.1, .int .i64 (r.2.2.1.getD 0 0), .int .i64 (r.2.2.1.getD 1 0), .int .i64 (r.2.2.1.getD 2 0), .int .i64 (r.2.2.1.getD 3 0), .int .i64 (r.2.2.1.getD 4 0), .int .i64 (r.2.2.1.getD 5 0), v11].toArray 78 (0, 0))], g12] ∧ .pointer (some ⟨b10, 0, none⟩) = v ∧ Mp (Value.int .i64) (rF (Value.int .i64)) τ v11 r.2.2.2 g12) := by
 refine call_of Tryd.func28 Tryd.ntmps28 rfl rfl (fun cs fs => ?_)
 refine ZZ 17 [0] rfl rfl ?_
 refine o_alloc rfl rfl rfl z_zero78 (fun b4 => ?_)
 refine o_store (j := 0) (vs := [.int .i64 a0.1, .int .i64 a0.2.1, .int .i64 (a0.2.2.1.getD 0 0), .int .i64 (a0.2.2.1.getD 1 0), .int .i64 (a0.2.2.1.getD 2 0), .int .i64 (a0.2.2.1.getD 3 0), .int .i64 (a0.2.2.1.getD 4 0), .int .i64 (a0.2.2.1.getD 5 0), v1]) (cs' := [.int .i64 a0.1, .int .i64 a0.2.1, .int .i64 (a0.2.2.1.getD 0 0), .int .i64 (a0.2.2.1.getD 1 0), .int .i64 (a0.2.2.1.getD 2 0), .int .i64 (a0.2.2.1.getD 3 0), .int .i64 (a0.2.2.1.getD 4 0), .int .i64 (a0.2.2.1.getD 5 0), v1]) rfl rfl rfl z_size78 rfl rfl rfl (ones_cons rfl (ones_cons rfl (ones_cons rfl (ones_cons rfl (ones_cons rfl (ones_cons rfl (ones_cons rfl (ones_cons rfl (ones_cons ho3.one' ones_nil))))))))) rfl rfl rfl ?_
 refine st_gs [[(b4, .cells #[.int .i64 a0.1, .int .i64 a0.2.1, .int .i64 (a0.2.2.1.getD 0 0), .int .i64 (a0.2.2.1.getD 1 0), .int .i64 (a0.2.2.1.getD 2 0), .int .i64 (a0.2.2.1.getD 3 0), .int .i64 (a0.2.2.1.getD 4 0), .int .i64 (a0.2.2.1.getD 5 0), v1] 78 (0, 0))], [(ba0, .cells #[.int .i64 a0.1, .int .i64 a0.2.1, .int .i64 (a0.2.2.1.getD 0 0), .int .i64 (a0.2.2.1.getD 1 0), .int .i64 (a0.2.2.1.getD 2 0), .int .i64 (a0.2.2.1.getD 3 0), .int .i64 (a0.2.2.1.getD 4 0), .int .i64 (a0.2.2.1.getD 5 0), v1] 78 (0, 0))], g2] rfl ?_
 refine ZZ 7 [1] rfl rfl ?_
 refine st_ord [2, 0, 0] _ rfl ?_
 refine st_call (foot := [g2]) rfl rfl rfl rfl rfl rfl (callV_fn z_en48 (clone_does Tryd.clone48 ho3)) ?_
 rintro vτ5 τ5 gsτ5 hl6 ⟨v7, g8, rfl, rfl, ho9⟩
 refine o_fieldAddr rfl rfl rfl z_field78_3 rfl ?_
 refine o_store (j := 2) (vs := [v7]) (cs' := [.int .i64 a0.1, .int .i64 a0.2.1, .int .i64 (a0.2.2.1.getD 0 0), .int .i64 (a0.2.2.1.getD 1 0), .int .i64 (a0.2.2.1.getD 2 0), .int .i64 (a0.2.2.1.getD 3 0), .int .i64 (a0.2.2.1.getD 4 0), .int .i64 (a0.2.2.1.getD 5 0), v7]) rfl rfl rfl z_size76 rfl rfl (oneL_mp ho9) (ones_cons ho9.one' ones_nil) rfl rfl rfl ?_
 refine st_gs [g8, g2, [(b4, .cells #[.int .i64 a0.1, .int .i64 a0.2.1, .int .i64 (a0.2.2.1.getD 0 0), .int .i64 (a0.2.2.1.getD 1 0), .int .i64 (a0.2.2.1.getD 2 0), .int .i64 (a0.2.2.1.getD 3 0), .int .i64 (a0.2.2.1.getD 4 0), .int .i64 (a0.2.2.1.getD 5 0), v7] 78 (0, 0))], [(ba0, .cells #[.int .i64 a0.1, .int .i64 a0.2.1, .int .i64 (a0.2.2.1.getD 0 0), .int .i64 (a0.2.2.1.getD 1 0), .int .i64 (a0.2.2.1.getD 2 0), .int .i64 (a0.2.2.1.getD 3 0), .int .i64 (a0.2.2.1.getD 4 0), .int .i64 (a0.2.2.1.getD 5 0), v1] 78 (0, 0))]] rfl ?_
 refine Z 5 rfl ?_
 refine st_ord [3, 1, 1, 0] _ rfl ?_
 obtain rfl := Eq.symm h
 exact st_ret (gs' := [[(ba0, .cells #[.int .i64 a0.1, .int .i64 a0.2.1, .int .i64 (a0.2.2.1.getD 0 0), .int .i64 (a0.2.2.1.getD 1 0), .int .i64 (a0.2.2.1.getD 2 0), .int .i64 (a0.2.2.1.getD 3 0), .int .i64 (a0.2.2.1.getD 4 0), .int .i64 (a0.2.2.1.getD 5 0), v1] 78 (0, 0))], g2, [(b4, .cells #[.int .i64 a0.1, .int .i64 a0.2.1, .int .i64 (a0.2.2.1.getD 0 0), .int .i64 (a0.2.2.1.getD 1 0), .int .i64 (a0.2.2.1.getD 2 0), .int .i64 (a0.2.2.1.getD 3 0), .int .i64 (a0.2.2.1.getD 4 0), .int .i64 (a0.2.2.1.getD 5 0), v7] 78 (0, 0))], g8]) Tryd.func28 rfl (List.Sublist.refl _) hl6 ⟨_, _, _, rfl, rfl, ho9⟩
theorem tally_Tally_Merge_ok {a0 : Int × Int × List Int × List (Int × Int)} {a1 : Int × Int × List Int × List (Int × Int)} {ba0 : Nat} {v1 : Value} {g2 : Grp} {ba1 : Nat} {v4 : Value} {g5 : Grp} {r : (Int × Int × List Int × List (Int × Int))} (h : tally_Tally_Merge a0 a1 r) (σ : Sto) (ho3 : Mp (Value.int .i64) (rF (Value.int .i64)) σ v1 a0.2.2.2 g2) (ho6 : Mp (Value.int .i64) (rF (Value.int .i64)) σ v4 a1.2.2.2 g5) :
    Does Tryd.prog 18 [.pointer (some ⟨ba0, 0, none⟩), .pointer (some ⟨ba1, 0, none⟩)] σ [[(ba0, .cells [.int .i64 a0.1, .int .i64 a0.2.1, .int .i64 (a0.2.2.1.getD 0 0), .int .i64 (a0.2.2.1.getD 1 0), .int .i64 (a0.2.2.1.getD 2 0), .int .i64 (a0.2.2.1.getD 3 0), .int .i64 (a0.2.2.1.getD 4 0), .int .i64 (a0.2.2.1.getD 5 0), v1].toArray 78 (0, 0))], g2, [(ba1, .cells [.int .i64 a1.1, .int .i64 a1.2.1, .int .i64 (a1.2.2.1.getD 0 0), .int .i64 (a1.2.2.1.getD 1 0), .int .i64 (a1.2.2.1.getD 2 0), .int .i64 (a1.2.2.1.getD 3 0), .int .i64 (a1.2.2.1.getD 4 0), .int .i64 (a1.2.2.1.getD 5 0), v4].toArray 78 (0, 0))], g5] (fun v τ gs => ∃ (v63 : Value) (g64 : Grp), gs = [[(ba0, .cells [.int .i64 r.1, .int .i64 r.2.1, .int .i64 (r.2.2.1.getD 0 0), .int .i64 (r.2.2.1.getD 1 0), .int .i64 (r.2.2.1.getD 2 0), .int .i64 (r.2.2.1.getD 3 0), .int .i64 (r.2.2.1.getD 4 0), .int .i64 (r.2.2.1.getD 5 0), v63].toArray 78 (0, 0))], g64, [(ba1, .cells [.int .i64 a1.1, .int .i64 a1.2.1, .int .i64 (a1.2.2.1.getD 0 0), .int .i64 (a1.2.2.1.getD 1 0), .int .i64 (a1.2.2.1.getD 2 0), .int .i64 (a1.2.2.1.getD 3 0), .int .i64 (a1.2.2.1.getD 4 0), .int .i64 (a1.2.2.1.getD 5 0), v4].toArray 78 (0, 0))], g5] ∧ .tuple [].toArray = v ∧ Mp (Value.int .i64) (rF (Value.int .i64)) τ v63 r.2.2.2 g64) := by
 refine call_of Tryd.func18 Tryd.ntmps18 rfl rfl (fun cs fs => ?_)
 refine Z 2 rfl ?_
 refine o_boxC rfl rfl rfl rfl rfl rfl (fun b7 => ?_)
 refine ZZ 16 [0] rfl rfl ?_
 obtain ⟨r8, hr9, h⟩ := h
 refine st_ord [3, 3, 0, 0, 0] _ rfl ?_
 refine st_call (foot := [[(ba1, .cells #[.int .i64 a1.1, .int .i64 a1.2.1, .int .i64 (a1.2.2.1.getD 0 0), .int .i64 (a1.2.2.1.getD 1 0), .int .i64 (a1.2.2.1.getD 2 0), .int .i64 (a1.2.2.1.getD 3 0), .int .i64 (a1.2.2.1.getD 4 0), .int .i64 (a1.2.2.1.getD 5 0), v4] 78 (0, 0))], g5]) rfl rfl rfl rfl rfl rfl (callV_fn z_en28 (tally_Tally_Copy_ok hr9 σ ho6)) ?_
 rintro vτ10 τ10 gsτ10 hl11 ⟨b12, v13, g14, rfl, rfl, ho15⟩
 refine Z 3 rfl ?_
 refine st_d41 [[(ba1, .cells #[.int .i64 a1.1, .int .i64 a1.2.1, .int .i64 (a1.2.2.1.getD 0 0), .int .i64 (a1.2.2.1.getD 1 0), .int .i64 (a1.2.2.1.getD 2 0), .int .i64 (a1.2.2.1.getD 3 0), .int .i64 (a1.2.2.1.getD 4 0), .int .i64 (a1.2.2.1.getD 5 0), v4] 78 (0, 0))], g5, [(b12, .cells #[.int .i64 r8.1, .int .i64 r8.2.1, .int .i64 (r8.2.2.1.getD 0 0), .int .i64 (r8.2.2.1.getD 1 0), .int .i64 (r8.2.2.1.getD 2 0), .int .i64 (r8.2.2.1.getD 3 0), .int .i64 (r8.2.2.1.getD 4 0), .int .i64 (r8.2.2.1.getD 5 0), v13] 78 (0, 0))], g14, [(b7, .cells #[.pointer (some ⟨ba0, 0, none⟩)] 48 (0, 0))]] [[(ba0, .cells #[.int .i64 a0.1, .int .i64 a0.2.1, .int .i64 (a0.2.2.1.getD 0 0), .int .i64 (a0.2.2.1.getD 1 0), .int .i64 (a0.2.2.1.getD 2 0), .int .i64 (a0.2.2.1.getD 3 0), .int .i64 (a0.2.2.1.getD 4 0), .int .i64 (a0.2.2.1.getD 5 0), v1] 78 (0, 0))], g2] 12 2 [none, none, none, some (0, 0), none, none, none, none, none, none, none, some (0, 1)] [none, none, none, none, none, none, none, none, none, none, none, none] [[none, some 19, none]] [.v (.pointer (some ⟨ba0, 0, none⟩)), .v (.pointer (some ⟨ba0, 0, none⟩)), .v (.pointer (some ⟨ba0, 0, none⟩)), .v (.int .i64 a0.1), .v (.pointer (some ⟨b12, 0, none⟩)), .v (.pointer (some ⟨b12, 0, none⟩)), .v (.pointer (some ⟨b12, 0, none⟩)), .v (.int .i64 r8.1), .v (.int .i64 (IntKind.i64.wrap (a0.1 + r8.1))), .v (.pointer (some ⟨ba0, 0, none⟩)), .v (.pointer (some ⟨ba0, 0, none⟩)), .t fun _ _ => True] [[fun τ u F => F = [[(ba0, .cells #[.int .i64 a0.1, .int .i64 a0.2.1, .int .i64 (a0.2.2.1.getD 0 0), .int .i64 (a0.2.2.1.getD 1 0), .int .i64 (a0.2.2.1.getD 2 0), .int .i64 (a0.2.2.1.getD 3 0), .int .i64 (a0.2.2.1.getD 4 0), .int .i64 (a0.2.2.1.getD 5 0), v1] 78 (0, 0))], g2], fun τ u F => F = [[(ba0, .cells #[.int .i64 a0.1, .int .i64 a0.2.1, .int .i64 (a0.2.2.1.getD 0 0), .int .i64 (a0.2.2.1.getD 1 0), .int .i64 (a0.2.2.1.getD 2 0), .int .i64 (a0.2.2.1.getD 3 0), .int .i64 (a0.2.2.1.getD 4 0), .int .i64 (a0.2.2.1.getD 5 0), v1] 78 (0, 0))], g2], fun τ u F => F = [[(ba0, .cells #[.int .i64 (IntKind.i64.wrap (a0.1 + r8.1)), .int .i64 a0.2.1, .int .i64 (a0.2.2.1.getD 0 0), .int .i64 (a0.2.2.1.getD 1 0), .int .i64 (a0.2.2.1.getD 2 0), .int .i64 (a0.2.2.1.getD 3 0), .int .i64 (a0.2.2.1.getD 4 0), .int .i64 (a0.2.2.1.getD 5 0), v1] 78 (0, 0))], g2]]] rfl z_mix rfl ⟨fun _ _ _ _ _ => trivial, trivial⟩ ⟨⟨fun _ _ _ _ hl h => h, ⟨fun _ _ _ _ hl h => h, ⟨fun _ _ _ _ hl h => h, trivial⟩⟩⟩, trivial⟩ rfl rfl ?_ (allB_cons (allB_cons (allB_cons (allB_cons (allB_cons (allB_cons (allB_cons (allB_cons (allB_cons (allB_cons (allB_cons (allB_cons allB_nil ?_) (p4 dA)) (p4 dA)) ?_) (p4 dA)) (p4 dA)) (p4 dA)) ?_) (p4 dA)) (p4 dA)) (p4 dA)) ?_) ?_
 ·exact rfl
 ·intro ρ' τ pool rs hl hd hout hw hk
  refine o_load (j := 4) (v := .pointer (some ⟨ba0, 0, none⟩)) rfl rfl rfl z_sc48 ((hout 2 rfl).trans rfl) rfl rfl ?_
  exact hk _ _ (Sto.Le.refl _) rfl
 ·intro ρ' τ u Fv pool rs hl hI hu hd hout hw hk
  obtain ⟨_, e2, rfl⟩ := hd 2 rfl _ rfl
  have hI0 := hI
  obtain rfl := hI
  refine st_gs [[(ba1, .cells #[.int .i64 a1.1, .int .i64 a1.2.1, .int .i64 (a1.2.2.1.getD 0 0), .int .i64 (a1.2.2.1.getD 1 0), .int .i64 (a1.2.2.1.getD 2 0), .int .i64 (a1.2.2.1.getD 3 0), .int .i64 (a1.2.2.1.getD 4 0), .int .i64 (a1.2.2.1.getD 5 0), v4] 78 (0, 0))], g5, [(b12, .cells #[.int .i64 r8.1, .int .i64 r8.2.1, .int .i64 (r8.2.2.1.getD 0 0), .int .i64 (r8.2.2.1.getD 1 0), .int .i64 (r8.2.2.1.getD 2 0), .int .i64 (r8.2.2.1.getD 3 0), .int .i64 (r8.2.2.1.getD 4 0), .int .i64 (r8.2.2.1.getD 5 0), v13] 78 (0, 0))], g14, [(b7, .cells #[.pointer (some ⟨ba0, 0, none⟩)] 48 (0, 0))], [(ba0, .cells #[.int .i64 a0.1, .int .i64 a0.2.1, .int .i64 (a0.2.2.1.getD 0 0), .int .i64 (a0.2.2.1.getD 1 0), .int .i64 (a0.2.2.1.getD 2 0), .int .i64 (a0.2.2.1.getD 3 0), .int .i64 (a0.2.2.1.getD 4 0), .int .i64 (a0.2.2.1.getD 5 0), v1] 78 (0, 0))], g2, pool] rfl ?_
  refine o_load (j := 5) (v := .int .i64 a0.1) rfl rfl rfl z_sc3 e2 rfl rfl ?_
  exact hk _ _ [[(ba0, .cells #[.int .i64 a0.1, .int .i64 a0.2.1, .int .i64 (a0.2.2.1.getD 0 0), .int .i64 (a0.2.2.1.getD 1 0), .int .i64 (a0.2.2.1.getD 2 0), .int .i64 (a0.2.2.1.getD 3 0), .int .i64 (a0.2.2.1.getD 4 0), .int .i64 (a0.2.2.1.getD 5 0), v1] 78 (0, 0))], g2] (Sto.Le.refl _) rfl (by exact hI0)
 ·intro ρ' τ pool rs hl hd hout hw hk
  obtain ⟨_, e6, rfl⟩ := hd 6 rfl _ rfl
  refine o_load (j := 2) (v := .int .i64 r8.1) rfl rfl rfl z_sc3 e6 rfl rfl ?_
  exact hk _ _ (Sto.Le.refl _) rfl
 ·intro ρ' τ u Fv pool rs hl hI hu hd hout hw hk
  obtain ⟨_, e8, rfl⟩ := hd 8 rfl _ rfl
  obtain ⟨_, e10, rfl⟩ := hd 10 rfl _ rfl
  have hI0 := hI
  obtain rfl := hI
  refine st_gs [[(ba1, .cells #[.int .i64 a1.1, .int .i64 a1.2.1, .int .i64 (a1.2.2.1.getD 0 0), .int .i64 (a1.2.2.1.getD 1 0), .int .i64 (a1.2.2.1.getD 2 0), .int .i64 (a1.2.2.1.getD 3 0), .int .i64 (a1.2.2.1.getD 4 0), .int .i64 (a1.2.2.1.getD 5 0), v4] 78 (0, 0))], g5, [(b12, .cells #[.int .i64 r8.1, .int .i64 r8.2.1, .int .i64 (r8.2.2.1.getD 0 0), .int .i64 (r8.2.2.1.getD 1 0), .int .i64 (r8.2.2.1.getD 2 0), .int .i64 (r8.2.2.1.getD 3 0), .int .i64 (r8.2.2.1.getD 4 0), .int .i64 (r8.2.2.1.getD 5 0), v13] 78 (0, 0))], g14, [(b7, .cells #[.pointer (some ⟨ba0, 0, none⟩)] 48 (0, 0))], [(ba0, .cells #[.int .i64 a0.1, .int .i64 a0.2.1, .int .i64 (a0.2.2.1.getD 0 0), .int .i64 (a0.2.2.1.getD 1 0), .int .i64 (a0.2.2.1.getD 2 0), .int .i64 (a0.2.2.1.getD 3 0), .int .i64 (a0.2.2.1.getD 4 0), .int .i64 (a0.2.2.1.getD 5 0), v1] 78 (0, 0))], g2, pool] rfl ?_
  refine o_store (j := 5) (vs := [.int .i64 (IntKind.i64.wrap (a0.1 + r8.1))]) (cs' := [.int .i64 (IntKind.i64.wrap (a0.1 + r8.1)), .int .i64 a0.2.1, .int .i64 (a0.2.2.1.getD 0 0), .int .i64 (a0.2.2.1.getD 1 0), .int .i64 (a0.2.2.1.getD 2 0), .int .i64 (a0.2.2.1.getD 3 0), .int .i64 (a0.2.2.1.getD 4 0), .int .i64 (a0.2.2.1.getD 5 0), v1]) rfl rfl rfl z_size3 e10 e8 rfl (ones_cons rfl ones_nil) rfl rfl rfl ?_
  refine st_gs [[(ba1, .cells #[.int .i64 a1.1, .int .i64 a1.2.1, .int .i64 (a1.2.2.1.getD 0 0), .int .i64 (a1.2.2.1.getD 1 0), .int .i64 (a1.2.2.1.getD 2 0), .int .i64 (a1.2.2.1.getD 3 0), .int .i64 (a1.2.2.1.getD 4 0), .int .i64 (a1.2.2.1.getD 5 0), v4] 78 (0, 0))], g5, [(b12, .cells #[.int .i64 r8.1, .int .i64 r8.2.1, .int .i64 (r8.2.2.1.getD 0 0), .int .i64 (r8.2.2.1.getD 1 0), .int .i64 (r8.2.2.1.getD 2 0), .int .i64 (r8.2.2.1.getD 3 0), .int .i64 (r8.2.2.1.getD 4 0), .int .i64 (r8.2.2.1.getD 5 0), v13] 78 (0, 0))], g14, [(b7, .cells #[.pointer (some ⟨ba0, 0, none⟩)] 48 (0, 0))], [(ba0, .cells #[.int .i64 (IntKind.i64.wrap (a0.1 + r8.1)), .int .i64 a0.2.1, .int .i64 (a0.2.2.1.getD 0 0), .int .i64 (a0.2.2.1.getD 1 0), .int .i64 (a0.2.2.1.getD 2 0), .int .i64 (a0.2.2.1.getD 3 0), .int .i64 (a0.2.2.1.getD 4 0), .int .i64 (a0.2.2.1.getD 5 0), v1] 78 (0, 0))], g2, pool] rfl ?_
  exact hk _ _ [[(ba0, .cells #[.int .i64 (IntKind.i64.wrap (a0.1 + r8.1)), .int .i64 a0.2.1, .int .i64 (a0.2.2.1.getD 0 0), .int .i64 (a0.2.2.1.getD 1 0), .int .i64 (a0.2.2.1.getD 2 0), .int .i64 (a0.2.2.1.getD 3 0), .int .i64 (a0.2.2.1.getD 4 0), .int .i64 (a0.2.2.1.getD 5 0), v1] 78 (0, 0))], g2] (Sto.Le.refl _) trivial (by exact rfl)
 intro ρ' τ16 vals u Fv hl16 hI hu hv hout
 obtain rfl := hI
 refine st_gs [[(ba1, .cells #[.int .i64 a1.1, .int .i64 a1.2.1, .int .i64 (a1.2.2.1.getD 0 0), .int .i64 (a1.2.2.1.getD 1 0), .int .i64 (a1.2.2.1.getD 2 0), .int .i64 (a1.2.2.1.getD 3 0), .int .i64 (a1.2.2.1.getD 4 0), .int .i64 (a1.2.2.1.getD 5 0), v4] 78 (0, 0))], g5, [(b12, .cells #[.int .i64 r8.1, .int .i64 r8.2.1, .int .i64 (r8.2.2.1.getD 0 0), .int .i64 (r8.2.2.1.getD 1 0), .int .i64 (r8.2.2.1.getD 2 0), .int .i64 (r8.2.2.1.getD 3 0), .int .i64 (r8.2.2.1.getD 4 0), .int .i64 (r8.2.2.1.getD 5 0), v13] 78 (0, 0))], g14, [(b7, .cells #[.pointer (some ⟨ba0, 0, none⟩)] 48 (0, 0))], [(ba0, .cells #[.int .i64 (IntKind.i64.wrap (a0.1 + r8.1)), .int .i64 a0.2.1, .int .i64 (a0.2.2.1.getD 0 0), .int .i64 (a0.2.2.1.getD 1 0), .int .i64 (a0.2.2.1.getD 2 0), .int .i64 (a0.2.2.1.getD 3 0), .int .i64 (a0.2.2.1.getD 4 0), .int .i64 (a0.2.2.1.getD 5 0), v1] 78 (0, 0))], g2] rfl ?_
 refine st_env (ρ' := [(1, .pointer (some ⟨b12, 0, none⟩)), (2, .pointer (some ⟨b7, 0, none⟩))]) ⟨(hout 1 rfl).trans rfl, (hout 2 rfl).trans rfl, trivial⟩ ?_
 refine Z 2 rfl ?_
 refine st_d41 [[(ba1, .cells #[.int .i64 a1.1, .int .i64 a1.2.1, .int .i64 (a1.2.2.1.getD 0 0), .int .i64 (a1.2.2.1.getD 1 0), .int .i64 (a1.2.2.1.getD 2 0), .int .i64 (a1.2.2.1.getD 3 0), .int .i64 (a1.2.2.1.getD 4 0), .int .i64 (a1.2.2.1.getD 5 0), v4] 78 (0, 0))], g5, [(b12, .cells #[.int .i64 r8.1, .int .i64 r8.2.1, .int .i64 (r8.2.2.1.getD 0 0), .int .i64 (r8.2.2.1.getD 1 0), .int .i64 (r8.2.2.1.getD 2 0), .int .i64 (r8.2.2.1.getD 3 0), .int .i64 (r8.2.2.1.getD 4 0), .int .i64 (r8.2.2.1.getD 5 0), v13] 78 (0, 0))], g14, [(b7, .cells #[.pointer (some ⟨ba0, 0, none⟩)] 48 (0, 0))]] [[(ba0, .cells #[.int .i64 (IntKind.i64.wrap (a0.1 + r8.1)), .int .i64 a0.2.1, .int .i64 (a0.2.2.1.getD 0 0), .int .i64 (a0.2.2.1.getD 1 0), .int .i64 (a0.2.2.1.getD 2 0), .int .i64 (a0.2.2.1.getD 3 0), .int .i64 (a0.2.2.1.getD 4 0), .int .i64 (a0.2.2.1.getD 5 0), v1] 78 (0, 0))], g2] 12 2 [none, none, none, some (0, 0), none, none, none, none, none, none, none, some (0, 1)] [none, none, none, none, none, none, none, none, none, none, none, none] [[none, some 30, none]] [.v (.pointer (some ⟨ba0, 0, none⟩)), .v (.pointer (some ⟨ba0, 0, none⟩)), .v (.pointer (some ⟨ba0, 1, none⟩)), .v (.int .i64 a0.2.1), .v (.pointer (some ⟨b12, 0, none⟩)), .v (.pointer (some ⟨b12, 0, none⟩)), .v (.pointer (some ⟨b12, 1, none⟩)), .v (.int .i64 r8.2.1), .v (.int .i64 (IntKind.i64.wrap (a0.2.1 + r8.2.1))), .v (.pointer (some ⟨ba0, 0, none⟩)), .v (.pointer (some ⟨ba0, 1, none⟩)), .t fun _ _ => True] [[fun τ u F => F = [[(ba0, .cells #[.int .i64 (IntKind.i64.wrap (a0.1 + r8.1)), .int .i64 a0.2.1, .int .i64 (a0.2.2.1.getD 0 0), .int .i64 (a0.2.2.1.getD 1 0), .int .i64 (a0.2.2.1.getD 2 0), .int .i64 (a0.2.2.1.getD 3 0), .int .i64 (a0.2.2.1.getD 4 0), .int .i64 (a0.2.2.1.getD 5 0), v1] 78 (0, 0))], g2], fun τ u F => F = [[(ba0, .cells #[.int .i64 (IntKind.i64.wrap (a0.1 + r8.1)), .int .i64 a0.2.1, .int .i64 (a0.2.2.1.getD 0 0), .int .i64 (a0.2.2.1.getD 1 0), .int .i64 (a0.2.2.1.getD 2 0), .int .i64 (a0.2.2.1.getD 3 0), .int .i64 (a0.2.2.1.getD 4 0), .int .i64 (a0.2.2.1.getD 5 0), v1] 78 (0, 0))], g2], fun τ u F => F = [[(ba0, .cells #[.int .i64 (IntKind.i64.wrap (a0.1 + r8.1)), .int .i64 (IntKind.i64.wrap (a0.2.1 + r8.2.1)), .int .i64 (a0.2.2.1.getD 0 0), .int .i64 (a0.2.2.1.getD 1 0), .int .i64 (a0.2.2.1.getD 2 0), .int .i64 (a0.2.2.1.getD 3 0), .int .i64 (a0.2.2.1.getD 4 0), .int .i64 (a0.2.2.1.getD 5 0), v1] 78 (0, 0))], g2]]] rfl z_mix rfl ⟨fun _ _ _ _ _ => trivial, trivial⟩ ⟨⟨fun _ _ _ _ hl h => h, ⟨fun _ _ _ _ hl h => h, ⟨fun _ _ _ _ hl h => h, trivial⟩⟩⟩, trivial⟩ rfl rfl ?_ (allB_cons (allB_cons (allB_cons (allB_cons (allB_cons (allB_cons (allB_cons (allB_cons (allB_cons (allB_cons (allB_cons (allB_cons allB_nil ?_) (p4 dA)) (p4 dA)) ?_) (p4 dA)) (p4 dA)) (p4 dA)) ?_) (p4 dA)) (p4 dA)) (p4 dA)) ?_) ?_
 ·exact rfl
 ·intro ρ' τ pool rs hl hd hout hw hk
  refine o_load (j := 4) (v := .pointer (some ⟨ba0, 0, none⟩)) rfl rfl rfl z_sc48 ((hout 2 rfl).trans rfl) rfl rfl ?_
  exact hk _ _ (Sto.Le.refl _) rfl
 ·intro ρ' τ u Fv pool rs hl hI hu hd hout hw hk
  obtain ⟨_, e2, rfl⟩ := hd 2 rfl _ rfl
  have hI0 := hI
  obtain rfl := hI
  refine st_gs [[(ba1, .cells #[.int .i64 a1.1, .int .i64 a1.2.1, .int .i64 (a1.2.2.1.getD 0 0), .int .i64 (a1.2.2.1.getD 1 0), .int .i64 (a1.2.2.1.getD 2 0), .int .i64 (a1.2.2.1.getD 3 0), .int .i64 (a1.2.2.1.getD 4 0), .int .i64 (a1.2.2.1.getD 5 0), v4] 78 (0, 0))], g5, [(b12, .cells #[.int .i64 r8.1, .int .i64 r8.2.1, .int .i64 (r8.2.2.1.getD 0 0), .int .i64 (r8.2.2.1.getD 1 0), .int .i64 (r8.2.2.1.getD 2 0), .int .i64 (r8.2.2.1.getD 3 0), .int .i64 (r8.2.2.1.getD 4 0), .int .i64 (r8.2.2.1.getD 5 0), v13] 78 (0, 0))], g14, [(b7, .cells #[.pointer (some ⟨ba0, 0, none⟩)] 48 (0, 0))], [(ba0, .cells #[.int .i64 (IntKind.i64.wrap (a0.1 + r8.1)), .int .i64 a0.2.1, .int .i64 (a0.2.2.1.getD 0 0), .int .i64 (a0.2.2.1.getD 1 0), .int .i64 (a0.2.2.1.getD 2 0), .int .i64 (a0.2.2.1.getD 3 0), .int .i64 (a0.2.2.1.getD 4 0), .int .i64 (a0.2.2.1.getD 5 0), v1] 78 (0, 0))], g2, pool] rfl ?_
  refine o_load (j := 5) (v := .int .i64 a0.2.1) rfl rfl rfl z_sc3 e2 rfl rfl ?_
  exact hk _ _ [[(ba0, .cells #[.int .i64 (IntKind.i64.wrap (a0.1 + r8.1)), .int .i64 a0.2.1, .int .i64 (a0.2.2.1.getD 0 0), .int .i64 (a0.2.2.1.getD 1 0), .int .i64 (a0.2.2.1.getD 2 0), .int .i64 (a0.2.2.1.getD 3 0), .int .i64 (a0.2.2.1.getD 4 0), .int .i64 (a0.2.2.1.getD 5 0), v1] 78 (0, 0))], g2] (Sto.Le.refl _) rfl (by exact hI0)
 ·intro ρ' τ pool rs hl hd hout hw hk
  obtain ⟨_, e6, rfl⟩ := hd 6 rfl _ rfl
  refine o_load (j := 2) (v := .int .i64 r8.2.1) rfl rfl rfl z_sc3 e6 rfl rfl ?_
  exact hk _ _ (Sto.Le.refl _) rfl
 ·intro ρ' τ u Fv pool rs hl hI hu hd hout hw hk
  obtain ⟨_, e8, rfl⟩ := hd 8 rfl _ rfl
  obtain ⟨_, e10, rfl⟩ := hd 10 rfl _ rfl
  have hI0 := hI
  obtain rfl := hI
  refine st_gs [[(ba1, .cells #[.int .i64 a1.1, .int .i64 a1.2.1, .int .i64 (a1.2.2.1.getD 0 0), .int .i64 (a1.2.2.1.getD 1 0), .int .i64 (a1.2.2.1.getD 2 0), .int .i64 (a1.2.2.1.getD 3 0), .int .i64 (a1.2.2.1.getD 4 0), .int .i64 (a1.2.2.1.getD 5 0), v4] 78 (0, 0))], g5, [(b12, .cells #[.int .i64 r8.1, .int .i64 r8.2.1, .int .i64 (r8.2.2.1.getD 0 0), .int .i64 (r8.2.2.1.getD 1 0), .int .i64 (r8.2.2.1.getD 2 0), .int .i64 (r8.2.2.1.getD 3 0), .int .i64 (r8.2.2.1.getD 4 0), .int .i64 (r8.2.2.1.getD 5 0), v13] 78 (0, 0))], g14, [(b7, .cells #[.pointer (some ⟨ba0, 0, none⟩)] 48 (0, 0))], [(ba0, .cells #[.int .i64 (IntKind.i64.wrap (a0.1 + r8.1)), .int .i64 a0.2.1, .int .i64 (a0.2.2.1.getD 0 0), .int .i64 (a0.2.2.1.getD 1 0), .int .i64 (a0.2.2.1.getD 2 0), .int .i64 (a0.2.2.1.getD 3 0), .int .i64 (a0.2.2.1.getD 4 0), .int .i64 (a0.2.2.1.getD 5 0), v1] 78 (0, 0))], g2, pool] rfl ?_
  refine o_store (j := 5) (vs := [.int .i64 (IntKind.i64.wrap (a0.2.1 + r8.2.1))]) (cs' := [.int .i64 (IntKind.i64.wrap (a0.1 + r8.1)), .int .i64 (IntKind.i64.wrap (a0.2.1 + r8.2.1)), .int .i64 (a0.2.2.1.getD 0 0), .int .i64 (a0.2.2.1.getD 1 0), .int .i64 (a0.2.2.1.getD 2 0), .int .i64 (a0.2.2.1.getD 3 0), .int .i64 (a0.2.2.1.getD 4 0), .int .i64 (a0.2.2.1.getD 5 0), v1]) rfl rfl rfl z_size3 e10 e8 rfl (ones_cons rfl ones_nil) rfl rfl rfl ?_
  refine st_gs [[(ba1, .cells #[.int .i64 a1.1, .int .i64 a1.2.1, .int .i64 (a1.2.2.1.getD 0 0), .int .i64 (a1.2.2.1.getD 1 0), .int .i64 (a1.2.2.1.getD 2 0), .int .i64 (a1.2.2.1.getD 3 0), .int .i64 (a1.2.2.1.getD 4 0), .int .i64 (a1.2.2.1.getD 5 0), v4] 78 (0, 0))], g5, [(b12, .cells #[.int .i64 r8.1, .int .i64 r8.2.1, .int .i64 (r8.2.2.1.getD 0 0), .int .i64 (r8.2.2.1.getD 1 0), .int .i64 (r8.2.2.1.getD 2 0), .int .i64 (r8.2.2.1.getD 3 0), .int .i64 (r8.2.2.1.getD 4 0), .int .i64 (r8.2.2.1.getD 5 0), v13] 78 (0, 0))], g14, [(b7, .cells #[.pointer (some ⟨ba0, 0, none⟩)] 48 (0, 0))], [(ba0, .cells #[.int .i64 (IntKind.i64.wrap (a0.1 + r8.1)), .int .i64 (IntKind.i64.wrap (a0.2.1 + r8.2.1)), .int .i64 (a0.2.2.1.getD 0 0), .int .i64 (a0.2.2.1.getD 1 0), .int .i64 (a0.2.2.1.getD 2 0), .int .i64 (a0.2.2.1.getD 3 0), .int .i64 (a0.2.2.1.getD 4 0), .int .i64 (a0.2.2.1.getD 5 0), v1] 78 (0, 0))], g2, pool] rfl ?_
  exact hk _ _ [[(ba0, .cells #[.int .i64 (IntKind.i64.wrap (a0.1 + r8.1)), .int .i64 (IntKind.i64.wrap (a0.2.1 + r8.2.1)), .int .i64 (a0.2.2.1.getD 0 0), .int .i64 (a0.2.2.1.getD 1 0), .int .i64 (a0.2.2.1.getD 2 0), .int .i64 (a0.2.2.1.getD 3 0), .int .i64 (a0.2.2.1.getD 4 0), .int .i64 (a0.2.2.1.getD 5 0), v1] 78 (0, 0))], g2] (Sto.Le.refl _) trivial (by exact rfl)
 intro ρ' τ17 vals u Fv hl17 hI hu hv hout
 obtain rfl := hI
 refine st_gs [[(ba1, .cells #[.int .i64 a1.1, .int .i64 a1.2.1, .int .i64 (a1.2.2.1.getD 0 0), .int .i64 (a1.2.2.1.getD 1 0), .int .i64 (a1.2.2.1.getD 2 0), .int .i64 (a1.2.2.1.getD 3 0), .int .i64 (a1.2.2.1.getD 4 0), .int .i64 (a1.2.2.1.getD 5 0), v4] 78 (0, 0))], g5, [(b12, .cells #[.int .i64 r8.1, .int .i64 r8.2.1, .int .i64 (r8.2.2.1.getD 0 0), .int .i64 (r8.2.2.1.getD 1 0), .int .i64 (r8.2.2.1.getD 2 0), .int .i64 (r8.2.2.1.getD 3 0), .int .i64 (r8.2.2.1.getD 4 0), .int .i64 (r8.2.2.1.getD 5 0), v13] 78 (0, 0))], g14, [(b7, .cells #[.pointer (some ⟨ba0, 0, none⟩)] 48 (0, 0))], [(ba0, .cells #[.int .i64 (IntKind.i64.wrap (a0.1 + r8.1)), .int .i64 (IntKind.i64.wrap (a0.2.1 + r8.2.1)), .int .i64 (a0.2.2.1.getD 0 0), .int .i64 (a0.2.2.1.getD 1 0), .int .i64 (a0.2.2.1.getD 2 0), .int .i64 (a0.2.2.1.getD 3 0), .int .i64 (a0.2.2.1.getD 4 0), .int .i64 (a0.2.2.1.getD 5 0), v1] 78 (0, 0))], g2] rfl ?_
 refine st_env (ρ' := [(1, .pointer (some ⟨b12, 0, none⟩)), (2, .pointer (some ⟨b7, 0, none⟩))]) ⟨(hout 1 rfl).trans rfl, (hout 2 rfl).trans rfl, trivial⟩ ?_
 refine Z 2 rfl ?_
 refine st_cut (fun ρ τ18 gs => ∃ (s18 : Int × Int × Int × Int × Int × Int), tally_Tally_Merge_j1 a0 r8 s18 r ∧ τ17.Le τ18 ∧ ESub ρ [(1, .pointer (some ⟨b12, 0, none⟩)), (2, .pointer (some ⟨b7, 0, none⟩))] ∧ gs = [[(ba0, .cells #[.int .i64 (IntKind.i64.wrap (a0.1 + r8.1)), .int .i64 (IntKind.i64.wrap (a0.2.1 + r8.2.1)), .int .i64 s18.1, .int .i64 s18.2.1, .int .i64 s18.2.2.1, .int .i64 s18.2.2.2.1, .int .i64 s18.2.2.2.2.1, .int .i64 s18.2.2.2.2.2, v1] 78 (0, 0))], [(ba1, .cells #[.int .i64 a1.1, .int .i64 a1.2.1, .int .i64 (a1.2.2.1.getD 0 0), .int .i64 (a1.2.2.1.getD 1 0), .int .i64 (a1.2.2.1.getD 2 0), .int .i64 (a1.2.2.1.getD 3 0), .int .i64 (a1.2.2.1.getD 4 0), .int .i64 (a1.2.2.1.getD 5 0), v4] 78 (0, 0))], [(b7, .cells #[.pointer (some ⟨ba0, 0, none⟩)] 48 (0, 0))], [(b12, .cells #[.int .i64 r8.1, .int .i64 r8.2.1, .int .i64 (r8.2.2.1.getD 0 0), .int .i64 (r8.2.2.1.getD 1 0), .int .i64 (r8.2.2.1.getD 2 0), .int .i64 (r8.2.2.1.getD 3 0), .int .i64 (r8.2.2.1.getD 4 0), .int .i64 (r8.2.2.1.getD 5 0), v13] 78 (0, 0))], g2, g5, g14]) ?_ (fun hk18 => ?_)
 ·rintro ρ18 τ18 gs18 ⟨s18, h, hl18, hρ, rfl⟩
  refine st_es hρ ?_
  refine Z 3 rfl ?_
  obtain ⟨r19, hr20, h⟩ := h
  refine st_ord [3, 5, 0, 0, 0, 0, 0] _ rfl ?_
  refine st_call (foot := [[(b12, .cells #[.int .i64 r8.1, .int .i64 r8.2.1, .int .i64 (r8.2.2.1.getD 0 0), .int .i64 (r8.2.2.1.getD 1 0), .int .i64 (r8.2.2.1.getD 2 0), .int .i64 (r8.2.2.1.getD 3 0), .int .i64 (r8.2.2.1.getD 4 0), .int .i64 (r8.2.2.1.getD 5 0), v13] 78 (0, 0))], g14]) rfl rfl rfl rfl rfl rfl (callV_fn z_en20 (tally_Tally_Errors_ok hr20 τ18 (ho15.up ((hl16.trans hl17).trans hl18)))) ?_
  rintro vτ21 τ21 gsτ21 hl22 ⟨f23, q24, rfl, rfl, hit25⟩
  refine Z 2 rfl ?_
  obtain ⟨t35, w35, hR35, hA35⟩ := h
  refine st_env (ρ' := [(2, .pointer (some ⟨b7, 0, none⟩)), (59, .func (.func f23) #[] q24)]) ⟨rfl, rfl, trivial⟩ ?_
  refine st_ord [0, 0, 0, 0, 0, 1, 0] _ rfl ?_
  refine st_glue ?_
  refine st_range (B := tally_Tally_Merge_l2) (s0 := a0.2.2.2) ranges_fctx rfl (hit25 r8 _ _ τ21 (Sto.Le.refl _) (ho15.up (((hl16.trans hl17).trans hl18).trans hl22))) (Sto.Le.refl _) hR35 rfl (fun _ _ _ h => by cases h; rfl) (fun (s35 : (List (Int × Int))) τ35 gs => τ21.Le τ35 ∧ ∃ (v36 : Value) (g37 : Grp), gs = [[(ba0, .cells #[.int .i64 (IntKind.i64.wrap (a0.1 + r8.1)), .int .i64 (IntKind.i64.wrap (a0.2.1 + r8.2.1)), .int .i64 s18.1, .int .i64 s18.2.1, .int .i64 s18.2.2.1, .int .i64 s18.2.2.2.1, .int .i64 s18.2.2.2.2.1, .int .i64 s18.2.2.2.2.2, v36] 78 (0, 0))], [(ba1, .cells #[.int .i64 a1.1, .int .i64 a1.2.1, .int .i64 (a1.2.2.1.getD 0 0), .int .i64 (a1.2.2.1.getD 1 0), .int .i64 (a1.2.2.1.getD 2 0), .int .i64 (a1.2.2.1.getD 3 0), .int .i64 (a1.2.2.1.getD 4 0), .int .i64 (a1.2.2.1.getD 5 0), v4] 78 (0, 0))], [(b7, .cells #[.pointer (some ⟨ba0, 0, none⟩)] 48 (0, 0))], g5, g37] ∧ Mp (Value.int .i64) (rF (Value.int .i64)) τ35 v36 s35 g37) (fun _ _ _ _ => False) (fun _ _ _ _ hl ⟨hb, v36, g37, hg, ho38⟩ => ⟨hb.trans hl, v36, g37, hg, ho38.up hl⟩) (fun _ _ _ _ _ _ h => h.elim) ⟨Sto.Le.refl _, _, _, rfl, (ho3.up ((((hl11.trans hl16).trans hl17).trans hl18).trans hl22))⟩ ?_ ?_ ?_
  ·rintro x35 s35 o35 τ35 gs35 vx35 hl35 h rfl ⟨hb35, v36, g37, rfl, ho38⟩ l35 rc35 caller35 cs35 fs35
   refine Z 7 rfl ?_
   refine st_begin ?_
   refine ZZ 7 [2, 0] rfl rfl ?_
   refine o_lookup (fv := (Value.int .i64)) (q0 := 0) (j := 4) (a := x35.1) rfl rfl rfl z_map76 (keyI Tryd.underlying28) z_zeroV3 rfl ho38 rfl rfl ?_
   refine Z 2 rfl ?_
   refine o_mapUpdate (j := 4) (a := x35.1) (q := (IntKind.i64.wrap (((mget s35 x35.1).getD 0) + x35.2))) rfl rfl rfl z_map76 (keyI Tryd.underlying28) rfl ho38 rfl rfl rfl (fun g39 ho40 => ?_)
   refine st_gs [[(ba0, .cells #[.int .i64 (IntKind.i64.wrap (a0.1 + r8.1)), .int .i64 (IntKind.i64.wrap (a0.2.1 + r8.2.1)), .int .i64 s18.1, .int .i64 s18.2.1, .int .i64 s18.2.2.1, .int .i64 s18.2.2.2.1, .int .i64 s18.2.2.2.2.1, .int .i64 s18.2.2.2.2.2, v36] 78 (0, 0))], [(ba1, .cells #[.int .i64 a1.1, .int .i64 a1.2.1, .int .i64 (a1.2.2.1.getD 0 0), .int .i64 (a1.2.2.1.getD 1 0), .int .i64 (a1.2.2.1.getD 2 0), .int .i64 (a1.2.2.1.getD 3 0), .int .i64 (a1.2.2.1.getD 4 0), .int .i64 (a1.2.2.1.getD 5 0), v4] 78 (0, 0))], [(b7, .cells #[.pointer (some ⟨ba0, 0, none⟩)] 48 (0, 0))], g5, g39] rfl ?_
   refine Z 2 rfl ?_
   exact st_rend (List.Sublist.refl _) (Sto.Le.refl _) ⟨_, h, hl35, _, _, rfl, ho40⟩
  ·rintro p45 τ46 gs35 f35 ht hl47 ⟨hb, v48, g49, rfl, ho50⟩ ⟨v51, g52, rfl, ho53⟩
   subst ht
   replace h := hA35
   refine st_perm (gs' := [[(b12, .cells #[.int .i64 w35.1, .int .i64 w35.2.1, .int .i64 (w35.2.2.1.getD 0 0), .int .i64 (w35.2.2.1.getD 1 0), .int .i64 (w35.2.2.1.getD 2 0), .int .i64 (w35.2.2.1.getD 3 0), .int .i64 (w35.2.2.1.getD 4 0), .int .i64 (w35.2.2.1.getD 5 0), v51] 78 (0, 0))], g52, [(ba0, .cells #[.int .i64 (IntKind.i64.wrap (a0.1 + r8.1)), .int .i64 (IntKind.i64.wrap (a0.2.1 + r8.2.1)), .int .i64 s18.1, .int .i64 s18.2.1, .int .i64 s18.2.2.1, .int .i64 s18.2.2.2.1, .int .i64 s18.2.2.2.2.1, .int .i64 s18.2.2.2.2.2, v48] 78 (0, 0))], [(ba1, .cells #[.int .i64 a1.1, .int .i64 a1.2.1, .int .i64 (a1.2.2.1.getD 0 0), .int .i64 (a1.2.2.1.getD 1 0), .int .i64 (a1.2.2.1.getD 2 0), .int .i64 (a1.2.2.1.getD 3 0), .int .i64 (a1.2.2.1.getD 4 0), .int .i64 (a1.2.2.1.getD 5 0), v4] 78 (0, 0))], [(b7, .cells #[.pointer (some ⟨ba0, 0, none⟩)] 48 (0, 0))], g5, g49]) (by simp) ?_
   refine st_inBlock ?_
   refine st_ord [2, 5, 2, 3] _ rfl ?_
   obtain rfl := Eq.symm h
   exact st_fin (gs' := [[(ba0, .cells #[.int .i64 (IntKind.i64.wrap (a0.1 + r8.1)), .int .i64 (IntKind.i64.wrap (a0.2.1 + r8.2.1)), .int .i64 s18.1, .int .i64 s18.2.1, .int .i64 s18.2.2.1, .int .i64 s18.2.2.2.1, .int .i64 s18.2.2.2.2.1, .int .i64 s18.2.2.2.2.2, v48] 78 (0, 0))], g49, [(ba1, .cells #[.int .i64 a1.1, .int .i64 a1.2.1, .int .i64 (a1.2.2.1.getD 0 0), .int .i64 (a1.2.2.1.getD 1 0), .int .i64 (a1.2.2.1.getD 2 0), .int .i64 (a1.2.2.1.getD 3 0), .int .i64 (a1.2.2.1.getD 4 0), .int .i64 (a1.2.2.1.getD 5 0), v4] 78 (0, 0))], g5]) Tryd.func18 rfl (List.Sublist.refl _) (((((hl11.trans hl16).trans hl17).trans hl18).trans hl22).trans hl47) ⟨_, _, rfl, rfl, ho50⟩
  ·exact fun _ _ _ _ _ _ _ h => h.elim
 refine ZZ 8 [2] rfl rfl ?_
 obtain ⟨e54, hL54, hA54⟩ := h
 refine st_ord [5, 0, 3, 1, 2, 0, 0] _ rfl ?_
 refine st_loop hL54 (fun (s54 : Int × Int × Int × Int × Int × Int × Int) ρ τ54 gs => τ17.Le τ54 ∧ ESub ρ [(1, .pointer (some ⟨b12, 0, none⟩)), (2, .pointer (some ⟨b7, 0, none⟩)), (41, .agg #[.int .i64 (r8.2.2.1.getD 0 0), .int .i64 (r8.2.2.1.getD 1 0), .int .i64 (r8.2.2.1.getD 2 0), .int .i64 (r8.2.2.1.getD 3 0), .int .i64 (r8.2.2.1.getD 4 0), .int .i64 (r8.2.2.1.getD 5 0)]), (42, .int .i64 s54.1)] ∧ gs = [[(ba0, .cells #[.int .i64 (IntKind.i64.wrap (a0.1 + r8.1)), .int .i64 (IntKind.i64.wrap (a0.2.1 + r8.2.1)), .int .i64 s54.2.1, .int .i64 s54.2.2.1, .int .i64 s54.2.2.2.1, .int .i64 s54.2.2.2.2.1, .int .i64 s54.2.2.2.2.2.1, .int .i64 s54.2.2.2.2.2.2, v1] 78 (0, 0))], [(ba1, .cells #[.int .i64 a1.1, .int .i64 a1.2.1, .int .i64 (a1.2.2.1.getD 0 0), .int .i64 (a1.2.2.1.getD 1 0), .int .i64 (a1.2.2.1.getD 2 0), .int .i64 (a1.2.2.1.getD 3 0), .int .i64 (a1.2.2.1.getD 4 0), .int .i64 (a1.2.2.1.getD 5 0), v4] 78 (0, 0))], [(b7, .cells #[.pointer (some ⟨ba0, 0, none⟩)] 48 (0, 0))], [(b12, .cells #[.int .i64 r8.1, .int .i64 r8.2.1, .int .i64 (r8.2.2.1.getD 0 0), .int .i64 (r8.2.2.1.getD 1 0), .int .i64 (r8.2.2.1.getD 2 0), .int .i64 (r8.2.2.1.getD 3 0), .int .i64 (r8.2.2.1.getD 4 0), .int .i64 (r8.2.2.1.getD 5 0), v13] 78 (0, 0))], g2, g5, g14]) ⟨Sto.Le.refl _, rfl, rfl⟩ ?_
 rintro s54 o54 h he54 ρ54 τ54 gs54 ⟨hl54, hρ, rfl⟩ hn54
 refine st_es hρ ?_
 refine Z 5 rfl ?_
 refine st_if rfl h (fun h => ?_) (fun h => ?_)
 ·refine Z 6 rfl ?_
  obtain ⟨hf55, hf56, h⟩ := h
  refine o_indexV (f := (Value.int .i64)) (zz := 0) (l := 6) (xs := r8.2.2.1) (cs := [.int .i64 (r8.2.2.1.getD 0 0), .int .i64 (r8.2.2.1.getD 1 0), .int .i64 (r8.2.2.1.getD 2 0), .int .i64 (r8.2.2.1.getD 3 0), .int .i64 (r8.2.2.1.getD 4 0), .int .i64 (r8.2.2.1.getD 5 0)]) rfl rfl rfl z_arr23 z_sc3 rfl rfl rfl hf55 hf56 ?_
  refine Z 3 rfl ?_
  obtain ⟨hf57, hf58, hf59, hf60, h⟩ := h
  refine st_ord [1, 1, 1, 2, 2, 0, 0] _ rfl ?_
  refine st_d41 [[(ba1, .cells #[.int .i64 a1.1, .int .i64 a1.2.1, .int .i64 (a1.2.2.1.getD 0 0), .int .i64 (a1.2.2.1.getD 1 0), .int .i64 (a1.2.2.1.getD 2 0), .int .i64 (a1.2.2.1.getD 3 0), .int .i64 (a1.2.2.1.getD 4 0), .int .i64 (a1.2.2.1.getD 5 0), v4] 78 (0, 0))], [(b7, .cells #[.pointer (some ⟨ba0, 0, none⟩)] 48 (0, 0))], [(b12, .cells #[.int .i64 r8.1, .int .i64 r8.2.1, .int .i64 (r8.2.2.1.getD 0 0), .int .i64 (r8.2.2.1.getD 1 0), .int .i64 (r8.2.2.1.getD 2 0), .int .i64 (r8.2.2.1.getD 3 0), .int .i64 (r8.2.2.1.getD 4 0), .int .i64 (r8.2.2.1.getD 5 0), v13] 78 (0, 0))], g5, g14] [[(ba0, .cells #[.int .i64 (IntKind.i64.wrap (a0.1 + r8.1)), .int .i64 (IntKind.i64.wrap (a0.2.1 + r8.2.1)), .int .i64 s54.2.1, .int .i64 s54.2.2.1, .int .i64 s54.2.2.2.1, .int .i64 s54.2.2.2.2.1, .int .i64 s54.2.2.2.2.2.1, .int .i64 s54.2.2.2.2.2.2, v1] 78 (0, 0))], g2] 12 2 [none, none, none, none, none, some (0, 0), none, none, none, none, none, some (0, 1)] [none, none, none, none, none, none, none, none, none, none, none, none] [[none, some 51, none]] [.v (.pointer (some ⟨ba0, 0, none⟩)), .v (.int .i64 s54.1), .v (.pointer (some ⟨ba0, 0, none⟩)), .v (.pointer (some ⟨ba0, 2, none⟩)), .v (.pointer (some ⟨ba0, 2 + s54.1.toNat * 1, none⟩)), .v (.int .i64 ([s54.2.1, s54.2.2.1, s54.2.2.2.1, s54.2.2.2.2.1, s54.2.2.2.2.2.1, s54.2.2.2.2.2.2].getD s54.1.toNat 0)), .v (.int .i64 (r8.2.2.1.getD s54.1.toNat 0)), .v (.int .i64 (IntKind.i64.wrap (([s54.2.1, s54.2.2.1, s54.2.2.2.1, s54.2.2.2.2.1, s54.2.2.2.2.2.1, s54.2.2.2.2.2.2].getD s54.1.toNat 0) + (r8.2.2.1.getD s54.1.toNat 0)))), .v (.pointer (some ⟨ba0, 0, none⟩)), .v (.pointer (some ⟨ba0, 2, none⟩)), .v (.pointer (some ⟨ba0, 2 + s54.1.toNat * 1, none⟩)), .t fun _ _ => True] [[fun τ u F => F = [[(ba0, .cells #[.int .i64 (IntKind.i64.wrap (a0.1 + r8.1)), .int .i64 (IntKind.i64.wrap (a0.2.1 + r8.2.1)), .int .i64 s54.2.1, .int .i64 s54.2.2.1, .int .i64 s54.2.2.2.1, .int .i64 s54.2.2.2.2.1, .int .i64 s54.2.2.2.2.2.1, .int .i64 s54.2.2.2.2.2.2, v1] 78 (0, 0))], g2], fun τ u F => F = [[(ba0, .cells #[.int .i64 (IntKind.i64.wrap (a0.1 + r8.1)), .int .i64 (IntKind.i64.wrap (a0.2.1 + r8.2.1)), .int .i64 s54.2.1, .int .i64 s54.2.2.1, .int .i64 s54.2.2.2.1, .int .i64 s54.2.2.2.2.1, .int .i64 s54.2.2.2.2.2.1, .int .i64 s54.2.2.2.2.2.2, v1] 78 (0, 0))], g2], fun τ u F => F = [[(ba0, .cells #[.int .i64 (IntKind.i64.wrap (a0.1 + r8.1)), .int .i64 (IntKind.i64.wrap (a0.2.1 + r8.2.1)), .int .i64 ((putN 6 0 [s54.2.1, s54.2.2.1, s54.2.2.2.1, s54.2.2.2.2.1, s54.2.2.2.2.2.1, s54.2.2.2.2.2.2] s54.1.toNat (IntKind.i64.wrap (([s54.2.1, s54.2.2.1, s54.2.2.2.1, s54.2.2.2.2.1, s54.2.2.2.2.2.1, s54.2.2.2.2.2.2].getD s54.1.toNat 0) + (r8.2.2.1.getD s54.1.toNat 0)))).getD 0 0), .int .i64 ((putN 6 0 [s54.2.1, s54.2.2.1, s54.2.2.2.1, s54.2.2.2.2.1, s54.2.2.2.2.2.1, s54.2.2.2.2.2.2] s54.1.toNat (IntKind.i64.wrap (([s54.2.1, s54.2.2.1, s54.2.2.2.1, s54.2.2.2.2.1, s54.2.2.2.2.2.1, s54.2.2.2.2.2.2].getD s54.1.toNat 0) + (r8.2.2.1.getD s54.1.toNat 0)))).getD 1 0), .int .i64 ((putN 6 0 [s54.2.1, s54.2.2.1, s54.2.2.2.1, s54.2.2.2.2.1, s54.2.2.2.2.2.1, s54.2.2.2.2.2.2] s54.1.toNat (IntKind.i64.wrap (([s54.2.1, s54.2.2.1, s54.2.2.2.1, s54.2.2.2.2.1, s54.2.2.2.2.2.1, s54.2.2.2.2.2.2].getD s54.1.toNat 0) + (r8.2.2.1.getD s54.1.toNat 0)))).getD 2 0), .int .i64 ((putN 6 0 [s54.2.1, s54.2.2.1, s54.2.2.2.1, s54.2.2.2.2.1, s54.2.2.2.2.2.1, s54.2.2.2.2.2.2] s54.1.toNat (IntKind.i64.wrap (([s54.2.1, s54.2.2.1, s54.2.2.2.1, s54.2.2.2.2.1, s54.2.2.2.2.2.1, s54.2.2.2.2.2.2].getD s54.1.toNat 0) + (r8.2.2.1.getD s54.1.toNat 0)))).getD 3 0), .int .i64 ((putN 6 0 [s54.2.1, s54.2.2.1, s54.2.2.2.1, s54.2.2.2.2.1, s54.2.2.2.2.2.1, s54.2.2.2.2.2.2] s54.1.toNat (IntKind.i64.wrap (([s54.2.1, s54.2.2.1, s54.2.2.2.1, s54.2.2.2.2.1, s54.2.2.2.2.2.1, s54.2.2.2.2.2.2].getD s54.1.toNat 0) + (r8.2.2.1.getD s54.1.toNat 0)))).getD 4 0), .int .i64 ((putN 6 0 [s54.2.1, s54.2.2.1, s54.2.2.2.1, s54.2.2.2.2.1, s54.2.2.2.2.2.1, s54.2.2.2.2.2.2] s54.1.toNat (IntKind.i64.wrap (([s54.2.1, s54.2.2.1, s54.2.2.2.1, s54.2.2.2.2.1, s54.2.2.2.2.2.1, s54.2.2.2.2.2.2].getD s54.1.toNat 0) + (r8.2.2.1.getD s54.1.toNat 0)))).getD 5 0), v1] 78 (0, 0))], g2]]] rfl z_mix rfl ⟨fun _ _ _ _ _ => trivial, trivial⟩ ⟨⟨fun _ _ _ _ hl h => h, ⟨fun _ _ _ _ hl h => h, ⟨fun _ _ _ _ hl h => h, trivial⟩⟩⟩, trivial⟩ rfl rfl ?_ (allB_cons (allB_cons (allB_cons (allB_cons (allB_cons (allB_cons (allB_cons (allB_cons (allB_cons (allB_cons (allB_cons (allB_cons allB_nil ?_) (p4 dA)) (p4 dA)) (p4 dA)) ?_) ?_) (p4 dA)) (p4 dA)) (p4 dA)) (p4 dA)) ?_) ?_) ?_
  ·exact rfl
  ·intro ρ' τ pool rs hl hd hout hw hk
   refine o_load (j := 1) (v := .pointer (some ⟨ba0, 0, none⟩)) rfl rfl rfl z_sc48 ((hout 2 rfl).trans rfl) rfl rfl ?_
   exact hk _ _ (Sto.Le.refl _) rfl
  ·intro ρ' τ pool rs hl hd hout hw hk
   obtain ⟨_, e1, rfl⟩ := hd 1 rfl _ rfl
   obtain ⟨_, e3, rfl⟩ := hd 3 rfl _ rfl
   refine o_indexA rfl rfl rfl z_arr23 e3 e1 hf57 hf58 ?_
   exact hk _ _ (Sto.Le.refl _) rfl
  ·intro ρ' τ u Fv pool rs hl hI hu hd hout hw hk
   obtain ⟨_, e4, rfl⟩ := hd 4 rfl _ rfl
   have hI0 := hI
   obtain rfl := hI
   refine st_gs [[(ba1, .cells #[.int .i64 a1.1, .int .i64 a1.2.1, .int .i64 (a1.2.2.1.getD 0 0), .int .i64 (a1.2.2.1.getD 1 0), .int .i64 (a1.2.2.1.getD 2 0), .int .i64 (a1.2.2.1.getD 3 0), .int .i64 (a1.2.2.1.getD 4 0), .int .i64 (a1.2.2.1.getD 5 0), v4] 78 (0, 0))], [(b7, .cells #[.pointer (some ⟨ba0, 0, none⟩)] 48 (0, 0))], [(b12, .cells #[.int .i64 r8.1, .int .i64 r8.2.1, .int .i64 (r8.2.2.1.getD 0 0), .int .i64 (r8.2.2.1.getD 1 0), .int .i64 (r8.2.2.1.getD 2 0), .int .i64 (r8.2.2.1.getD 3 0), .int .i64 (r8.2.2.1.getD 4 0), .int .i64 (r8.2.2.1.getD 5 0), v13] 78 (0, 0))], g5, g14, [(ba0, .cells #[.int .i64 (IntKind.i64.wrap (a0.1 + r8.1)), .int .i64 (IntKind.i64.wrap (a0.2.1 + r8.2.1)), .int .i64 s54.2.1, .int .i64 s54.2.2.1, .int .i64 s54.2.2.2.1, .int .i64 s54.2.2.2.2.1, .int .i64 s54.2.2.2.2.2.1, .int .i64 s54.2.2.2.2.2.2, v1] 78 (0, 0))], g2, pool] rfl ?_
   refine o_loadV (j := 5) (s54.1.toNat) (f := (Value.int .i64)) (zz := 0) (l := 6) (xs := [s54.2.1, s54.2.2.1, s54.2.2.2.1, s54.2.2.2.2.1, s54.2.2.2.2.2.1, s54.2.2.2.2.2.2]) [.int .i64 (IntKind.i64.wrap (a0.1 + r8.1)), .int .i64 (IntKind.i64.wrap (a0.2.1 + r8.2.1))] [v1] rfl rfl rfl z_sc3 e4 rfl (by simp only [List.length_cons, List.length_nil] <;> omega) (by omega) ?_
   exact hk _ _ [[(ba0, .cells #[.int .i64 (IntKind.i64.wrap (a0.1 + r8.1)), .int .i64 (IntKind.i64.wrap (a0.2.1 + r8.2.1)), .int .i64 s54.2.1, .int .i64 s54.2.2.1, .int .i64 s54.2.2.2.1, .int .i64 s54.2.2.2.2.1, .int .i64 s54.2.2.2.2.2.1, .int .i64 s54.2.2.2.2.2.2, v1] 78 (0, 0))], g2] (Sto.Le.refl _) rfl (by exact hI0)
  ·intro ρ' τ pool rs hl hd hout hw hk
   obtain ⟨_, e1, rfl⟩ := hd 1 rfl _ rfl
   obtain ⟨_, e9, rfl⟩ := hd 9 rfl _ rfl
   refine o_indexA rfl rfl rfl z_arr23 e9 e1 hf59 hf60 ?_
   exact hk _ _ (Sto.Le.refl _) rfl
  ·intro ρ' τ u Fv pool rs hl hI hu hd hout hw hk
   obtain ⟨_, e7, rfl⟩ := hd 7 rfl _ rfl
   obtain ⟨_, e10, rfl⟩ := hd 10 rfl _ rfl
   have hI0 := hI
   obtain rfl := hI
   refine st_gs [[(ba1, .cells #[.int .i64 a1.1, .int .i64 a1.2.1, .int .i64 (a1.2.2.1.getD 0 0), .int .i64 (a1.2.2.1.getD 1 0), .int .i64 (a1.2.2.1.getD 2 0), .int .i64 (a1.2.2.1.getD 3 0), .int .i64 (a1.2.2.1.getD 4 0), .int .i64 (a1.2.2.1.getD 5 0), v4] 78 (0, 0))], [(b7, .cells #[.pointer (some ⟨ba0, 0, none⟩)] 48 (0, 0))], [(b12, .cells #[.int .i64 r8.1, .int .i64 r8.2.1, .int .i64 (r8.2.2.1.getD 0 0), .int .i64 (r8.2.2.1.getD 1 0), .int .i64 (r8.2.2.1.getD 2 0), .int .i64 (r8.2.2.1.getD 3 0), .int .i64 (r8.2.2.1.getD 4 0), .int .i64 (r8.2.2.1.getD 5 0), v13] 78 (0, 0))], g5, g14, [(ba0, .cells #[.int .i64 (IntKind.i64.wrap (a0.1 + r8.1)), .int .i64 (IntKind.i64.wrap (a0.2.1 + r8.2.1)), .int .i64 s54.2.1, .int .i64 s54.2.2.1, .int .i64 s54.2.2.2.1, .int .i64 s54.2.2.2.2.1, .int .i64 s54.2.2.2.2.2.1, .int .i64 s54.2.2.2.2.2.2, v1] 78 (0, 0))], g2, pool] rfl ?_
   refine o_storeV (j := 5) (s54.1.toNat) (f := (Value.int .i64)) (zz := 0) (a := (IntKind.i64.wrap (([s54.2.1, s54.2.2.1, s54.2.2.2.1, s54.2.2.2.2.1, s54.2.2.2.2.2.1, s54.2.2.2.2.2.2].getD s54.1.toNat 0) + (r8.2.2.1.getD s54.1.toNat 0)))) (l := 6) (xs := [s54.2.1, s54.2.2.1, s54.2.2.2.1, s54.2.2.2.2.1, s54.2.2.2.2.2.1, s54.2.2.2.2.2.2]) [.int .i64 (IntKind.i64.wrap (a0.1 + r8.1)), .int .i64 (IntKind.i64.wrap (a0.2.1 + r8.2.1))] [v1] rfl rfl rfl z_size3 e10 e7 rfl rfl rfl (by simp only [List.length_cons, List.length_nil] <;> omega) (by omega) ?_
   refine st_gs [[(ba1, .cells #[.int .i64 a1.1, .int .i64 a1.2.1, .int .i64 (a1.2.2.1.getD 0 0), .int .i64 (a1.2.2.1.getD 1 0), .int .i64 (a1.2.2.1.getD 2 0), .int .i64 (a1.2.2.1.getD 3 0), .int .i64 (a1.2.2.1.getD 4 0), .int .i64 (a1.2.2.1.getD 5 0), v4] 78 (0, 0))], [(b7, .cells #[.pointer (some ⟨ba0, 0, none⟩)] 48 (0, 0))], [(b12, .cells #[.int .i64 r8.1, .int .i64 r8.2.1, .int .i64 (r8.2.2.1.getD 0 0), .int .i64 (r8.2.2.1.getD 1 0), .int .i64 (r8.2.2.1.getD 2 0), .int .i64 (r8.2.2.1.getD 3 0), .int .i64 (r8.2.2.1.getD 4 0), .int .i64 (r8.2.2.1.getD 5 0), v13] 78 (0, 0))], g5, g14, [(ba0, .cells #[.int .i64 (IntKind.i64.wrap (a0.1 + r8.1)), .int .i64 (IntKind.i64.wrap (a0.2.1 + r8.2.1)), .int .i64 ((putN 6 0 [s54.2.1, s54.2.2.1, s54.2.2.2.1, s54.2.2.2.2.1, s54.2.2.2.2.2.1, s54.2.2.2.2.2.2] s54.1.toNat (IntKind.i64.wrap (([s54.2.1, s54.2.2.1, s54.2.2.2.1, s54.2.2.2.2.1, s54.2.2.2.2.2.1, s54.2.2.2.2.2.2].getD s54.1.toNat 0) + (r8.2.2.1.getD s54.1.toNat 0)))).getD 0 0), .int .i64 ((putN 6 0 [s54.2.1, s54.2.2.1, s54.2.2.2.1, s54.2.2.2.2.1, s54.2.2.2.2.2.1, s54.2.2.2.2.2.2] s54.1.toNat (IntKind.i64.wrap (([s54.2.1, s54.2.2.1, s54.2.2.2.1, s54.2.2.2.2.1, s54.2.2.2.2.2.1, s54.2.2.2.2.2.2].getD s54.1.toNat 0) + (r8.2.2.1.getD s54.1.toNat 0)))).getD 1 0), .int .i64 ((putN 6 0 [s54.2.1, s54.2.2.1, s54.2.2.2.1, s54.2.2.2.2.1, s54.2.2.2.2.2.1, s54.2.2.2.2.2.2] s54.1.toNat (IntKind.i64.wrap (([s54.2.1, s54.2.2.1, s54.2.2.2.1, s54.2.2.2.2.1, s54.2.2.2.2.2.1, s54.2.2.2.2.2.2].getD s54.1.toNat 0) + (r8.2.2.1.getD s54.1.toNat 0)))).getD 2 0), .int .i64 ((putN 6 0 [s54.2.1, s54.2.2.1, s54.2.2.2.1, s54.2.2.2.2.1, s54.2.2.2.2.2.1, s54.2.2.2.2.2.2] s54.1.toNat (IntKind.i64.wrap (([s54.2.1, s54.2.2.1, s54.2.2.2.1, s54.2.2.2.2.1, s54.2.2.2.2.2.1, s54.2.2.2.2.2.2].getD s54.1.toNat 0) + (r8.2.2.1.getD s54.1.toNat 0)))).getD 3 0), .int .i64 ((putN 6 0 [s54.2.1, s54.2.2.1, s54.2.2.2.1, s54.2.2.2.2.1, s54.2.2.2.2.2.1, s54.2.2.2.2.2.2] s54.1.toNat (IntKind.i64.wrap (([s54.2.1, s54.2.2.1, s54.2.2.2.1, s54.2.2.2.2.1, s54.2.2.2.2.2.1, s54.2.2.2.2.2.2].getD s54.1.toNat 0) + (r8.2.2.1.getD s54.1.toNat 0)))).getD 4 0), .int .i64 ((putN 6 0 [s54.2.1, s54.2.2.1, s54.2.2.2.1, s54.2.2.2.2.1, s54.2.2.2.2.2.1, s54.2.2.2.2.2.2] s54.1.toNat (IntKind.i64.wrap (([s54.2.1, s54.2.2.1, s54.2.2.2.1, s54.2.2.2.2.1, s54.2.2.2.2.2.1, s54.2.2.2.2.2.2].getD s54.1.toNat 0) + (r8.2.2.1.getD s54.1.toNat 0)))).getD 5 0), v1] 78 (0, 0))], g2, pool] rfl ?_
   exact hk _ _ [[(ba0, .cells #[.int .i64 (IntKind.i64.wrap (a0.1 + r8.1)), .int .i64 (IntKind.i64.wrap (a0.2.1 + r8.2.1)), .int .i64 ((putN 6 0 [s54.2.1, s54.2.2.1, s54.2.2.2.1, s54.2.2.2.2.1, s54.2.2.2.2.2.1, s54.2.2.2.2.2.2] s54.1.toNat (IntKind.i64.wrap (([s54.2.1, s54.2.2.1, s54.2.2.2.1, s54.2.2.2.2.1, s54.2.2.2.2.2.1, s54.2.2.2.2.2.2].getD s54.1.toNat 0) + (r8.2.2.1.getD s54.1.toNat 0)))).getD 0 0), .int .i64 ((putN 6 0 [s54.2.1, s54.2.2.1, s54.2.2.2.1, s54.2.2.2.2.1, s54.2.2.2.2.2.1, s54.2.2.2.2.2.2] s54.1.toNat (IntKind.i64.wrap (([s54.2.1, s54.2.2.1, s54.2.2.2.1, s54.2.2.2.2.1, s54.2.2.2.2.2.1, s54.2.2.2.2.2.2].getD s54.1.toNat 0) + (r8.2.2.1.getD s54.1.toNat 0)))).getD 1 0), .int .i64 ((putN 6 0 [s54.2.1, s54.2.2.1, s54.2.2.2.1, s54.2.2.2.2.1, s54.2.2.2.2.2.1, s54.2.2.2.2.2.2] s54.1.toNat (IntKind.i64.wrap (([s54.2.1, s54.2.2.1, s54.2.2.2.1, s54.2.2.2.2.1, s54.2.2.2.2.2.1, s54.2.2.2.2.2.2].getD s54.1.toNat 0) + (r8.2.2.1.getD s54.1.toNat 0)))).getD 2 0), .int .i64 ((putN 6 0 [s54.2.1, s54.2.2.1, s54.2.2.2.1, s54.2.2.2.2.1, s54.2.2.2.2.2.1, s54.2.2.2.2.2.2] s54.1.toNat (IntKind.i64.wrap (([s54.2.1, s54.2.2.1, s54.2.2.2.1, s54.2.2.2.2.1, s54.2.2.2.2.2.1, s54.2.2.2.2.2.2].getD s54.1.toNat 0) + (r8.2.2.1.getD s54.1.toNat 0)))).getD 3 0), .int .i64 ((putN 6 0 [s54.2.1, s54.2.2.1, s54.2.2.2.1, s54.2.2.2.2.1, s54.2.2.2.2.2.1, s54.2.2.2.2.2.2] s54.1.toNat (IntKind.i64.wrap (([s54.2.1, s54.2.2.1, s54.2.2.2.1, s54.2.2.2.2.1, s54.2.2.2.2.2.1, s54.2.2.2.2.2.2].getD s54.1.toNat 0) + (r8.2.2.1.getD s54.1.toNat 0)))).getD 4 0), .int .i64 ((putN 6 0 [s54.2.1, s54.2.2.1, s54.2.2.2.1, s54.2.2.2.2.1, s54.2.2.2.2.2.1, s54.2.2.2.2.2.2] s54.1.toNat (IntKind.i64.wrap (([s54.2.1, s54.2.2.1, s54.2.2.2.1, s54.2.2.2.2.1, s54.2.2.2.2.2.1, s54.2.2.2.2.2.2].getD s54.1.toNat 0) + (r8.2.2.1.getD s54.1.toNat 0)))).getD 5 0), v1] 78 (0, 0))], g2] (Sto.Le.refl _) trivial (by exact rfl)
  intro ρ' τ61 vals u Fv hl61 hI hu hv hout
  obtain rfl := hI
  refine st_gs [[(ba1, .cells #[.int .i64 a1.1, .int .i64 a1.2.1, .int .i64 (a1.2.2.1.getD 0 0), .int .i64 (a1.2.2.1.getD 1 0), .int .i64 (a1.2.2.1.getD 2 0), .int .i64 (a1.2.2.1.getD 3 0), .int .i64 (a1.2.2.1.getD 4 0), .int .i64 (a1.2.2.1.getD 5 0), v4] 78 (0, 0))], [(b7, .cells #[.pointer (some ⟨ba0, 0, none⟩)] 48 (0, 0))], [(b12, .cells #[.int .i64 r8.1, .int .i64 r8.2.1, .int .i64 (r8.2.2.1.getD 0 0), .int .i64 (r8.2.2.1.getD 1 0), .int .i64 (r8.2.2.1.getD 2 0), .int .i64 (r8.2.2.1.getD 3 0), .int .i64 (r8.2.2.1.getD 4 0), .int .i64 (r8.2.2.1.getD 5 0), v13] 78 (0, 0))], g5, g14, [(ba0, .cells #[.int .i64 (IntKind.i64.wrap (a0.1 + r8.1)), .int .i64 (IntKind.i64.wrap (a0.2.1 + r8.2.1)), .int .i64 ((putN 6 0 [s54.2.1, s54.2.2.1, s54.2.2.2.1, s54.2.2.2.2.1, s54.2.2.2.2.2.1, s54.2.2.2.2.2.2] s54.1.toNat (IntKind.i64.wrap (([s54.2.1, s54.2.2.1, s54.2.2.2.1, s54.2.2.2.2.1, s54.2.2.2.2.2.1, s54.2.2.2.2.2.2].getD s54.1.toNat 0) + (r8.2.2.1.getD s54.1.toNat 0)))).getD 0 0), .int .i64 ((putN 6 0 [s54.2.1, s54.2.2.1, s54.2.2.2.1, s54.2.2.2.2.1, s54.2.2.2.2.2.1, s54.2.2.2.2.2.2] s54.1.toNat (IntKind.i64.wrap (([s54.2.1, s54.2.2.1, s54.2.2.2.1, s54.2.2.2.2.1, s54.2.2.2.2.2.1, s54.2.2.2.2.2.2].getD s54.1.toNat 0) + (r8.2.2.1.getD s54.1.toNat 0)))).getD 1 0), .int .i64 ((putN 6 0 [s54.2.1, s54.2.2.1, s54.2.2.2.1, s54.2.2.2.2.1, s54.2.2.2.2.2.1, s54.2.2.2.2.2.2] s54.1.toNat (IntKind.i64.wrap (([s54.2.1, s54.2.2.1, s54.2.2.2.1, s54.2.2.2.2.1, s54.2.2.2.2.2.1, s54.2.2.2.2.2.2].getD s54.1.toNat 0) + (r8.2.2.1.getD s54.1.toNat 0)))).getD 2 0), .int .i64 ((putN 6 0 [s54.2.1, s54.2.2.1, s54.2.2.2.1, s54.2.2.2.2.1, s54.2.2.2.2.2.1, s54.2.2.2.2.2.2] s54.1.toNat (IntKind.i64.wrap (([s54.2.1, s54.2.2.1, s54.2.2.2.1, s54.2.2.2.2.1, s54.2.2.2.2.2.1, s54.2.2.2.2.2.2].getD s54.1.toNat 0) + (r8.2.2.1.getD s54.1.toNat 0)))).getD 3 0), .int .i64 ((putN 6 0 [s54.2.1, s54.2.2.1, s54.2.2.2.1, s54.2.2.2.2.1, s54.2.2.2.2.2.1, s54.2.2.2.2.2.2] s54.1.toNat (IntKind.i64.wrap (([s54.2.1, s54.2.2.1, s54.2.2.2.1, s54.2.2.2.2.1, s54.2.2.2.2.2.1, s54.2.2.2.2.2.2].getD s54.1.toNat 0) + (r8.2.2.1.getD s54.1.toNat 0)))).getD 4 0), .int .i64 ((putN 6 0 [s54.2.1, s54.2.2.1, s54.2.2.2.1, s54.2.2.2.2.1, s54.2.2.2.2.2.1, s54.2.2.2.2.2.2] s54.1.toNat (IntKind.i64.wrap (([s54.2.1, s54.2.2.1, s54.2.2.2.1, s54.2.2.2.2.1, s54.2.2.2.2.2.1, s54.2.2.2.2.2.2].getD s54.1.toNat 0) + (r8.2.2.1.getD s54.1.toNat 0)))).getD 5 0), v1] 78 (0, 0))], g2] rfl ?_
  refine st_env (ρ' := [(1, .pointer (some ⟨b12, 0, none⟩)), (2, .pointer (some ⟨b7, 0, none⟩)), (41, .agg #[.int .i64 (r8.2.2.1.getD 0 0), .int .i64 (r8.2.2.1.getD 1 0), .int .i64 (r8.2.2.1.getD 2 0), .int .i64 (r8.2.2.1.getD 3 0), .int .i64 (r8.2.2.1.getD 4 0), .int .i64 (r8.2.2.1.getD 5 0)]), (42, .int .i64 s54.1)]) ⟨(hout 1 rfl).trans rfl, (hout 2 rfl).trans rfl, (hout 41 rfl).trans rfl, (hout 42 rfl).trans rfl, trivial⟩ ?_
  refine Z 6 rfl ?_
  refine st_ord [5, 0, 0, 0, 2, 0, 0] _ rfl ?_
  exact hn54 _ _ _ _ h ⟨(hl54.trans hl61), rfl, rfl⟩
 ·refine st_exit rfl ?_
  obtain rfl := he54 _ h
  replace h := hA54
  exact hk18 _ _ _ ⟨(s54.2.1, s54.2.2.1, s54.2.2.2.1, s54.2.2.2.2.1, s54.2.2.2.2.2.1, s54.2.2.2.2.2.2), h, hl54, rfl, rfl⟩
theorem tally_Tally_Merge_nil1_ok {a0 : Int × Int × List Int × List (Int × Int)} {ba0 : Nat} {v1 : Value} {g2 : Grp} {r : Unit} (h : tally_Tally_Merge_nil1 a0 r) (σ : Sto) (ho3 : Mp (Value.int .i64) (rF (Value.int .i64)) σ v1 a0.2.2.2 g2) :
    Does Tryd.prog 18 [.pointer (some ⟨ba0, 0, none⟩), .pointer none] σ [[(ba0, .cells [.int .i64 a0.1, .int .i64 a0.2.1, .int .i64 (a0.2.2.1.getD 0 0), .int .i64 (a0.2.2.1.getD 1 0), .int .i64 (a0.2.2.1.getD 2 0), .int .i64 (a0.2.2.1.getD 3 0), .int .i64 (a0.2.2.1.getD 4 0), .int .i64 (a0.2.2.1.getD 5 0), v1].toArray 78 (0, 0))], g2] (fun v τ gs => gs = [[(ba0, .cells [.int .i64 a0.1, .int .i64 a0.2.1, .int .i64 (a0.2.2.1.getD 0 0), .int .i64 (a0.2.2.1.getD 1 0), .int .i64 (a0.2.2.1.getD 2 0), .int .i64 (a0.2.2.1.getD 3 0), .int .i64 (a0.2.2.1.getD 4 0), .int .i64 (a0.2.2.1.getD 5 0), v1].toArray 78 (0, 0))], g2] ∧ .tuple [].toArray = v) := by
 refine call_of Tryd.func18 Tryd.ntmps18 rfl rfl (fun cs fs => ?_)
 refine Z 2 rfl ?_
 refine o_boxC rfl rfl rfl rfl rfl rfl (fun b4 => ?_)
 refine ZZ 12 [0] rfl rfl ?_
 refine st_ord [1, 1] _ rfl ?_
 obtain rfl := Eq.symm h
 exact st_ret (gs' := [[(ba0, .cells #[.int .i64 a0.1, .int .i64 a0.2.1, .int .i64 (a0.2.2.1.getD 0 0), .int .i64 (a0.2.2.1.getD 1 0), .int .i64 (a0.2.2.1.getD 2 0), .int .i64 (a0.2.2.1.getD 3 0), .int .i64 (a0.2.2.1.getD 4 0), .int .i64 (a0.2.2.1.getD 5 0), v1] 78 (0, 0))], g2]) Tryd.func18 rfl (List.Sublist.refl _) (Sto.Le.refl _) ⟨rfl, rfl⟩
theorem maps_Equal_map_api_Errno_int_map_api_Errno_int_api_Errno_int_ok {a0 : List (Int × Int)} {a1 : List (Int × Int)} {va0 : Value} {ga0 : Grp} {va1 : Value} {ga1 : Grp} {r : Bool} (h : maps_Equal_map_api_Errno_int_map_api_Errno_int_api_Errno_int a0 a1 r) (σ : Sto) (ho1 : Mp (Value.int .i64) (rF (Value.int .i64)) σ va0 a0 ga0) (ho2 : Mp (Value.int .i64) (rF (Value.int .i64)) σ va1 a1 ga1) :
    Does Tryd.prog 49 [va0, va1] σ [ga0, ga1] (fun v τ gs => gs = [ga0, ga1] ∧ .bool r = v) := by
 refine call_of Tryd.func49 Tryd.ntmps49 rfl rfl (fun cs fs => ?_)
 refine Z 8 rfl ?_
 refine o_lenM (j := 0) rfl rfl rfl z_map76 rfl ho1 rfl ?_
 refine o_move rfl rfl rfl rfl ?_
 refine o_lenM (j := 1) rfl rfl rfl z_map76 rfl ho2 rfl ?_
 refine Z 2 rfl ?_
 refine st_cond rfl (fun hc => ?_) (fun hc => ?_)
 ·replace h := (if_pos hc).mp h
  refine Z 4 rfl ?_
  obtain rfl := Eq.symm h
  exact st_ret (gs' := [ga0, ga1]) Tryd.func49 rfl (List.Sublist.refl _) (Sto.Le.refl _) ⟨rfl, rfl⟩
 ·replace h := (if_neg (ne_t hc)).mp h
  refine Z 2 rfl ?_
  refine st_cut (fun ρ τ3 gs => ∃ (s3 : Unit), maps_Equal_map_api_Errno_int_map_api_Errno_int_api_Errno_int_j1 s3 r ∧ σ.Le τ3 ∧ ESub ρ [(4, .bool false)] ∧ gs = [ga0, ga1]) ?_ (fun hk3 => ?_)
  ·rintro ρ3 τ3 gs3 ⟨s3, h, hl3, hρ, rfl⟩
   refine st_es hρ ?_
   refine Z 4 rfl ?_
   obtain rfl := Eq.symm h
   exact st_ret (gs' := [ga0, ga1]) Tryd.func49 rfl (List.Sublist.refl _) hl3 ⟨rfl, rfl⟩
  refine Z 3 rfl ?_
  refine o_range (jm := 0) rfl rfl rfl z_map76 rfl ho1 rfl (fun v4 g5 hm6 => ?_)
  refine st_end ?_
  have hL7 := h
  refine st_ord [2, 1, 0] _ rfl ?_
  refine st_loopD hL7 (fun (s7 : (List (Int × Int))) ρ τ7 gs => σ.Le τ7 ∧ ∃ (g8 : Grp), ESub ρ [(1, va1), (4, .bool false), (15, v4)] ∧ gs = [ga1, ga0, g8] ∧ MIt (Value.int .i64) (rF (Value.int .i64)) τ7 v4 va0 s7 g8 ga0) ⟨Sto.Le.refl _, _, rfl, rfl, hm6⟩ ?_
  rintro s7 hD7 ρ7 τ7 gs7 ⟨hl7, g8, hρ, rfl, hm9⟩
  refine st_es hρ ?_
  refine Z 2 rfl ?_
  refine o_next (j := 2) (jm := 1) rfl rfl rfl (fun a b h => by cases h; rfl) rfl hm9 rfl rfl (fun hc => ?_) (fun p10 g11 v12 hp13 hv14 hm15 he16 => ?_)
  ·obtain ⟨o7, h, he7, hn7⟩ := hD7 none hc
   replace h := h.1 rfl
   refine Z 5 rfl ?_
   replace h := he7 _ h
   refine st_ord [1, 0] _ rfl ?_
   exact hk3 _ _ _ ⟨(), h, hl7, rfl, rfl⟩
  ·obtain ⟨o7, h, he7, hn7⟩ := hD7 (some p10) hp13
   replace h := h.2 _ rfl
   obtain rfl : v12 = .int .i64 p10.2 := hv14
   refine st_gs [ga1, ga0, g11] rfl ?_
   refine Z 8 rfl ?_
   refine o_entry (j := 2) (jm := 1) (p := p10) rfl rfl rfl rfl he16 rfl rfl (fun v17 hv18 => ?_)
   obtain rfl : v17 = .int .i64 p10.2 := hv18
   refine Z 9 rfl ?_
   refine o_lookup2 (fv := (Value.int .i64)) (q0 := 0) (j := 0) (a := p10.1) rfl rfl rfl z_map76 (keyI Tryd.underlying28) z_zeroV3 rfl (ho2.up hl7) rfl rfl ?_
   refine Z 7 rfl ?_
   refine st_cut (fun ρ τ19 gs => ∃ (s19 : Bool), maps_Equal_map_api_Errno_int_map_api_Errno_int_api_Errno_int_j3 s7 p10 s19 o7 ∧ τ7.Le τ19 ∧ ESub ρ [(1, va1), (4, .bool false), (15, v4), (33, .bool s19)] ∧ gs = [ga1, g11, ga0]) ?_ (fun hk19 => ?_)
   ·rintro ρ19 τ19 gs19 ⟨s19, h, hl19, hρ, rfl⟩
    refine st_es hρ ?_
    refine st_if rfl h (fun h => ?_) (fun h => ?_)
    ·refine Z 4 rfl ?_
     refine st_ord [2, 0] _ rfl ?_
     replace h := he7 _ h
     obtain rfl := Eq.symm h
     exact st_ret (gs' := [ga0, ga1]) Tryd.func49 rfl (List.Sublist.refl _) (hl7.trans hl19) ⟨rfl, rfl⟩
    ·refine Z 2 rfl ?_
     refine st_ord [0, 1, 0] _ rfl ?_
     exact hn7 _ _ _ _ h ⟨(hl7.trans hl19), _, rfl, rfl, (hm15.up hl19)⟩
   refine Z 3 rfl ?_
   refine o_mif rfl rfl rfl rfl h (fun h => ?_) (fun h => ?_)
   ·refine Z 5 rfl ?_
    refine st_ord [0, 1, 0] _ rfl ?_
    exact hk19 _ _ _ ⟨true, h, (Sto.Le.refl _), rfl, rfl⟩
   ·refine Z 5 rfl ?_
    refine st_ord [0, 1, 0] _ rfl ?_
    exact hk19 _ _ _ ⟨(!(decide (p10.2 = ((mget a1 p10.1).getD 0)))), h, (Sto.Le.refl _), rfl, rfl⟩
theorem tally_Same_ok {a0 : Int × Int × List Int × List (Int × Int)} {a1 : Int × Int × List Int × List (Int × Int)} {ba0 : Nat} {v1 : Value} {g2 : Grp} {ba1 : Nat} {v4 : Value} {g5 : Grp} {r : Bool} (h : tally_Same a0 a1 r) (σ : Sto) (ho3 : Mp (Value.int .i64) (rF (Value.int .i64)) σ v1 a0.2.2.2 g2) (ho6 : Mp (Value.int .i64) (rF (Value.int .i64)) σ v4 a1.2.2.2 g5) :
    Does Tryd.prog 29 [.pointer (some ⟨ba0, 0, none⟩), .pointer (some ⟨ba1, 0, none⟩)] σ [[(ba0, .cells [.int .i64 a0.1, .int .i64 a0.2.1, .int .i64 (a0.2.2.1.getD 0 0), .int .i64 (a0.2.2.1.getD 1 0), .int .i64 (a0.2.2.1.getD 2 0), .int .i64 (a0.2.2.1.getD 3 0), .int .i64 (a0.2.2.1.getD 4 0), .int .i64 (a0.2.2.1.getD 5 0), v1].toArray 78 (0, 0))], g2, [(ba1, .cells [.int .i64 a1.1, .int .i64 a1.2.1, .int .i64 (a1.2.2.1.getD 0 0), .int .i64 (a1.2.2.1.getD 1 0), .int .i64 (a1.2.2.1.getD 2 0), .int .i64 (a1.2.2.1.getD 3 0), .int .i64 (a1.2.2.1.getD 4 0), .int .i64 (a1.2.2.1.getD 5 0), v4].toArray 78 (0, 0))], g5] (fun v τ gs => gs = [[(ba0, .cells [.int .i64 a0.1, .int .i64 a0.2.1, .int .i64 (a0.2.2.1.getD 0 0), .int .i64 (a0.2.2.1.getD 1 0), .int .i64 (a0.2.2.1.getD 2 0), .int .i64 (a0.2.2.1.getD 3 0), .int .i64 (a0.2.2.1.getD 4 0), .int .i64 (a0.2.2.1.getD 5 0), v1].toArray 78 (0, 0))], g2, [(ba1, .cells [.int .i64 a1.1, .int .i64 a1.2.1, .int .i64 (a1.2.2.1.getD 0 0), .int .i64 (a1.2.2.1.getD 1 0), .int .i64 (a1.2.2.1.getD 2 0), .int .i64 (a1.2.2.1.getD 3 0), .int .i64 (a1.2.2.1.getD 4 0), .int .i64 (a1.2.2.1.getD 5 0), v4].toArray 78 (0, 0))], g5] ∧ .bool r = v) := by
 refine call_of Tryd.func29 Tryd.ntmps29 rfl rfl (fun cs fs => ?_)
 refine Z 21 rfl ?_
 obtain ⟨r10, hr11, h⟩ := h
 let cc7 : Prop := (decide (a0.1 = a1.1)) = true
 let cc8 : Prop := ((decide (a0.1 = a1.1)) && (decide (a0.2.1 = a1.2.1))) = true
 let cc9 : Prop := (((decide (a0.1 = a1.1)) && (decide (a0.2.1 = a1.2.1))) && (eqN 6 0 a0.2.2.1 a1.2.2.1)) = true
 refine st_draw 42 (dl [.v (.pointer (some ⟨ba0, 0, none⟩)), .v (.pointer (some ⟨ba0, 0, none⟩)), .v (.pointer (some ⟨ba0, 0, none⟩)), .v (.int .i64 a0.1), .v (.pointer (some ⟨ba1, 0, none⟩)), .v (.pointer (some ⟨ba1, 0, none⟩)), .v (.pointer (some ⟨ba1, 0, none⟩)), .v (.int .i64 a1.1), .v (.bool (decide (a0.1 = a1.1))), .v (.bool (decide (a0.1 = a1.1))), .g cc7 (.pointer (some ⟨ba0, 0, none⟩)), .g cc7 (.pointer (some ⟨ba0, 0, none⟩)), .g cc7 (.pointer (some ⟨ba0, 1, none⟩)), .g cc7 (.int .i64 a0.2.1), .g cc7 (.pointer (some ⟨ba1, 0, none⟩)), .g cc7 (.pointer (some ⟨ba1, 0, none⟩)), .g cc7 (.pointer (some ⟨ba1, 1, none⟩)), .g cc7 (.int .i64 a1.2.1), .g cc7 (.bool (decide (a0.2.1 = a1.2.1))), .v (.bool ((decide (a0.1 = a1.1)) && (decide (a0.2.1 = a1.2.1)))), .v (.bool ((decide (a0.1 = a1.1)) && (decide (a0.2.1 = a1.2.1)))), .g cc8 (.pointer (some ⟨ba0, 0, none⟩)), .g cc8 (.pointer (some ⟨ba0, 0, none⟩)), .g cc8 (.pointer (some ⟨ba0, 2, none⟩)), .g cc8 (.agg #[.int .i64 (a0.2.2.1.getD 0 0), .int .i64 (a0.2.2.1.getD 1 0), .int .i64 (a0.2.2.1.getD 2 0), .int .i64 (a0.2.2.1.getD 3 0), .int .i64 (a0.2.2.1.getD 4 0), .int .i64 (a0.2.2.1.getD 5 0)]), .g cc8 (.pointer (some ⟨ba1, 0, none⟩)), .g cc8 (.pointer (some ⟨ba1, 0, none⟩)), .g cc8 (.pointer (some ⟨ba1, 2, none⟩)), .g cc8 (.agg #[.int .i64 (a1.2.2.1.getD 0 0), .int .i64 (a1.2.2.1.getD 1 0), .int .i64 (a1.2.2.1.getD 2 0), .int .i64 (a1.2.2.1.getD 3 0), .int .i64 (a1.2.2.1.getD 4 0), .int .i64 (a1.2.2.1.getD 5 0)]), .g cc8 (.bool (eqN 6 0 a0.2.2.1 a1.2.2.1)), .v (.bool (((decide (a0.1 = a1.1)) && (decide (a0.2.1 = a1.2.1))) && (eqN 6 0 a0.2.2.1 a1.2.2.1))), .v (.bool (((decide (a0.1 = a1.1)) && (decide (a0.2.1 = a1.2.1))) && (eqN 6 0 a0.2.2.1 a1.2.2.1))), .g cc9 (.pointer (some ⟨ba0, 0, none⟩)), .g cc9 (.pointer (some ⟨ba0, 0, none⟩)), .g cc9 (.pointer (some ⟨ba0, 8, none⟩)), .g cc9 (v1), .g cc9 (.pointer (some ⟨ba1, 0, none⟩)), .g cc9 (.pointer (some ⟨ba1, 0, none⟩)), .g cc9 (.pointer (some ⟨ba1, 8, none⟩)), .g cc9 (v4), .g cc9 (.bool r10), .v (.bool ((((decide (a0.1 = a1.1)) && (decide (a0.2.1 = a1.2.1))) && (eqN 6 0 a0.2.2.1 a1.2.2.1)) && r10))]) (fun _ _ => []) z_mix rfl (dl_mono (by exact trivial)) (allB_cons (allB_cons (allB_cons (allB_cons (allB_cons (allB_cons (allB_cons (allB_cons (allB_cons (allB_cons (allB_cons (allB_cons (allB_cons (allB_cons (allB_cons (allB_cons (allB_cons (allB_cons (allB_cons (allB_cons (allB_cons (allB_cons (allB_cons (allB_cons (allB_cons (allB_cons (allB_cons (allB_cons (allB_cons (allB_cons (allB_cons (allB_cons (allB_cons (allB_cons (allB_cons (allB_cons (allB_cons (allB_cons (allB_cons (allB_cons (allB_cons (allB_cons allB_nil (p1 dA)) (p1 dA)) (p1 dA)) ?_) (p1 dA)) (p1 dA)) (p1 dA)) ?_) (p1 dA)) (p1 dA)) (p1 (dG []))) (p1 (dG [10]))) (p1 (dG [11]))) ?_) (p1 (dG []))) (p1 (dG [14]))) (p1 (dG [15]))) ?_) (p1 (dG [13, 17]))) (p1 dK)) (p1 dA)) (p1 (dG []))) (p1 (dG [21]))) (p1 (dG [22]))) ?_) (p1 (dG []))) (p1 (dG [25]))) (p1 (dG [26]))) ?_) ?_) (p1 dK)) (p1 dA)) (p1 (dG []))) (p1 (dG [32]))) (p1 (dG [33]))) ?_) (p1 (dG []))) (p1 (dG [36]))) (p1 (dG [37]))) ?_) ?_) (p1 dK)) ?_
 ·intro ρ' τ pool rs hl hd hout hk
  obtain ⟨_, e2, rfl⟩ := hd 2 rfl
  refine o_load (j := 0) (v := .int .i64 a0.1) rfl rfl rfl z_sc3 e2 rfl rfl ?_
  exact st_addNil (hk _ _ (Sto.Le.refl _) rfl)
 ·intro ρ' τ pool rs hl hd hout hk
  obtain ⟨_, e6, rfl⟩ := hd 6 rfl
  refine o_load (j := 2) (v := .int .i64 a1.1) rfl rfl rfl z_sc3 e6 rfl rfl ?_
  exact st_addNil (hk _ _ (Sto.Le.refl _) rfl)
 ·intro ρ' τ pool rs hl hd hout hk
  obtain ⟨_, e9, rfl⟩ := hd 9 rfl
  obtain ⟨w12, e12, t12⟩ := hd 12 rfl
  by_cases hG : (decide (a0.1 = a1.1)) = true
  ·have hC := hG
   obtain ⟨rfl⟩ := t12.1 hC
   refine o_load (j := 0) (v := .int .i64 a0.2.1) rfl (wants_of rfl e9 hG) rfl z_sc3 e12 rfl rfl ?_
   exact st_addNil (hk _ _ (Sto.Le.refl _) ⟨fun _ => rfl, fun hn => absurd hC hn⟩)
  ·refine st_pass rfl rfl rfl e9 (beq_off hG) rfl ?_
   exact st_addNil (hk _ _ (Sto.Le.refl _) ⟨fun h => absurd h hG, fun _ => rfl⟩)
 ·intro ρ' τ pool rs hl hd hout hk
  obtain ⟨_, e9, rfl⟩ := hd 9 rfl
  obtain ⟨w16, e16, t16⟩ := hd 16 rfl
  by_cases hG : (decide (a0.1 = a1.1)) = true
  ·have hC := hG
   obtain ⟨rfl⟩ := t16.1 hC
   refine o_load (j := 2) (v := .int .i64 a1.2.1) rfl (wants_of rfl e9 hG) rfl z_sc3 e16 rfl rfl ?_
   exact st_addNil (hk _ _ (Sto.Le.refl _) ⟨fun _ => rfl, fun hn => absurd hC hn⟩)
  ·refine st_pass rfl rfl rfl e9 (beq_off hG) rfl ?_
   exact st_addNil (hk _ _ (Sto.Le.refl _) ⟨fun h => absurd h hG, fun _ => rfl⟩)
 ·intro ρ' τ pool rs hl hd hout hk
  obtain ⟨_, e20, rfl⟩ := hd 20 rfl
  obtain ⟨w23, e23, t23⟩ := hd 23 rfl
  by_cases hG : ((decide (a0.1 = a1.1)) && (decide (a0.2.1 = a1.2.1))) = true
  ·have hC := hG
   obtain ⟨rfl⟩ := t23.1 hC
   refine o_loadN (j := 0) (vs := [.int .i64 (a0.2.2.1.getD 0 0), .int .i64 (a0.2.2.1.getD 1 0), .int .i64 (a0.2.2.1.getD 2 0), .int .i64 (a0.2.2.1.getD 3 0), .int .i64 (a0.2.2.1.getD 4 0), .int .i64 (a0.2.2.1.getD 5 0)]) rfl (wants_of rfl e20 hG) rfl z_agg23 e23 rfl rfl ?_
   exact st_addNil (hk _ _ (Sto.Le.refl _) ⟨fun _ => rfl, fun hn => absurd hC hn⟩)
  ·refine st_pass rfl rfl rfl e20 (beq_off hG) rfl ?_
   exact st_addNil (hk _ _ (Sto.Le.refl _) ⟨fun h => absurd h hG, fun _ => rfl⟩)
 ·intro ρ' τ pool rs hl hd hout hk
  obtain ⟨_, e20, rfl⟩ := hd 20 rfl
  obtain ⟨w27, e27, t27⟩ := hd 27 rfl
  by_cases hG : ((decide (a0.1 = a1.1)) && (decide (a0.2.1 = a1.2.1))) = true
  ·have hC := hG
   obtain ⟨rfl⟩ := t27.1 hC
   refine o_loadN (j := 2) (vs := [.int .i64 (a1.2.2.1.getD 0 0), .int .i64 (a1.2.2.1.getD 1 0), .int .i64 (a1.2.2.1.getD 2 0), .int .i64 (a1.2.2.1.getD 3 0), .int .i64 (a1.2.2.1.getD 4 0), .int .i64 (a1.2.2.1.getD 5 0)]) rfl (wants_of rfl e20 hG) rfl z_agg23 e27 rfl rfl ?_
   exact st_addNil (hk _ _ (Sto.Le.refl _) ⟨fun _ => rfl, fun hn => absurd hC hn⟩)
  ·refine st_pass rfl rfl rfl e20 (beq_off hG) rfl ?_
   exact st_addNil (hk _ _ (Sto.Le.refl _) ⟨fun h => absurd h hG, fun _ => rfl⟩)
 ·intro ρ' τ pool rs hl hd hout hk
  obtain ⟨_, e20, rfl⟩ := hd 20 rfl
  obtain ⟨w24, e24, t24⟩ := hd 24 rfl
  obtain ⟨w28, e28, t28⟩ := hd 28 rfl
  by_cases hG : ((decide (a0.1 = a1.1)) && (decide (a0.2.1 = a1.2.1))) = true
  ·have hC := hG
   obtain ⟨rfl⟩ := t24.1 hC
   obtain ⟨rfl⟩ := t28.1 hC
   refine o_aggEq (b := (eqN 6 0 a0.2.2.1 a1.2.2.1)) (e := (eqN 6 0 a0.2.2.1 a1.2.2.1)) rfl (wants_of rfl e20 hG) rfl z_eqg23 e24 e28 (fun w => by exact eq_arr (xs := a0.2.2.1) (ys := a1.2.2.1) Tryd.underlying23 Tryd.underlying3 z_info3 z_cell3) rfl ?_
   exact st_addNil (hk _ _ (Sto.Le.refl _) ⟨fun _ => rfl, fun hn => absurd hC hn⟩)
  ·refine st_pass rfl rfl rfl e20 (beq_off hG) rfl ?_
   exact st_addNil (hk _ _ (Sto.Le.refl _) ⟨fun h => absurd h hG, fun _ => rfl⟩)
 ·intro ρ' τ pool rs hl hd hout hk
  obtain ⟨_, e31, rfl⟩ := hd 31 rfl
  obtain ⟨w34, e34, t34⟩ := hd 34 rfl
  by_cases hG : (((decide (a0.1 = a1.1)) && (decide (a0.2.1 = a1.2.1))) && (eqN 6 0 a0.2.2.1 a1.2.2.1)) = true
  ·have hC := hG
   obtain ⟨rfl⟩ := t34.1 hC
   refine o_load (j := 0) (v := v1) rfl (wants_of rfl e31 hG) rfl z_sc76 e34 rfl rfl ?_
   exact st_addNil (hk _ _ (Sto.Le.refl _) ⟨fun _ => rfl, fun hn => absurd hC hn⟩)
  ·refine st_pass rfl rfl rfl e31 (beq_off hG) rfl ?_
   exact st_addNil (hk _ _ (Sto.Le.refl _) ⟨fun h => absurd h hG, fun _ => rfl⟩)
 ·intro ρ' τ pool rs hl hd hout hk
  obtain ⟨_, e31, rfl⟩ := hd 31 rfl
  obtain ⟨w38, e38, t38⟩ := hd 38 rfl
  by_cases hG : (((decide (a0.1 = a1.1)) && (decide (a0.2.1 = a1.2.1))) && (eqN 6 0 a0.2.2.1 a1.2.2.1)) = true
  ·have hC := hG
   obtain ⟨rfl⟩ := t38.1 hC
   refine o_load (j := 2) (v := v4) rfl (wants_of rfl e31 hG) rfl z_sc76 e38 rfl rfl ?_
   exact st_addNil (hk _ _ (Sto.Le.refl _) ⟨fun _ => rfl, fun hn => absurd hC hn⟩)
  ·refine st_pass rfl rfl rfl e31 (beq_off hG) rfl ?_
   exact st_addNil (hk _ _ (Sto.Le.refl _) ⟨fun h => absurd h hG, fun _ => rfl⟩)
 ·intro ρ' τ pool rs hl hd hout hk
  obtain ⟨_, e31, rfl⟩ := hd 31 rfl
  obtain ⟨w35, e35, t35⟩ := hd 35 rfl
  obtain ⟨w39, e39, t39⟩ := hd 39 rfl
  by_cases hG : (((decide (a0.1 = a1.1)) && (decide (a0.2.1 = a1.2.1))) && (eqN 6 0 a0.2.2.1 a1.2.2.1)) = true
  ·have hC := hG
   replace hr11 := hr11 hC
   obtain ⟨rfl⟩ := t39.1 hC
   obtain ⟨rfl⟩ := t35.1 hC
   refine st_ord [1, 2, 0, 0, 0] _ rfl ?_
   refine st_call (foot := [g2, g5]) rfl (wants_of rfl e31 hG) rfl rfl (evs_cons e35 (evs_cons e39 rfl)) rfl (callV_fn z_en49 (maps_Equal_map_api_Errno_int_map_api_Errno_int_api_Errno_int_ok hr11 τ (ho3.up hl) (ho6.up hl))) ?_
   rintro vτ12 τ12 gsτ12 hl13 ⟨rfl, rfl⟩
   refine st_ord [2, 0, 1, 0, 0] _ rfl ?_
   exact st_addNil (hk _ _ hl13 ⟨fun _ => rfl, fun hn => absurd hC hn⟩)
  ·refine st_pass rfl rfl rfl e31 (beq_off hG) rfl ?_
   exact st_addNil (hk _ _ (Sto.Le.refl _) ⟨fun h => absurd h hG, fun _ => rfl⟩)
 intro ρ' τ14 vals hl14 hv hout
 refine st_ord [0, 0, 0, 0] _ rfl ?_
 refine st_env (ρ' := [(52, .bool ((((decide (a0.1 = a1.1)) && (decide (a0.2.1 = a1.2.1))) && (eqN 6 0 a0.2.2.1 a1.2.2.1)) && r10)), (4, .bool false)]) ⟨(lv1 hv 41 rfl rfl), (hout 4 rfl).trans rfl, trivial⟩ ?_
 refine Z 2 rfl ?_
 obtain rfl := Eq.symm h
 exact st_ret (gs' := [[(ba0, .cells #[.int .i64 a0.1, .int .i64 a0.2.1, .int .i64 (a0.2.2.1.getD 0 0), .int .i64 (a0.2.2.1.getD 1 0), .int .i64 (a0.2.2.1.getD 2 0), .int .i64 (a0.2.2.1.getD 3 0), .int .i64 (a0.2.2.1.getD 4 0), .int .i64 (a0.2.2.1.getD 5 0), v1] 78 (0, 0))], g2, [(ba1, .cells #[.int .i64 a1.1, .int .i64 a1.2.1, .int .i64 (a1.2.2.1.getD 0 0), .int .i64 (a1.2.2.1.getD 1 0), .int .i64 (a1.2.2.1.getD 2 0), .int .i64 (a1.2.2.1.getD 3 0), .int .i64 (a1.2.2.1.getD 4 0), .int .i64 (a1.2.2.1.getD 5 0), v4] 78 (0, 0))], g5]) Tryd.func29 rfl (List.Sublist.refl _) hl14 ⟨rfl, rfl⟩
theorem tally_Tally_Delivered_ok {a0 : Int × Int × List Int × List (Int × Int)} {ba0 : Nat} {v1 : Value} {g2 : Grp} {r : Int} (h : tally_Tally_Delivered a0 r) (σ : Sto) (ho3 : Mp (Value.int .i64) (rF (Value.int .i64)) σ v1 a0.2.2.2 g2) :
    Does Tryd.prog 22 [.pointer (some ⟨ba0, 0, none⟩)] σ [[(ba0, .cells [.int .i64 a0.1, .int .i64 a0.2.1, .int .i64 (a0.2.2.1.getD 0 0), .int .i64 (a0.2.2.1.getD 1 0), .int .i64 (a0.2.2.1.getD 2 0), .int .i64 (a0.2.2.1.getD 3 0), .int .i64 (a0.2.2.1.getD 4 0), .int .i64 (a0.2.2.1.getD 5 0), v1].toArray 78 (0, 0))], g2] (fun v τ gs => gs = [[(ba0, .cells [.int .i64 a0.1, .int .i64 a0.2.1, .int .i64 (a0.2.2.1.getD 0 0), .int .i64 (a0.2.2.1.getD 1 0), .int .i64 (a0.2.2.1.getD 2 0), .int .i64 (a0.2.2.1.getD 3 0), .int .i64 (a0.2.2.1.getD 4 0), .int .i64 (a0.2.2.1.getD 5 0), v1].toArray 78 (0, 0))], g2] ∧ .int .i64 r = v) := by
 refine call_of Tryd.func22 Tryd.ntmps22 rfl rfl (fun cs fs => ?_)
 refine ZZ 20 [0] rfl rfl ?_
 obtain rfl := Eq.symm h
 exact st_ret (gs' := [[(ba0, .cells #[.int .i64 a0.1, .int .i64 a0.2.1, .int .i64 (a0.2.2.1.getD 0 0), .int .i64 (a0.2.2.1.getD 1 0), .int .i64 (a0.2.2.1.getD 2 0), .int .i64 (a0.2.2.1.getD 3 0), .int .i64 (a0.2.2.1.getD 4 0), .int .i64 (a0.2.2.1.getD 5 0), v1] 78 (0, 0))], g2]) Tryd.func22 rfl (List.Sublist.refl _) (Sto.Le.refl _) ⟨rfl, rfl⟩
theorem tally_Tally_Rejected_ok {a0 : Int × Int × List Int × List (Int × Int)} {ba0 : Nat} {v1 : Value} {g2 : Grp} {r : Int × (Int × Int × List Int × List (Int × Int))} (h : tally_Tally_Rejected a0 r) (σ : Sto) (ho3 : Mp (Value.int .i64) (rF (Value.int .i64)) σ v1 a0.2.2.2 g2) :
    Does Tryd.prog 23 [.pointer (some ⟨ba0, 0, none⟩)] σ [[(ba0, .cells [.int .i64 a0.1, .int .i64 a0.2.1, .int .i64 (a0.2.2.1.getD 0 0), .int .i64 (a0.2.2.1.getD 1 0), .int .i64 (a0.2.2.1.getD 2 0), .int .i64 (a0.2.2.1.getD 3 0), .int .i64 (a0.2.2.1.getD 4 0), .int .i64 (a0.2.2.1.getD 5 0), v1].toArray 78 (0, 0))], g2] (fun v τ gs => ∃ (v32 : Value) (g33 : Grp), gs = [[(ba0, .cells [.int .i64 r.2.1, .int .i64 r.2.2.1, .int .i64 (r.2.2.2.1.getD 0 0), .int .i64 (r.2.2.2.1.getD 1 0), .int .i64 (r.2.2.2.1.getD 2 0), .int .i64 (r.2.2.2.1.getD 3 0), .int .i64 (r.2.2.2.1.getD 4 0), .int .i64 (r.2.2.2.1.getD 5 0), v32].toArray 78 (0, 0))], g33] ∧ .int .i64 r.1 = v ∧ Mp (Value.int .i64) (rF (Value.int .i64)) τ v32 r.2.2.2.2 g33) := by
 refine call_of Tryd.func23 Tryd.ntmps23 rfl rfl (fun cs fs => ?_)
 refine Z 6 rfl ?_
 refine o_alloc rfl rfl rfl z_zero3 (fun b4 => ?_)
 refine ZZ 6 [0] rfl rfl ?_
 obtain ⟨r5, hr6, h⟩ := h
 refine st_ord [1, 1, 0] _ rfl ?_
 refine st_call (foot := [[(ba0, .cells #[.int .i64 a0.1, .int .i64 a0.2.1, .int .i64 (a0.2.2.1.getD 0 0), .int .i64 (a0.2.2.1.getD 1 0), .int .i64 (a0.2.2.1.getD 2 0), .int .i64 (a0.2.2.1.getD 3 0), .int .i64 (a0.2.2.1.getD 4 0), .int .i64 (a0.2.2.1.getD 5 0), v1] 78 (0, 0))], g2]) rfl rfl rfl rfl rfl rfl (callV_fn z_en20 (tally_Tally_Errors_ok hr6 σ ho3)) ?_
 rintro vτ7 τ7 gsτ7 hl8 ⟨f9, q10, rfl, rfl, hit11⟩
 refine Z 2 rfl ?_
 obtain ⟨t21, w21, hR21, hA21⟩ := h
 refine st_env (ρ' := [(2, .int .i64 0), (3, .pointer (some ⟨b4, 0, none⟩)), (7, .func (.func f9) #[] q10)]) ⟨rfl, rfl, rfl, trivial⟩ ?_
 refine st_glue ?_
 refine st_range (B := tally_Tally_Rejected_l1) (s0 := 0) ranges_fctx rfl (hit11 a0 _ _ τ7 (Sto.Le.refl _) (ho3.up hl8)) (Sto.Le.refl _) hR21 rfl (fun _ _ _ h => by cases h; rfl) (fun (s21 : Int) τ21 gs => τ7.Le τ21 ∧ gs = [[(b4, .cells #[.int .i64 s21] 3 (0, 0))]]) (fun _ _ _ _ => False) (fun _ _ _ _ hl ⟨hb, hg⟩ => ⟨hb.trans hl, hg⟩) (fun _ _ _ _ _ _ h => h.elim) ⟨Sto.Le.refl _, rfl⟩ ?_ ?_ ?_
 ·rintro x21 s21 o21 τ21 gs21 vx21 hl21 h rfl ⟨hb21, rfl⟩ l21 rc21 caller21 cs21 fs21
  refine Z 3 rfl ?_
  refine st_begin ?_
  refine ZZ 8 [0, 0] rfl rfl ?_
  exact st_rend (List.Sublist.refl _) (Sto.Le.refl _) ⟨_, h, hl21, rfl⟩
 ·rintro p26 τ27 gs21 f21 ht hl28 ⟨hb, rfl⟩ ⟨v29, g30, rfl, ho31⟩
  subst ht
  replace h := hA21
  refine st_perm (gs' := [[(ba0, .cells #[.int .i64 w21.1, .int .i64 w21.2.1, .int .i64 (w21.2.2.1.getD 0 0), .int .i64 (w21.2.2.1.getD 1 0), .int .i64 (w21.2.2.1.getD 2 0), .int .i64 (w21.2.2.1.getD 3 0), .int .i64 (w21.2.2.1.getD 4 0), .int .i64 (w21.2.2.1.getD 5 0), v29] 78 (0, 0))], g30, [(b4, .cells #[.int .i64 p26] 3 (0, 0))]]) (by simp) ?_
  refine ZZ 6 [2] rfl rfl ?_
  refine st_ord [0, 0] _ rfl ?_
  obtain rfl := Eq.symm h
  exact st_ret (gs' := [[(ba0, .cells #[.int .i64 w21.1, .int .i64 w21.2.1, .int .i64 (w21.2.2.1.getD 0 0), .int .i64 (w21.2.2.1.getD 1 0), .int .i64 (w21.2.2.1.getD 2 0), .int .i64 (w21.2.2.1.getD 3 0), .int .i64 (w21.2.2.1.getD 4 0), .int .i64 (w21.2.2.1.getD 5 0), v29] 78 (0, 0))], g30]) Tryd.func23 rfl (List.Sublist.refl _) (hl8.trans hl28) ⟨_, _, rfl, rfl, ho31⟩
 ·exact fun _ _ _ _ _ _ _ h => h.elim
theorem tally_Tally_Evicted_ok {a0 : Int × Int × List Int × List (Int × Int)} {ba0 : Nat} {v1 : Value} {g2 : Grp} {r : Int} (h : tally_Tally_Evicted a0 r) (σ : Sto) (ho3 : Mp (Value.int .i64) (rF (Value.int .i64)) σ v1 a0.2.2.2 g2) :
    Does Tryd.prog 24 [.pointer (some ⟨ba0, 0, none⟩)] σ [[(ba0, .cells [.int .i64 a0.1, .int .i64 a0.2.1, .int .i64 (a0.2.2.1.getD 0 0), .int .i64 (a0.2.2.1.getD 1 0), .int .i64 (a0.2.2.1.getD 2 0), .int .i64 (a0.2.2.1.getD 3 0), .int .i64 (a0.2.2.1.getD 4 0), .int .i64 (a0.2.2.1.getD 5 0), v1].toArray 78 (0, 0))], g2] (fun v τ gs => gs = [[(ba0, .cells [.int .i64 a0.1, .int .i64 a0.2.1, .int .i64 (a0.2.2.1.getD 0 0), .int .i64 (a0.2.2.1.getD 1 0), .int .i64 (a0.2.2.1.getD 2 0), .int .i64 (a0.2.2.1.getD 3 0), .int .i64 (a0.2.2.1.getD 4 0), .int .i64 (a0.2.2.1.getD 5 0), v1].toArray 78 (0, 0))], g2] ∧ .int .i64 r = v) := by
 refine call_of Tryd.func24 Tryd.ntmps24 rfl rfl (fun cs fs => ?_)
 refine ZZ 20 [0] rfl rfl ?_
 obtain rfl := Eq.symm h
 exact st_ret (gs' := [[(ba0, .cells #[.int .i64 a0.1, .int .i64 a0.2.1, .int .i64 (a0.2.2.1.getD 0 0), .int .i64 (a0.2.2.1.getD 1 0), .int .i64 (a0.2.2.1.getD 2 0), .int .i64 (a0.2.2.1.getD 3 0), .int .i64 (a0.2.2.1.getD 4 0), .int .i64 (a0.2.2.1.getD 5 0), v1] 78 (0, 0))], g2]) Tryd.func24 rfl (List.Sublist.refl _) (Sto.Le.refl _) ⟨rfl, rfl⟩
theorem tally_Tally_Merge_eq0_1_ok {a0 : Int × Int × List Int × List (Int × Int)} {ba0 : Nat} {v1 : Value} {g2 : Grp} {r : (Int × Int × List Int × List (Int × Int))} (h : tally_Tally_Merge_eq0_1 a0 r) (σ : Sto) (ho3 : Mp (Value.int .i64) (rF (Value.int .i64)) σ v1 a0.2.2.2 g2) :
    Does Tryd.prog 18 [.pointer (some ⟨ba0, 0, none⟩), .pointer (some ⟨ba0, 0, none⟩)] σ [[(ba0, .cells [.int .i64 a0.1, .int .i64 a0.2.1, .int .i64 (a0.2.2.1.getD 0 0), .int .i64 (a0.2.2.1.getD 1 0), .int .i64 (a0.2.2.1.getD 2 0), .int .i64 (a0.2.2.1.getD 3 0), .int .i64 (a0.2.2.1.getD 4 0), .int .i64 (a0.2.2.1.getD 5 0), v1].toArray 78 (0, 0))], g2] (fun v τ gs => ∃ (v60 : Value) (g61 : Grp), gs = [[(ba0, .cells [.int .i64 r.1, .int .i64 r.2.1, .int .i64 (r.2.2.1.getD 0 0), .int .i64 (r.2.2.1.getD 1 0), .int .i64 (r.2.2.1.getD 2 0), .int .i64 (r.2.2.1.getD 3 0), .int .i64 (r.2.2.1.getD 4 0), .int .i64 (r.2.2.1.getD 5 0), v60].toArray 78 (0, 0))], g61] ∧ .tuple [].toArray = v ∧ Mp (Value.int .i64) (rF (Value.int .i64)) τ v60 r.2.2.2 g61) := by
 refine call_of Tryd.func18 Tryd.ntmps18 rfl rfl (fun cs fs => ?_)
 refine Z 2 rfl ?_
 refine o_boxC rfl rfl rfl rfl rfl rfl (fun b4 => ?_)
 refine ZZ 16 [0] rfl rfl ?_
 obtain ⟨r5, hr6, h⟩ := h
 refine st_ord [1, 1, 0] _ rfl ?_
 refine st_call (foot := [[(ba0, .cells #[.int .i64 a0.1, .int .i64 a0.2.1, .int .i64 (a0.2.2.1.getD 0 0), .int .i64 (a0.2.2.1.getD 1 0), .int .i64 (a0.2.2.1.getD 2 0), .int .i64 (a0.2.2.1.getD 3 0), .int .i64 (a0.2.2.1.getD 4 0), .int .i64 (a0.2.2.1.getD 5 0), v1] 78 (0, 0))], g2]) rfl rfl rfl rfl rfl rfl (callV_fn z_en28 (tally_Tally_Copy_ok hr6 σ ho3)) ?_
 rintro vτ7 τ7 gsτ7 hl8 ⟨b9, v10, g11, rfl, rfl, ho12⟩
 refine Z 3 rfl ?_
 refine st_ord [2, 2, 2, 0, 0] _ rfl ?_
 refine st_d41 [[(b9, .cells #[.int .i64 r5.1, .int .i64 r5.2.1, .int .i64 (r5.2.2.1.getD 0 0), .int .i64 (r5.2.2.1.getD 1 0), .int .i64 (r5.2.2.1.getD 2 0), .int .i64 (r5.2.2.1.getD 3 0), .int .i64 (r5.2.2.1.getD 4 0), .int .i64 (r5.2.2.1.getD 5 0), v10] 78 (0, 0))], g11, [(b4, .cells #[.pointer (some ⟨ba0, 0, none⟩)] 48 (0, 0))]] [[(ba0, .cells #[.int .i64 a0.1, .int .i64 a0.2.1, .int .i64 (a0.2.2.1.getD 0 0), .int .i64 (a0.2.2.1.getD 1 0), .int .i64 (a0.2.2.1.getD 2 0), .int .i64 (a0.2.2.1.getD 3 0), .int .i64 (a0.2.2.1.getD 4 0), .int .i64 (a0.2.2.1.getD 5 0), v1] 78 (0, 0))], g2] 12 2 [none, none, none, some (0, 0), none, none, none, none, none, none, none, some (0, 1)] [none, none, none, none, none, none, none, none, none, none, none, none] [[none, some 19, none]] [.v (.pointer (some ⟨ba0, 0, none⟩)), .v (.pointer (some ⟨ba0, 0, none⟩)), .v (.pointer (some ⟨ba0, 0, none⟩)), .v (.int .i64 a0.1), .v (.pointer (some ⟨b9, 0, none⟩)), .v (.pointer (some ⟨b9, 0, none⟩)), .v (.pointer (some ⟨b9, 0, none⟩)), .v (.int .i64 r5.1), .v (.int .i64 (IntKind.i64.wrap (a0.1 + r5.1))), .v (.pointer (some ⟨ba0, 0, none⟩)), .v (.pointer (some ⟨ba0, 0, none⟩)), .t fun _ _ => True] [[fun τ u F => F = [[(ba0, .cells #[.int .i64 a0.1, .int .i64 a0.2.1, .int .i64 (a0.2.2.1.getD 0 0), .int .i64 (a0.2.2.1.getD 1 0), .int .i64 (a0.2.2.1.getD 2 0), .int .i64 (a0.2.2.1.getD 3 0), .int .i64 (a0.2.2.1.getD 4 0), .int .i64 (a0.2.2.1.getD 5 0), v1] 78 (0, 0))], g2], fun τ u F => F = [[(ba0, .cells #[.int .i64 a0.1, .int .i64 a0.2.1, .int .i64 (a0.2.2.1.getD 0 0), .int .i64 (a0.2.2.1.getD 1 0), .int .i64 (a0.2.2.1.getD 2 0), .int .i64 (a0.2.2.1.getD 3 0), .int .i64 (a0.2.2.1.getD 4 0), .int .i64 (a0.2.2.1.getD 5 0), v1] 78 (0, 0))], g2], fun τ u F => F = [[(ba0, .cells #[.int .i64 (IntKind.i64.wrap (a0.1 + r5.1)), .int .i64 a0.2.1, .int .i64 (a0.2.2.1.getD 0 0), .int .i64 (a0.2.2.1.getD 1 0), .int .i64 (a0.2.2.1.getD 2 0), .int .i64 (a0.2.2.1.getD 3 0), .int .i64 (a0.2.2.1.getD 4 0), .int .i64 (a0.2.2.1.getD 5 0), v1] 78 (0, 0))], g2]]] rfl z_mix rfl ⟨fun _ _ _ _ _ => trivial, trivial⟩ ⟨⟨fun _ _ _ _ hl h => h, ⟨fun _ _ _ _ hl h => h, ⟨fun _ _ _ _ hl h => h, trivial⟩⟩⟩, trivial⟩ rfl rfl ?_ (allB_cons (allB_cons (allB_cons (allB_cons (allB_cons (allB_cons (allB_cons (allB_cons (allB_cons (allB_cons (allB_cons (allB_cons allB_nil ?_) (p4 dA)) (p4 dA)) ?_) (p4 dA)) (p4 dA)) (p4 dA)) ?_) (p4 dA)) (p4 dA)) (p4 dA)) ?_) ?_
 ·exact rfl
 ·intro ρ' τ pool rs hl hd hout hw hk
  refine o_load (j := 2) (v := .pointer (some ⟨ba0, 0, none⟩)) rfl rfl rfl z_sc48 ((hout 2 rfl).trans rfl) rfl rfl ?_
  exact hk _ _ (Sto.Le.refl _) rfl
 ·intro ρ' τ u Fv pool rs hl hI hu hd hout hw hk
  obtain ⟨_, e2, rfl⟩ := hd 2 rfl _ rfl
  have hI0 := hI
  obtain rfl := hI
  refine st_gs [[(b9, .cells #[.int .i64 r5.1, .int .i64 r5.2.1, .int .i64 (r5.2.2.1.getD 0 0), .int .i64 (r5.2.2.1.getD 1 0), .int .i64 (r5.2.2.1.getD 2 0), .int .i64 (r5.2.2.1.getD 3 0), .int .i64 (r5.2.2.1.getD 4 0), .int .i64 (r5.2.2.1.getD 5 0), v10] 78 (0, 0))], g11, [(b4, .cells #[.pointer (some ⟨ba0, 0, none⟩)] 48 (0, 0))], [(ba0, .cells #[.int .i64 a0.1, .int .i64 a0.2.1, .int .i64 (a0.2.2.1.getD 0 0), .int .i64 (a0.2.2.1.getD 1 0), .int .i64 (a0.2.2.1.getD 2 0), .int .i64 (a0.2.2.1.getD 3 0), .int .i64 (a0.2.2.1.getD 4 0), .int .i64 (a0.2.2.1.getD 5 0), v1] 78 (0, 0))], g2, pool] rfl ?_
  refine o_load (j := 3) (v := .int .i64 a0.1) rfl rfl rfl z_sc3 e2 rfl rfl ?_
  exact hk _ _ [[(ba0, .cells #[.int .i64 a0.1, .int .i64 a0.2.1, .int .i64 (a0.2.2.1.getD 0 0), .int .i64 (a0.2.2.1.getD 1 0), .int .i64 (a0.2.2.1.getD 2 0), .int .i64 (a0.2.2.1.getD 3 0), .int .i64 (a0.2.2.1.getD 4 0), .int .i64 (a0.2.2.1.getD 5 0), v1] 78 (0, 0))], g2] (Sto.Le.refl _) rfl (by exact hI0)
 ·intro ρ' τ pool rs hl hd hout hw hk
  obtain ⟨_, e6, rfl⟩ := hd 6 rfl _ rfl
  refine o_load (j := 0) (v := .int .i64 r5.1) rfl rfl rfl z_sc3 e6 rfl rfl ?_
  exact hk _ _ (Sto.Le.refl _) rfl
 ·intro ρ' τ u Fv pool rs hl hI hu hd hout hw hk
  obtain ⟨_, e8, rfl⟩ := hd 8 rfl _ rfl
  obtain ⟨_, e10, rfl⟩ := hd 10 rfl _ rfl
  have hI0 := hI
  obtain rfl := hI
  refine st_gs [[(b9, .cells #[.int .i64 r5.1, .int .i64 r5.2.1, .int .i64 (r5.2.2.1.getD 0 0), .int .i64 (r5.2.2.1.getD 1 0), .int .i64 (r5.2.2.1.getD 2 0), .int .i64 (r5.2.2.1.getD 3 0), .int .i64 (r5.2.2.1.getD 4 0), .int .i64 (r5.2.2.1.getD 5 0), v10] 78 (0, 0))], g11, [(b4, .cells #[.pointer (some ⟨ba0, 0, none⟩)] 48 (0, 0))], [(ba0, .cells #[.int .i64 a0.1, .int .i64 a0.2.1, .int .i64 (a0.2.2.1.getD 0 0), .int .i64 (a0.2.2.1.getD 1 0), .int .i64 (a0.2.2.1.getD 2 0), .int .i64 (a0.2.2.1.getD 3 0), .int .i64 (a0.2.2.1.getD 4 0), .int .i64 (a0.2.2.1.getD 5 0), v1] 78 (0, 0))], g2, pool] rfl ?_
  refine o_store (j := 3) (vs := [.int .i64 (IntKind.i64.wrap (a0.1 + r5.1))]) (cs' := [.int .i64 (IntKind.i64.wrap (a0.1 + r5.1)), .int .i64 a0.2.1, .int .i64 (a0.2.2.1.getD 0 0), .int .i64 (a0.2.2.1.getD 1 0), .int .i64 (a0.2.2.1.getD 2 0), .int .i64 (a0.2.2.1.getD 3 0), .int .i64 (a0.2.2.1.getD 4 0), .int .i64 (a0.2.2.1.getD 5 0), v1]) rfl rfl rfl z_size3 e10 e8 rfl (ones_cons rfl ones_nil) rfl rfl rfl ?_
  refine st_gs [[(b9, .cells #[.int .i64 r5.1, .int .i64 r5.2.1, .int .i64 (r5.2.2.1.getD 0 0), .int .i64 (r5.2.2.1.getD 1 0), .int .i64 (r5.2.2.1.getD 2 0), .int .i64 (r5.2.2.1.getD 3 0), .int .i64 (r5.2.2.1.getD 4 0), .int .i64 (r5.2.2.1.getD 5 0), v10] 78 (0, 0))], g11, [(b4, .cells #[.pointer (some ⟨ba0, 0, none⟩)] 48 (0, 0))], [(ba0, .cells #[.int .i64 (IntKind.i64.wrap (a0.1 + r5.1)), .int .i64 a0.2.1, .int .i64 (a0.2.2.1.getD 0 0), .int .i64 (a0.2.2.1.getD 1 0), .int .i64 (a0.2.2.1.getD 2 0), .int .i64 (a0.2.2.1.getD 3 0), .int .i64 (a0.2.2.1.getD 4 0), .int .i64 (a0.2.2.1.getD 5 0), v1] 78 (0, 0))], g2, pool] rfl ?_
  exact hk _ _ [[(ba0, .cells #[.int .i64 (IntKind.i64.wrap (a0.1 + r5.1)), .int .i64 a0.2.1, .int .i64 (a0.2.2.1.getD 0 0), .int .i64 (a0.2.2.1.getD 1 0), .int .i64 (a0.2.2.1.getD 2 0), .int .i64 (a0.2.2.1.getD 3 0), .int .i64 (a0.2.2.1.getD 4 0), .int .i64 (a0.2.2.1.getD 5 0), v1] 78 (0, 0))], g2] (Sto.Le.refl _) trivial (by exact rfl)
 intro ρ' τ13 vals u Fv hl13 hI hu hv hout
 obtain rfl := hI
 refine st_gs [[(b9, .cells #[.int .i64 r5.1, .int .i64 r5.2.1, .int .i64 (r5.2.2.1.getD 0 0), .int .i64 (r5.2.2.1.getD 1 0), .int .i64 (r5.2.2.1.getD 2 0), .int .i64 (r5.2.2.1.getD 3 0), .int .i64 (r5.2.2.1.getD 4 0), .int .i64 (r5.2.2.1.getD 5 0), v10] 78 (0, 0))], g11, [(b4, .cells #[.pointer (some ⟨ba0, 0, none⟩)] 48 (0, 0))], [(ba0, .cells #[.int .i64 (IntKind.i64.wrap (a0.1 + r5.1)), .int .i64 a0.2.1, .int .i64 (a0.2.2.1.getD 0 0), .int .i64 (a0.2.2.1.getD 1 0), .int .i64 (a0.2.2.1.getD 2 0), .int .i64 (a0.2.2.1.getD 3 0), .int .i64 (a0.2.2.1.getD 4 0), .int .i64 (a0.2.2.1.getD 5 0), v1] 78 (0, 0))], g2] rfl ?_
 refine st_env (ρ' := [(1, .pointer (some ⟨b9, 0, none⟩)), (2, .pointer (some ⟨b4, 0, none⟩))]) ⟨(hout 1 rfl).trans rfl, (hout 2 rfl).trans rfl, trivial⟩ ?_
 refine Z 2 rfl ?_
 refine st_d41 [[(b9, .cells #[.int .i64 r5.1, .int .i64 r5.2.1, .int .i64 (r5.2.2.1.getD 0 0), .int .i64 (r5.2.2.1.getD 1 0), .int .i64 (r5.2.2.1.getD 2 0), .int .i64 (r5.2.2.1.getD 3 0), .int .i64 (r5.2.2.1.getD 4 0), .int .i64 (r5.2.2.1.getD 5 0), v10] 78 (0, 0))], g11, [(b4, .cells #[.pointer (some ⟨ba0, 0, none⟩)] 48 (0, 0))]] [[(ba0, .cells #[.int .i64 (IntKind.i64.wrap (a0.1 + r5.1)), .int .i64 a0.2.1, .int .i64 (a0.2.2.1.getD 0 0), .int .i64 (a0.2.2.1.getD 1 0), .int .i64 (a0.2.2.1.getD 2 0), .int .i64 (a0.2.2.1.getD 3 0), .int .i64 (a0.2.2.1.getD 4 0), .int .i64 (a0.2.2.1.getD 5 0), v1] 78 (0, 0))], g2] 12 2 [none, none, none, some (0, 0), none, none, none, none, none, none, none, some (0, 1)] [none, none, none, none, none, none, none, none, none, none, none, none] [[none, some 30, none]] [.v (.pointer (some ⟨ba0, 0, none⟩)), .v (.pointer (some ⟨ba0, 0, none⟩)), .v (.pointer (some ⟨ba0, 1, none⟩)), .v (.int .i64 a0.2.1), .v (.pointer (some ⟨b9, 0, none⟩)), .v (.pointer (some ⟨b9, 0, none⟩)), .v (.pointer (some ⟨b9, 1, none⟩)), .v (.int .i64 r5.2.1), .v (.int .i64 (IntKind.i64.wrap (a0.2.1 + r5.2.1))), .v (.pointer (some ⟨ba0, 0, none⟩)), .v (.pointer (some ⟨ba0, 1, none⟩)), .t fun _ _ => True] [[fun τ u F => F = [[(ba0, .cells #[.int .i64 (IntKind.i64.wrap (a0.1 + r5.1)), .int .i64 a0.2.1, .int .i64 (a0.2.2.1.getD 0 0), .int .i64 (a0.2.2.1.getD 1 0), .int .i64 (a0.2.2.1.getD 2 0), .int .i64 (a0.2.2.1.getD 3 0), .int .i64 (a0.2.2.1.getD 4 0), .int .i64 (a0.2.2.1.getD 5 0), v1] 78 (0, 0))], g2], fun τ u F => F = [[(ba0, .cells #[.int .i64 (IntKind.i64.wrap (a0.1 + r5.1)), .int .i64 a0.2.1, .int .i64 (a0.2.2.1.getD 0 0), .int .i64 (a0.2.2.1.getD 1 0), .int .i64 (a0.2.2.1.getD 2 0), .int .i64 (a0.2.2.1.getD 3 0), .int .i64 (a0.2.2.1.getD 4 0), .int .i64 (a0.2.2.1.getD 5 0), v1] 78 (0, 0))], g2], fun τ u F => F = [[(ba0, .cells #[.int .i64 (IntKind.i64.wrap (a0.1 + r5.1)), .int .i64 (IntKind.i64.wrap (a0.2.1 + r5.2.1)), .int .i64 (a0.2.2.1.getD 0 0), .int .i64 (a0.2.2.1.getD 1 0), .int .i64 (a0.2.2.1.getD 2 0), .int .i64 (a0.2.2.1.getD 3 0), .int .i64 (a0.2.2.1.getD 4 0), .int .i64 (a0.2.2.1.getD 5 0), v1] 78 (0, 0))], g2]]] rfl z_mix rfl ⟨fun _ _ _ _ _ => trivial, trivial⟩ ⟨⟨fun _ _ _ _ hl h => h, ⟨fun _ _ _ _ hl h => h, ⟨fun _ _ _ _ hl h => h, trivial⟩⟩⟩, trivial⟩ rfl rfl ?_ (allB_cons (allB_cons (allB_cons (allB_cons (allB_cons (allB_cons (allB_cons (allB_cons (allB_cons (allB_cons (allB_cons (allB_cons allB_nil ?_) (p4 dA)) (p4 dA)) ?_) (p4 dA)) (p4 dA)) (p4 dA)) ?_) (p4 dA)) (p4 dA)) (p4 dA)) ?_) ?_
 ·exact rfl
 ·intro ρ' τ pool rs hl hd hout hw hk
  refine o_load (j := 2) (v := .pointer (some ⟨ba0, 0, none⟩)) rfl rfl rfl z_sc48 ((hout 2 rfl).trans rfl) rfl rfl ?_
  exact hk _ _ (Sto.Le.refl _) rfl
 ·intro ρ' τ u Fv pool rs hl hI hu hd hout hw hk
  obtain ⟨_, e2, rfl⟩ := hd 2 rfl _ rfl
  have hI0 := hI
  obtain rfl := hI
  refine st_gs [[(b9, .cells #[.int .i64 r5.1, .int .i64 r5.2.1, .int .i64 (r5.2.2.1.getD 0 0), .int .i64 (r5.2.2.1.getD 1 0), .int .i64 (r5.2.2.1.getD 2 0), .int .i64 (r5.2.2.1.getD 3 0), .int .i64 (r5.2.2.1.getD 4 0), .int .i64 (r5.2.2.1.getD 5 0), v10] 78 (0, 0))], g11, [(b4, .cells #[.pointer (some ⟨ba0, 0, none⟩)] 48 (0, 0))], [(ba0, .cells #[.int .i64 (IntKind.i64.wrap (a0.1 + r5.1)), .int .i64 a0.2.1, .int .i64 (a0.2.2.1.getD 0 0), .int .i64 (a0.2.2.1.getD 1 0), .int .i64 (a0.2.2.1.getD 2 0), .int .i64 (a0.2.2.1.getD 3 0), .int .i64 (a0.2.2.1.getD 4 0), .int .i64 (a0.2.2.1.getD 5 0), v1] 78 (0, 0))], g2, pool] rfl ?_
  refine o_load (j := 3) (v := .int .i64 a0.2.1) rfl rfl rfl z_sc3 e2 rfl rfl ?_
  exact hk _ _ [[(ba0, .cells #[.int .i64 (IntKind.i64.wrap (a0.1 + r5.1)), .int .i64 a0.2.1, .int .i64 (a0.2.2.1.getD 0 0), .int .i64 (a0.2.2.1.getD 1 0), .int .i64 (a0.2.2.1.getD 2 0), .int .i64 (a0.2.2.1.getD 3 0), .int .i64 (a0.2.2.1.getD 4 0), .int .i64 (a0.2.2.1.getD 5 0), v1] 78 (0, 0))], g2] (Sto.Le.refl _) rfl (by exact hI0)
 ·intro ρ' τ pool rs hl hd hout hw hk
  obtain ⟨_, e6, rfl⟩ := hd 6 rfl _ rfl
  refine o_load (j := 0) (v := .int .i64 r5.2.1) rfl rfl rfl z_sc3 e6 rfl rfl ?_
  exact hk _ _ (Sto.Le.refl _) rfl
 ·intro ρ' τ u Fv pool rs hl hI hu hd hout hw hk
  obtain ⟨_, e8, rfl⟩ := hd 8 rfl _ rfl
  obtain ⟨_, e10, rfl⟩ := hd 10 rfl _ rfl
  have hI0 := hI
  obtain rfl := hI
  refine st_gs [[(b9, .cells #[.int .i64 r5.1, .int .i64 r5.2.1, .int .i64 (r5.2.2.1.getD 0 0), .int .i64 (r5.2.2.1.getD 1 0), .int .i64 (r5.2.2.1.getD 2 0), .int .i64 (r5.2.2.1.getD 3 0), .int .i64 (r5.2.2.1.getD 4 0), .int .i64 (r5.2.2.1.getD 5 0), v10] 78 (0, 0))], g11, [(b4, .cells #[.pointer (some ⟨ba0, 0, none⟩)] 48 (0, 0))], [(ba0, .cells #[.int .i64 (IntKind.i64.wrap (a0.1 + r5.1)), .int .i64 a0.2.1, .int .i64 (a0.2.2.1.getD 0 0), .int .i64 (a0.2.2.1.getD 1 0), .int .i64 (a0.2.2.1.getD 2 0), .int .i64 (a0.2.2.1.getD 3 0), .int .i64 (a0.2.2.1.getD 4 0), .int .i64 (a0.2.2.1.getD 5 0), v1] 78 (0, 0))], g2, pool] rfl ?_
  refine o_store (j := 3) (vs := [.int .i64 (IntKind.i64.wrap (a0.2.1 + r5.2.1))]) (cs' := [.int .i64 (IntKind.i64.wrap (a0.1 + r5.1)), .int .i64 (IntKind.i64.wrap (a0.2.1 + r5.2.1)), .int .i64 (a0.2.2.1.getD 0 0), .int .i64 (a0.2.2.1.getD 1 0), .int .i64 (a0.2.2.1.getD 2 0), .int .i64 (a0.2.2.1.getD 3 0), .int .i64 (a0.2.2.1.getD 4 0), .int .i64 (a0.2.2.1.getD 5 0), v1]) rfl rfl rfl z_size3 e10 e8 rfl (ones_cons rfl ones_nil) rfl rfl rfl ?_
  refine st_gs [[(b9, .cells #[.int .i64 r5.1, .int .i64 r5.2.1, .int .i64 (r5.2.2.1.getD 0 0), .int .i64 (r5.2.2.1.getD 1 0), .int .i64 (r5.2.2.1.getD 2 0), .int .i64 (r5.2.2.1.getD 3 0), .int .i64 (r5.2.2.1.getD 4 0), .int .i64 (r5.2.2.1.getD 5 0), v10] 78 (0, 0))], g11, [(b4, .cells #[.pointer (some ⟨ba0, 0, none⟩)] 48 (0, 0))], [(ba0, .cells #[.int .i64 (IntKind.i64.wrap (a0.1 + r5.1)), .int .i64 (IntKind.i64.wrap (a0.2.1 + r5.2.1)), .int .i64 (a0.2.2.1.getD 0 0), .int .i64 (a0.2.2.1.getD 1 0), .int .i64 (a0.2.2.1.getD 2 0), .int .i64 (a0.2.2.1.getD 3 0), .int .i64 (a0.2.2.1.getD 4 0), .int .i64 (a0.2.2.1.getD 5 0), v1] 78 (0, 0))], g2, pool] rfl ?_
  exact hk _ _ [[(ba0, .cells #[.int .i64 (IntKind.i64.wrap (a0.1 + r5.1)), .int .i64 (IntKind.i64.wrap (a0.2.1 + r5.2.1)), .int .i64 (a0.2.2.1.getD 0 0), .int .i64 (a0.2.2.1.getD 1 0), .int .i64 (a0.2.2.1.getD 2 0), .int .i64 (a0.2.2.1.getD 3 0), .int .i64 (a0.2.2.1.getD 4 0), .int .i64 (a0.2.2.1.getD 5 0), v1] 78 (0, 0))], g2] (Sto.Le.refl _) trivial (by exact rfl)
 intro ρ' τ14 vals u Fv hl14 hI hu hv hout
 obtain rfl := hI
 refine st_gs [[(b9, .cells #[.int .i64 r5.1, .int .i64 r5.2.1, .int .i64 (r5.2.2.1.getD 0 0), .int .i64 (r5.2.2.1.getD 1 0), .int .i64 (r5.2.2.1.getD 2 0), .int .i64 (r5.2.2.1.getD 3 0), .int .i64 (r5.2.2.1.getD 4 0), .int .i64 (r5.2.2.1.getD 5 0), v10] 78 (0, 0))], g11, [(b4, .cells #[.pointer (some ⟨ba0, 0, none⟩)] 48 (0, 0))], [(ba0, .cells #[.int .i64 (IntKind.i64.wrap (a0.1 + r5.1)), .int .i64 (IntKind.i64.wrap (a0.2.1 + r5.2.1)), .int .i64 (a0.2.2.1.getD 0 0), .int .i64 (a0.2.2.1.getD 1 0), .int .i64 (a0.2.2.1.getD 2 0), .int .i64 (a0.2.2.1.getD 3 0), .int .i64 (a0.2.2.1.getD 4 0), .int .i64 (a0.2.2.1.getD 5 0), v1] 78 (0, 0))], g2] rfl ?_
 refine st_env (ρ' := [(1, .pointer (some ⟨b9, 0, none⟩)), (2, .pointer (some ⟨b4, 0, none⟩))]) ⟨(hout 1 rfl).trans rfl, (hout 2 rfl).trans rfl, trivial⟩ ?_
 refine Z 2 rfl ?_
 refine st_cut (fun ρ τ15 gs => ∃ (s15 : Int × Int × Int × Int × Int × Int), tally_Tally_Merge_eq0_1_j1 a0 r5 s15 r ∧ τ14.Le τ15 ∧ ESub ρ [(1, .pointer (some ⟨b9, 0, none⟩)), (2, .pointer (some ⟨b4, 0, none⟩))] ∧ gs = [[(ba0, .cells #[.int .i64 (IntKind.i64.wrap (a0.1 + r5.1)), .int .i64 (IntKind.i64.wrap (a0.2.1 + r5.2.1)), .int .i64 s15.1, .int .i64 s15.2.1, .int .i64 s15.2.2.1, .int .i64 s15.2.2.2.1, .int .i64 s15.2.2.2.2.1, .int .i64 s15.2.2.2.2.2, v1] 78 (0, 0))], [(b4, .cells #[.pointer (some ⟨ba0, 0, none⟩)] 48 (0, 0))], [(b9, .cells #[.int .i64 r5.1, .int .i64 r5.2.1, .int .i64 (r5.2.2.1.getD 0 0), .int .i64 (r5.2.2.1.getD 1 0), .int .i64 (r5.2.2.1.getD 2 0), .int .i64 (r5.2.2.1.getD 3 0), .int .i64 (r5.2.2.1.getD 4 0), .int .i64 (r5.2.2.1.getD 5 0), v10] 78 (0, 0))], g2, g11]) ?_ (fun hk15 => ?_)
 ·rintro ρ15 τ15 gs15 ⟨s15, h, hl15, hρ, rfl⟩
  refine st_es hρ ?_
  refine Z 3 rfl ?_
  obtain ⟨r16, hr17, h⟩ := h
  refine st_ord [2, 3, 0, 0, 0] _ rfl ?_
  refine st_call (foot := [[(b9, .cells #[.int .i64 r5.1, .int .i64 r5.2.1, .int .i64 (r5.2.2.1.getD 0 0), .int .i64 (r5.2.2.1.getD 1 0), .int .i64 (r5.2.2.1.getD 2 0), .int .i64 (r5.2.2.1.getD 3 0), .int .i64 (r5.2.2.1.getD 4 0), .int .i64 (r5.2.2.1.getD 5 0), v10] 78 (0, 0))], g11]) rfl rfl rfl rfl rfl rfl (callV_fn z_en20 (tally_Tally_Errors_ok hr17 τ15 (ho12.up ((hl13.trans hl14).trans hl15)))) ?_
  rintro vτ18 τ18 gsτ18 hl19 ⟨f20, q21, rfl, rfl, hit22⟩
  refine Z 2 rfl ?_
  obtain ⟨t32, w32, hR32, hA32⟩ := h
  refine st_env (ρ' := [(2, .pointer (some ⟨b4, 0, none⟩)), (59, .func (.func f20) #[] q21)]) ⟨rfl, rfl, trivial⟩ ?_
  refine st_glue ?_
  refine st_range (B := tally_Tally_Merge_eq0_1_l2) (s0 := a0.2.2.2) ranges_fctx rfl (hit22 r5 _ _ τ18 (Sto.Le.refl _) (ho12.up (((hl13.trans hl14).trans hl15).trans hl19))) (Sto.Le.refl _) hR32 rfl (fun _ _ _ h => by cases h; rfl) (fun (s32 : (List (Int × Int))) τ32 gs => τ18.Le τ32 ∧ ∃ (v33 : Value) (g34 : Grp), gs = [[(ba0, .cells #[.int .i64 (IntKind.i64.wrap (a0.1 + r5.1)), .int .i64 (IntKind.i64.wrap (a0.2.1 + r5.2.1)), .int .i64 s15.1, .int .i64 s15.2.1, .int .i64 s15.2.2.1, .int .i64 s15.2.2.2.1, .int .i64 s15.2.2.2.2.1, .int .i64 s15.2.2.2.2.2, v33] 78 (0, 0))], [(b4, .cells #[.pointer (some ⟨ba0, 0, none⟩)] 48 (0, 0))], g34] ∧ Mp (Value.int .i64) (rF (Value.int .i64)) τ32 v33 s32 g34) (fun _ _ _ _ => False) (fun _ _ _ _ hl ⟨hb, v33, g34, hg, ho35⟩ => ⟨hb.trans hl, v33, g34, hg, ho35.up hl⟩) (fun _ _ _ _ _ _ h => h.elim) ⟨Sto.Le.refl _, _, _, rfl, (ho3.up ((((hl8.trans hl13).trans hl14).trans hl15).trans hl19))⟩ ?_ ?_ ?_
  ·rintro x32 s32 o32 τ32 gs32 vx32 hl32 h rfl ⟨hb32, v33, g34, rfl, ho35⟩ l32 rc32 caller32 cs32 fs32
   refine Z 7 rfl ?_
   refine st_begin ?_
   refine ZZ 7 [1, 0] rfl rfl ?_
   refine o_lookup (fv := (Value.int .i64)) (q0 := 0) (j := 2) (a := x32.1) rfl rfl rfl z_map76 (keyI Tryd.underlying28) z_zeroV3 rfl ho35 rfl rfl ?_
   refine Z 2 rfl ?_
   refine o_mapUpdate (j := 2) (a := x32.1) (q := (IntKind.i64.wrap (((mget s32 x32.1).getD 0) + x32.2))) rfl rfl rfl z_map76 (keyI Tryd.underlying28) rfl ho35 rfl rfl rfl (fun g36 ho37 => ?_)
   refine st_gs [[(ba0, .cells #[.int .i64 (IntKind.i64.wrap (a0.1 + r5.1)), .int .i64 (IntKind.i64.wrap (a0.2.1 + r5.2.1)), .int .i64 s15.1, .int .i64 s15.2.1, .int .i64 s15.2.2.1, .int .i64 s15.2.2.2.1, .int .i64 s15.2.2.2.2.1, .int .i64 s15.2.2.2.2.2, v33] 78 (0, 0))], [(b4, .cells #[.pointer (some ⟨ba0, 0, none⟩)] 48 (0, 0))], g36] rfl ?_
   refine Z 2 rfl ?_
   exact st_rend (List.Sublist.refl _) (Sto.Le.refl _) ⟨_, h, hl32, _, _, rfl, ho37⟩
  ·rintro p42 τ43 gs32 f32 ht hl44 ⟨hb, v45, g46, rfl, ho47⟩ ⟨v48, g49, rfl, ho50⟩
   subst ht
   replace h := hA32
   refine st_perm (gs' := [[(b9, .cells #[.int .i64 w32.1, .int .i64 w32.2.1, .int .i64 (w32.2.2.1.getD 0 0), .int .i64 (w32.2.2.1.getD 1 0), .int .i64 (w32.2.2.1.getD 2 0), .int .i64 (w32.2.2.1.getD 3 0), .int .i64 (w32.2.2.1.getD 4 0), .int .i64 (w32.2.2.1.getD 5 0), v48] 78 (0, 0))], g49, [(ba0, .cells #[.int .i64 (IntKind.i64.wrap (a0.1 + r5.1)), .int .i64 (IntKind.i64.wrap (a0.2.1 + r5.2.1)), .int .i64 s15.1, .int .i64 s15.2.1, .int .i64 s15.2.2.1, .int .i64 s15.2.2.2.1, .int .i64 s15.2.2.2.2.1, .int .i64 s15.2.2.2.2.2, v45] 78 (0, 0))], [(b4, .cells #[.pointer (some ⟨ba0, 0, none⟩)] 48 (0, 0))], g46]) (by simp) ?_
   refine st_inBlock ?_
   refine st_ord [2, 3] _ rfl ?_
   obtain rfl := Eq.symm h
   exact st_fin (gs' := [[(ba0, .cells #[.int .i64 (IntKind.i64.wrap (a0.1 + r5.1)), .int .i64 (IntKind.i64.wrap (a0.2.1 + r5.2.1)), .int .i64 s15.1, .int .i64 s15.2.1, .int .i64 s15.2.2.1, .int .i64 s15.2.2.2.1, .int .i64 s15.2.2.2.2.1, .int .i64 s15.2.2.2.2.2, v45] 78 (0, 0))], g46]) Tryd.func18 rfl (List.Sublist.refl _) (((((hl8.trans hl13).trans hl14).trans hl15).trans hl19).trans hl44) ⟨_, _, rfl, rfl, ho47⟩
  ·exact fun _ _ _ _ _ _ _ h => h.elim
 refine ZZ 8 [0] rfl rfl ?_
 obtain ⟨e51, hL51, hA51⟩ := h
 refine st_ord [3, 2, 0, 1, 0] _ rfl ?_
 refine st_loop hL51 (fun (s51 : Int × Int × Int × Int × Int × Int × Int) ρ τ51 gs => τ14.Le τ51 ∧ ESub ρ [(1, .pointer (some ⟨b9, 0, none⟩)), (2, .pointer (some ⟨b4, 0, none⟩)), (41, .agg #[.int .i64 (r5.2.2.1.getD 0 0), .int .i64 (r5.2.2.1.getD 1 0), .int .i64 (r5.2.2.1.getD 2 0), .int .i64 (r5.2.2.1.getD 3 0), .int .i64 (r5.2.2.1.getD 4 0), .int .i64 (r5.2.2.1.getD 5 0)]), (42, .int .i64 s51.1)] ∧ gs = [[(ba0, .cells #[.int .i64 (IntKind.i64.wrap (a0.1 + r5.1)), .int .i64 (IntKind.i64.wrap (a0.2.1 + r5.2.1)), .int .i64 s51.2.1, .int .i64 s51.2.2.1, .int .i64 s51.2.2.2.1, .int .i64 s51.2.2.2.2.1, .int .i64 s51.2.2.2.2.2.1, .int .i64 s51.2.2.2.2.2.2, v1] 78 (0, 0))], [(b4, .cells #[.pointer (some ⟨ba0, 0, none⟩)] 48 (0, 0))], [(b9, .cells #[.int .i64 r5.1, .int .i64 r5.2.1, .int .i64 (r5.2.2.1.getD 0 0), .int .i64 (r5.2.2.1.getD 1 0), .int .i64 (r5.2.2.1.getD 2 0), .int .i64 (r5.2.2.1.getD 3 0), .int .i64 (r5.2.2.1.getD 4 0), .int .i64 (r5.2.2.1.getD 5 0), v10] 78 (0, 0))], g2, g11]) ⟨Sto.Le.refl _, rfl, rfl⟩ ?_
 rintro s51 o51 h he51 ρ51 τ51 gs51 ⟨hl51, hρ, rfl⟩ hn51
 refine st_es hρ ?_
 refine Z 5 rfl ?_
 refine st_if rfl h (fun h => ?_) (fun h => ?_)
 ·refine Z 6 rfl ?_
  obtain ⟨hf52, hf53, h⟩ := h
  refine o_indexV (f := (Value.int .i64)) (zz := 0) (l := 6) (xs := r5.2.2.1) (cs := [.int .i64 (r5.2.2.1.getD 0 0), .int .i64 (r5.2.2.1.getD 1 0), .int .i64 (r5.2.2.1.getD 2 0), .int .i64 (r5.2.2.1.getD 3 0), .int .i64 (r5.2.2.1.getD 4 0), .int .i64 (r5.2.2.1.getD 5 0)]) rfl rfl rfl z_arr23 z_sc3 rfl rfl rfl hf52 hf53 ?_
  refine Z 3 rfl ?_
  obtain ⟨hf54, hf55, hf56, hf57, h⟩ := h
  refine st_ord [1, 1, 2, 0, 0] _ rfl ?_
  refine st_d41 [[(b4, .cells #[.pointer (some ⟨ba0, 0, none⟩)] 48 (0, 0))], [(b9, .cells #[.int .i64 r5.1, .int .i64 r5.2.1, .int .i64 (r5.2.2.1.getD 0 0), .int .i64 (r5.2.2.1.getD 1 0), .int .i64 (r5.2.2.1.getD 2 0), .int .i64 (r5.2.2.1.getD 3 0), .int .i64 (r5.2.2.1.getD 4 0), .int .i64 (r5.2.2.1.getD 5 0), v10] 78 (0, 0))], g11] [[(ba0, .cells #[.int .i64 (IntKind.i64.wrap (a0.1 + r5.1)), .int .i64 (IntKind.i64.wrap (a0.2.1 + r5.2.1)), .int .i64 s51.2.1, .int .i64 s51.2.2.1, .int .i64 s51.2.2.2.1, .int .i64 s51.2.2.2.2.1, .int .i64 s51.2.2.2.2.2.1, .int .i64 s51.2.2.2.2.2.2, v1] 78 (0, 0))], g2] 12 2 [none, none, none, none, none, some (0, 0), none, none, none, none, none, some (0, 1)] [none, none, none, none, none, none, none, none, none, none, none, none] [[none, some 51, none]] [.v (.pointer (some ⟨ba0, 0, none⟩)), .v (.int .i64 s51.1), .v (.pointer (some ⟨ba0, 0, none⟩)), .v (.pointer (some ⟨ba0, 2, none⟩)), .v (.pointer (some ⟨ba0, 2 + s51.1.toNat * 1, none⟩)), .v (.int .i64 ([s51.2.1, s51.2.2.1, s51.2.2.2.1, s51.2.2.2.2.1, s51.2.2.2.2.2.1, s51.2.2.2.2.2.2].getD s51.1.toNat 0)), .v (.int .i64 (r5.2.2.1.getD s51.1.toNat 0)), .v (.int .i64 (IntKind.i64.wrap (([s51.2.1, s51.2.2.1, s51.2.2.2.1, s51.2.2.2.2.1, s51.2.2.2.2.2.1, s51.2.2.2.2.2.2].getD s51.1.toNat 0) + (r5.2.2.1.getD s51.1.toNat 0)))), .v (.pointer (some ⟨ba0, 0, none⟩)), .v (.pointer (some ⟨ba0, 2, none⟩)), .v (.pointer (some ⟨ba0, 2 + s51.1.toNat * 1, none⟩)), .t fun _ _ => True] [[fun τ u F => F = [[(ba0, .cells #[.int .i64 (IntKind.i64.wrap (a0.1 + r5.1)), .int .i64 (IntKind.i64.wrap (a0.2.1 + r5.2.1)), .int .i64 s51.2.1, .int .i64 s51.2.2.1, .int .i64 s51.2.2.2.1, .int .i64 s51.2.2.2.2.1, .int .i64 s51.2.2.2.2.2.1, .int .i64 s51.2.2.2.2.2.2, v1] 78 (0, 0))], g2], fun τ u F => F = [[(ba0, .cells #[.int .i64 (IntKind.i64.wrap (a0.1 + r5.1)), .int .i64 (IntKind.i64.wrap (a0.2.1 + r5.2.1)), .int .i64 s51.2.1, .int .i64 s51.2.2.1, .int .i64 s51.2.2.2.1, .int .i64 s51.2.2.2.2.1, .int .i64 s51.2.2.2.2.2.1, .int .i64 s51.2.2.2.2.2.2, v1] 78 (0, 0))], g2], fun τ u F => F = [[(ba0, .cells #[.int .i64 (IntKind.i64.wrap (a0.1 + r5.1)), .int .i64 (IntKind.i64.wrap (a0.2.1 + r5.2.1)), .int .i64 ((putN 6 0 [s51.2.1, s51.2.2.1, s51.2.2.2.1, s51.2.2.2.2.1, s51.2.2.2.2.2.1, s51.2.2.2.2.2.2] s51.1.toNat (IntKind.i64.wrap (([s51.2.1, s51.2.2.1, s51.2.2.2.1, s51.2.2.2.2.1, s51.2.2.2.2.2.1, s51.2.2.2.2.2.2].getD s51.1.toNat 0) + (r5.2.2.1.getD s51.1.toNat 0)))).getD 0 0), .int .i64 ((putN 6 0 [s51.2.1, s51.2.2.1, s51.2.2.2.1, s51.2.2.2.2.1, s51.2.2.2.2.2.1, s51.2.2.2.2.2.2] s51.1.toNat (IntKind.i64.wrap (([s51.2.1, s51.2.2.1, s51.2.2.2.1, s51.2.2.2.2.1, s51.2.2.2.2.2.1, s51.2.2.2.2.2.2].getD s51.1.toNat 0) + (r5.2.2.1.getD s51.1.toNat 0)))).getD 1 0), .int .i64 ((putN 6 0 [s51.2.1, s51.2.2.1, s51.2.2.2.1, s51.2.2.2.2.1, s51.2.2.2.2.2.1, s51.2.2.2.2.2.2] s51.1.toNat (IntKind.i64.wrap (([s51.2.1, s51.2.2.1, s51.2.2.2.1, s51.2.2.2.2.1, s51.2.2.2.2.2.1, s51.2.2.2.2.2.2].getD s51.1.toNat 0) + (r5.2.2.1.getD s51.1.toNat 0)))).getD 2 0), .int .i64 ((putN 6 0 [s51.2.1, s51.2.2.1, s51.2.2.2.1, s51.2.2.2.2.1, s51.2.2.2.2.2.1, s51.2.2.2.2.2.2] s51.1.toNat (IntKind.i64.wrap (([s51.2.1, s51.2.2.1, s51.2.2.2.1, s51.2.2.2.2.1, s51.2.2.2.2.2.1, s51.2.2.2.2.2.2].getD s51.1.toNat 0) + (r5.2.2.1.getD s51.1.toNat 0)))).getD 3 0), .int .i64 ((putN 6 0 [s51.2.1, s51.2.2.1, s51.2.2.2.1, s51.2.2.2.2.1, s51.2.2.2.2.2.1, s51.2.2.2.2.2.2] s51.1.toNat (IntKind.i64.wrap (([s51.2.1, s51.2.2.1, s51.2.2.2.1, s51.2.2.2.2.1, s51.2.2.2.2.2.1, s51.2.2.2.2.2.2].getD s51.1.toNat 0) + (r5.2.2.1.getD s51.1.toNat 0)))).getD 4 0), .int .i64 ((putN 6 0 [s51.2.1, s51.2.2.1, s51.2.2.2.1, s51.2.2.2.2.1, s51.2.2.2.2.2.1, s51.2.2.2.2.2.2] s51.1.toNat (IntKind.i64.wrap (([s51.2.1, s51.2.2.1, s51.2.2.2.1, s51.2.2.2.2.1, s51.2.2.2.2.2.1, s51.2.2.2.2.2.2].getD s51.1.toNat 0) + (r5.2.2.1.getD s51.1.toNat 0)))).getD 5 0), v1] 78 (0, 0))], g2]]] rfl z_mix rfl ⟨fun _ _ _ _ _ => trivial, trivial⟩ ⟨⟨fun _ _ _ _ hl h => h, ⟨fun _ _ _ _ hl h => h, ⟨fun _ _ _ _ hl h => h, trivial⟩⟩⟩, trivial⟩ rfl rfl ?_ (allB_cons (allB_cons (allB_cons (allB_cons (allB_cons (allB_cons (allB_cons (allB_cons (allB_cons (allB_cons (allB_cons (allB_cons allB_nil ?_) (p4 dA)) (p4 dA)) (p4 dA)) ?_) ?_) (p4 dA)) (p4 dA)) (p4 dA)) (p4 dA)) ?_) ?_) ?_
  ·exact rfl
  ·intro ρ' τ pool rs hl hd hout hw hk
   refine o_load (j := 0) (v := .pointer (some ⟨ba0, 0, none⟩)) rfl rfl rfl z_sc48 ((hout 2 rfl).trans rfl) rfl rfl ?_
   exact hk _ _ (Sto.Le.refl _) rfl
  ·intro ρ' τ pool rs hl hd hout hw hk
   obtain ⟨_, e1, rfl⟩ := hd 1 rfl _ rfl
   obtain ⟨_, e3, rfl⟩ := hd 3 rfl _ rfl
   refine o_indexA rfl rfl rfl z_arr23 e3 e1 hf54 hf55 ?_
   exact hk _ _ (Sto.Le.refl _) rfl
  ·intro ρ' τ u Fv pool rs hl hI hu hd hout hw hk
   obtain ⟨_, e4, rfl⟩ := hd 4 rfl _ rfl
   have hI0 := hI
   obtain rfl := hI
   refine st_gs [[(b4, .cells #[.pointer (some ⟨ba0, 0, none⟩)] 48 (0, 0))], [(b9, .cells #[.int .i64 r5.1, .int .i64 r5.2.1, .int .i64 (r5.2.2.1.getD 0 0), .int .i64 (r5.2.2.1.getD 1 0), .int .i64 (r5.2.2.1.getD 2 0), .int .i64 (r5.2.2.1.getD 3 0), .int .i64 (r5.2.2.1.getD 4 0), .int .i64 (r5.2.2.1.getD 5 0), v10] 78 (0, 0))], g11, [(ba0, .cells #[.int .i64 (IntKind.i64.wrap (a0.1 + r5.1)), .int .i64 (IntKind.i64.wrap (a0.2.1 + r5.2.1)), .int .i64 s51.2.1, .int .i64 s51.2.2.1, .int .i64 s51.2.2.2.1, .int .i64 s51.2.2.2.2.1, .int .i64 s51.2.2.2.2.2.1, .int .i64 s51.2.2.2.2.2.2, v1] 78 (0, 0))], g2, pool] rfl ?_
   refine o_loadV (j := 3) (s51.1.toNat) (f := (Value.int .i64)) (zz := 0) (l := 6) (xs := [s51.2.1, s51.2.2.1, s51.2.2.2.1, s51.2.2.2.2.1, s51.2.2.2.2.2.1, s51.2.2.2.2.2.2]) [.int .i64 (IntKind.i64.wrap (a0.1 + r5.1)), .int .i64 (IntKind.i64.wrap (a0.2.1 + r5.2.1))] [v1] rfl rfl rfl z_sc3 e4 rfl (by simp only [List.length_cons, List.length_nil] <;> omega) (by omega) ?_
   exact hk _ _ [[(ba0, .cells #[.int .i64 (IntKind.i64.wrap (a0.1 + r5.1)), .int .i64 (IntKind.i64.wrap (a0.2.1 + r5.2.1)), .int .i64 s51.2.1, .int .i64 s51.2.2.1, .int .i64 s51.2.2.2.1, .int .i64 s51.2.2.2.2.1, .int .i64 s51.2.2.2.2.2.1, .int .i64 s51.2.2.2.2.2.2, v1] 78 (0, 0))], g2] (Sto.Le.refl _) rfl (by exact hI0)
  ·intro ρ' τ pool rs hl hd hout hw hk
   obtain ⟨_, e1, rfl⟩ := hd 1 rfl _ rfl
   obtain ⟨_, e9, rfl⟩ := hd 9 rfl _ rfl
   refine o_indexA rfl rfl rfl z_arr23 e9 e1 hf56 hf57 ?_
   exact hk _ _ (Sto.Le.refl _) rfl
  ·intro ρ' τ u Fv pool rs hl hI hu hd hout hw hk
   obtain ⟨_, e7, rfl⟩ := hd 7 rfl _ rfl
   obtain ⟨_, e10, rfl⟩ := hd 10 rfl _ rfl
   have hI0 := hI
   obtain rfl := hI
   refine st_gs [[(b4, .cells #[.pointer (some ⟨ba0, 0, none⟩)] 48 (0, 0))], [(b9, .cells #[.int .i64 r5.1, .int .i64 r5.2.1, .int .i64 (r5.2.2.1.getD 0 0), .int .i64 (r5.2.2.1.getD 1 0), .int .i64 (r5.2.2.1.getD 2 0), .int .i64 (r5.2.2.1.getD 3 0), .int .i64 (r5.2.2.1.getD 4 0), .int .i64 (r5.2.2.1.getD 5 0), v10] 78 (0, 0))], g11, [(ba0, .cells #[.int .i64 (IntKind.i64.wrap (a0.1 + r5.1)), .int .i64 (IntKind.i64.wrap (a0.2.1 + r5.2.1)), .int .i64 s51.2.1, .int .i64 s51.2.2.1, .int .i64 s51.2.2.2.1, .int .i64 s51.2.2.2.2.1, .int .i64 s51.2.2.2.2.2.1, .int .i64 s51.2.2.2.2.2.2, v1] 78 (0, 0))], g2, pool] rfl ?_
   refine o_storeV (j := 3) (s51.1.toNat) (f := (Value.int .i64)) (zz := 0) (a := (IntKind.i64.wrap (([s51.2.1, s51.2.2.1, s51.2.2.2.1, s51.2.2.2.2.1, s51.2.2.2.2.2.1, s51.2.2.2.2.2.2].getD s51.1.toNat 0) + (r5.2.2.1.getD s51.1.toNat 0)))) (l := 6) (xs := [s51.2.1, s51.2.2.1, s51.2.2.2.1, s51.2.2.2.2.1, s51.2.2.2.2.2.1, s51.2.2.2.2.2.2]) [.int .i64 (IntKind.i64.wrap (a0.1 + r5.1)), .int .i64 (IntKind.i64.wrap (a0.2.1 + r5.2.1))] [v1] rfl rfl rfl z_size3 e10 e7 rfl rfl rfl (by simp only [List.length_cons, List.length_nil] <;> omega) (by omega) ?_
   refine st_gs [[(b4, .cells #[.pointer (some ⟨ba0, 0, none⟩)] 48 (0, 0))], [(b9, .cells #[.int .i64 r5.1, .int .i64 r5.2.1, .int .i64 (r5.2.2.1.getD 0 0), .int .i64 (r5.2.2.1.getD 1 0), .int .i64 (r5.2.2.1.getD 2 0), .int .i64 (r5.2.2.1.getD 3 0), .int .i64 (r5.2.2.1.getD 4 0), .int .i64 (r5.2.2.1.getD 5 0), v10] 78 (0, 0))], g11, [(ba0, .cells #[.int .i64 (IntKind.i64.wrap (a0.1 + r5.1)), .int .i64 (IntKind.i64.wrap (a0.2.1 + r5.2.1)), .int .i64 ((putN 6 0 [s51.2.1, s51.2.2.1, s51.2.2.2.1, s51.2.2.2.2.1, s51.2.2.2.2.2.1, s51.2.2.2.2.2.2] s51.1.toNat (IntKind.i64.wrap (([s51.2.1, s51.2.2.1, s51.2.2.2.1, s51.2.2.2.2.1, s51.2.2.2.2.2.1, s51.2.2.2.2.2.2].getD s51.1.toNat 0) + (r5.2.2.1.getD s51.1.toNat 0)))).getD 0 0), .int .i64 ((putN 6 0 [s51.2.1, s51.2.2.1, s51.2.2.2.1, s51.2.2.2.2.1, s51.2.2.2.2.2.1, s51.2.2.2.2.2.2] s51.1.toNat (IntKind.i64.wrap (([s51.2.1, s51.2.2.1, s51.2.2.2.1, s51.2.2.2.2.1, s51.2.2.2.2.2.1, s51.2.2.2.2.2.2].getD s51.1.toNat 0) + (r5.2.2.1.getD s51.1.toNat 0)))).getD 1 0), .int .i64 ((putN 6 0 [s51.2.1, s51.2.2.1, s51.2.2.2.1, s51.2.2.2.2.1, s51.2.2.2.2.2.1, s51.2.2.2.2.2.2] s51.1.toNat (IntKind.i64.wrap (([s51.2.1, s51.2.2.1, s51.2.2.2.1, s51.2.2.2.2.1, s51.2.2.2.2.2.1, s51.2.2.2.2.2.2].getD s51.1.toNat 0) + (r5.2.2.1.getD s51.1.toNat 0)))).getD 2 0), .int .i64 ((putN 6 0 [s51.2.1, s51.2.2.1, s51.2.2.2.1, s51.2.2.2.2.1, s51.2.2.2.2.2.1, s51.2.2.2.2.2.2] s51.1.toNat (IntKind.i64.wrap (([s51.2.1, s51.2.2.1, s51.2.2.2.1, s51.2.2.2.2.1, s51.2.2.2.2.2.1, s51.2.2.2.2.2.2].getD s51.1.toNat 0) + (r5.2.2.1.getD s51.1.toNat 0)))).getD 3 0), .int .i64 ((putN 6 0 [s51.2.1, s51.2.2.1, s51.2.2.2.1, s51.2.2.2.2.1, s51.2.2.2.2.2.1, s51.2.2.2.2.2.2] s51.1.toNat (IntKind.i64.wrap (([s51.2.1, s51.2.2.1, s51.2.2.2.1, s51.2.2.2.2.1, s51.2.2.2.2.2.1, s51.2.2.2.2.2.2].getD s51.1.toNat 0) + (r5.2.2.1.getD s51.1.toNat 0)))).getD 4 0), .int .i64 ((putN 6 0 [s51.2.1, s51.2.2.1, s51.2.2.2.1, s51.2.2.2.2.1, s51.2.2.2.2.2.1, s51.2.2.2.2.2.2] s51.1.toNat (IntKind.i64.wrap (([s51.2.1, s51.2.2.1, s51.2.2.2.1, s51.2.2.2.2.1, s51.2.2.2.2.2.1, s51.2.2.2.2.2.2].getD s51.1.toNat 0) + (r5.2.2.1.getD s51.1.toNat 0)))).getD 5 0), v1] 78 (0, 0))], g2, pool] rfl ?_
   exact hk _ _ [[(ba0, .cells #[.int .i64 (IntKind.i64.wrap (a0.1 + r5.1)), .int .i64 (IntKind.i64.wrap (a0.2.1 + r5.2.1)), .int .i64 ((putN 6 0 [s51.2.1, s51.2.2.1, s51.2.2.2.1, s51.2.2.2.2.1, s51.2.2.2.2.2.1, s51.2.2.2.2.2.2] s51.1.toNat (IntKind.i64.wrap (([s51.2.1, s51.2.2.1, s51.2.2.2.1, s51.2.2.2.2.1, s51.2.2.2.2.2.1, s51.2.2.2.2.2.2].getD s51.1.toNat 0) + (r5.2.2.1.getD s51.1.toNat 0)))).getD 0 0), .int .i64 ((putN 6 0 [s51.2.1, s51.2.2.1, s51.2.2.2.1, s51.2.2.2.2.1, s51.2.2.2.2.2.1, s51.2.2.2.2.2.2] s51.1.toNat (IntKind.i64.wrap (([s51.2.1, s51.2.2.1, s51.2.2.2.1, s51.2.2.2.2.1, s51.2.2.2.2.2.1, s51.2.2.2.2.2.2].getD s51.1.toNat 0) + (r5.2.2.1.getD s51.1.toNat 0)))).getD 1 0), .int .i64 ((putN 6 0 [s51.2.1, s51.2.2.1, s51.2.2.2.1, s51.2.2.2.2.1, s51.2.2.2.2.2.1, s51.2.2.2.2.2.2] s51.1.toNat (IntKind.i64.wrap (([s51.2.1, s51.2.2.1, s51.2.2.2.1, s51.2.2.2.2.1, s51.2.2.2.2.2.1, s51.2.2.2.2.2.2].getD s51.1.toNat 0) + (r5.2.2.1.getD s51.1.toNat 0)))).getD 2 0), .int .i64 ((putN 6 0 [s51.2.1, s51.2.2.1, s51.2.2.2.1, s51.2.2.2.2.1, s51.2.2.2.2.2.1, s51.2.2.2.2.2.2] s51.1.toNat (IntKind.i64.wrap (([s51.2.1, s51.2.2.1, s51.2.2.2.1, s51.2.2.2.2.1, s51.2.2.2.2.2.1, s51.2.2.2.2.2.2].getD s51.1.toNat 0) + (r5.2.2.1.getD s51.1.toNat 0)))).getD 3 0), .int .i64 ((putN 6 0 [s51.2.1, s51.2.2.1, s51.2.2.2.1, s51.2.2.2.2.1, s51.2.2.2.2.2.1, s51.2.2.2.2.2.2] s51.1.toNat (IntKind.i64.wrap (([s51.2.1, s51.2.2.1, s51.2.2.2.1, s51.2.2.2.2.1, s51.2.2.2.2.2.1, s51.2.2.2.2.2.2].getD s51.1.toNat 0) + (r5.2.2.1.getD s51.1.toNat 0)))).getD 4 0), .int .i64 ((putN 6 0 [s51.2.1, s51.2.2.1, s51.2.2.2.1, s51.2.2.2.2.1, s51.2.2.2.2.2.1, s51.2.2.2.2.2.2] s51.1.toNat (IntKind.i64.wrap (([s51.2.1, s51.2.2.1, s51.2.2.2.1, s51.2.2.2.2.1, s51.2.2.2.2.2.1, s51.2.2.2.2.2.2].getD s51.1.toNat 0) + (r5.2.2.1.getD s51.1.toNat 0)))).getD 5 0), v1] 78 (0, 0))], g2] (Sto.Le.refl _) trivial (by exact rfl)
  intro ρ' τ58 vals u Fv hl58 hI hu hv hout
  obtain rfl := hI
  refine st_gs [[(b4, .cells #[.pointer (some ⟨ba0, 0, none⟩)] 48 (0, 0))], [(b9, .cells #[.int .i64 r5.1, .int .i64 r5.2.1, .int .i64 (r5.2.2.1.getD 0 0), .int .i64 (r5.2.2.1.getD 1 0), .int .i64 (r5.2.2.1.getD 2 0), .int .i64 (r5.2.2.1.getD 3 0), .int .i64 (r5.2.2.1.getD 4 0), .int .i64 (r5.2.2.1.getD 5 0), v10] 78 (0, 0))], g11, [(ba0, .cells #[.int .i64 (IntKind.i64.wrap (a0.1 + r5.1)), .int .i64 (IntKind.i64.wrap (a0.2.1 + r5.2.1)), .int .i64 ((putN 6 0 [s51.2.1, s51.2.2.1, s51.2.2.2.1, s51.2.2.2.2.1, s51.2.2.2.2.2.1, s51.2.2.2.2.2.2] s51.1.toNat (IntKind.i64.wrap (([s51.2.1, s51.2.2.1, s51.2.2.2.1, s51.2.2.2.2.1, s51.2.2.2.2.2.1, s51.2.2.2.2.2.2].getD s51.1.toNat 0) + (r5.2.2.1.getD s51.1.toNat 0)))).getD 0 0), .int .i64 ((putN 6 0 [s51.2.1, s51.2.2.1, s51.2.2.2.1, s51.2.2.2.2.1, s51.2.2.2.2.2.1, s51.2.2.2.2.2.2] s51.1.toNat (IntKind.i64.wrap (([s51.2.1, s51.2.2.1, s51.2.2.2.1, s51.2.2.2.2.1, s51.2.2.2.2.2.1, s51.2.2.2.2.2.2].getD s51.1.toNat 0) + (r5.2.2.1.getD s51.1.toNat 0)))).getD 1 0), .int .i64 ((putN 6 0 [s51.2.1, s51.2.2.1, s51.2.2.2.1, s51.2.2.2.2.1, s51.2.2.2.2.2.1, s51.2.2.2.2.2.2] s51.1.toNat (IntKind.i64.wrap (([s51.2.1, s51.2.2.1, s51.2.2.2.1, s51.2.2.2.2.1, s51.2.2.2.2.2.1, s51.2.2.2.2.2.2].getD s51.1.toNat 0) + (r5.2.2.1.getD s51.1.toNat 0)))).getD 2 0), .int .i64 ((putN 6 0 [s51.2.1, s51.2.2.1, s51.2.2.2.1, s51.2.2.2.2.1, s51.2.2.2.2.2.1, s51.2.2.2.2.2.2] s51.1.toNat (IntKind.i64.wrap (([s51.2.1, s51.2.2.1, s51.2.2.2.1, s51.2.2.2.2.1, s51.2.2.2.2.2.1, s51.2.2.2.2.2.2].getD s51.1.toNat 0) + (r5.2.2.1.getD s51.1.toNat 0)))).getD 3 0), .int .i64 ((putN 6 0 [s51.2.1, s51.2.2.1, s51.2.2.2.1, s51.2.2.2.2.1, s51.2.2.2.2.2.1, s51.2.2.2.2.2.2] s51.1.toNat (IntKind.i64.wrap (([s51.2.1, s51.2.2.1, s51.2.2.2.1, s51.2.2.2.2.1, s51.2.2.2.2.2.1, s51.2.2.2.2.2.2].getD s51.1.toNat 0) + (r5.2.2.1.getD s51.1.toNat 0)))).getD 4 0), .int .i64 ((putN 6 0 [s51.2.1, s51.2.2.1, s51.2.2.2.1, s51.2.2.2.2.1, s51.2.2.2.2.2.1, s51.2.2.2.2.2.2] s51.1.toNat (IntKind.i64.wrap (([s51.2.1, s51.2.2.1, s51.2.2.2.1, s51.2.2.2.2.1, s51.2.2.2.2.2.1, s51.2.2.2.2.2.2].getD s51.1.toNat 0) + (r5.2.2.1.getD s51.1.toNat 0)))).getD 5 0), v1] 78 (0, 0))], g2] rfl ?_
  refine st_env (ρ' := [(1, .pointer (some ⟨b9, 0, none⟩)), (2, .pointer (some ⟨b4, 0, none⟩)), (41, .agg #[.int .i64 (r5.2.2.1.getD 0 0), .int .i64 (r5.2.2.1.getD 1 0), .int .i64 (r5.2.2.1.getD 2 0), .int .i64 (r5.2.2.1.getD 3 0), .int .i64 (r5.2.2.1.getD 4 0), .int .i64 (r5.2.2.1.getD 5 0)]), (42, .int .i64 s51.1)]) ⟨(hout 1 rfl).trans rfl, (hout 2 rfl).trans rfl, (hout 41 rfl).trans rfl, (hout 42 rfl).trans rfl, trivial⟩ ?_
  refine Z 6 rfl ?_
  refine st_ord [3, 0, 0, 1, 0] _ rfl ?_
  exact hn51 _ _ _ _ h ⟨(hl51.trans hl58), rfl, rfl⟩
 ·refine st_exit rfl ?_
  obtain rfl := he51 _ h
  replace h := hA51
  exact hk15 _ _ _ ⟨(s51.2.1, s51.2.2.1, s51.2.2.2.1, s51.2.2.2.2.1, s51.2.2.2.2.2.1, s51.2.2.2.2.2.2), h, hl51, rfl, rfl⟩
theorem tally_Same_nil_ok {a1 : Int × Int × List Int × List (Int × Int)} {ba1 : Nat} {v1 : Value} {g2 : Grp} {r : Bool} (h : tally_Same_nil a1 r) (σ : Sto) (ho3 : Mp (Value.int .i64) (rF (Value.int .i64)) σ v1 a1.2.2.2 g2) :
    Does Tryd.prog 29 [.pointer none, .pointer (some ⟨ba1, 0, none⟩)] σ [[(ba1, .cells [.int .i64 a1.1, .int .i64 a1.2.1, .int .i64 (a1.2.2.1.getD 0 0), .int .i64 (a1.2.2.1.getD 1 0), .int .i64 (a1.2.2.1.getD 2 0), .int .i64 (a1.2.2.1.getD 3 0), .int .i64 (a1.2.2.1.getD 4 0), .int .i64 (a1.2.2.1.getD 5 0), v1].toArray 78 (0, 0))], g2] (fun v τ gs => gs = [[(ba1, .cells [.int .i64 a1.1, .int .i64 a1.2.1, .int .i64 (a1.2.2.1.getD 0 0), .int .i64 (a1.2.2.1.getD 1 0), .int .i64 (a1.2.2.1.getD 2 0), .int .i64 (a1.2.2.1.getD 3 0), .int .i64 (a1.2.2.1.getD 4 0), .int .i64 (a1.2.2.1.getD 5 0), v1].toArray 78 (0, 0))], g2] ∧ .bool r = v) := by
 refine call_of Tryd.func29 Tryd.ntmps29 rfl rfl (fun cs fs => ?_)
 refine Z 12 rfl ?_
 obtain ⟨r4, hr5, h⟩ := h
 refine st_call (foot := []) rfl rfl rfl rfl rfl rfl (callV_fn z_en19 (tally_New_ok hr5 σ)) ?_
 rintro vτ6 τ6 gsτ6 hl7 ⟨b8, v9, g10, rfl, rfl, ho11⟩
 refine Z 11 rfl ?_
 obtain ⟨r15, hr16, h⟩ := h
 let cc12 : Prop := (decide (r4.1 = a1.1)) = true
 let cc13 : Prop := ((decide (r4.1 = a1.1)) && (decide (r4.2.1 = a1.2.1))) = true
 let cc14 : Prop := (((decide (r4.1 = a1.1)) && (decide (r4.2.1 = a1.2.1))) && (eqN 6 0 r4.2.2.1 a1.2.2.1)) = true
 refine st_draw 42 (dl [.v (.pointer (some ⟨b8, 0, none⟩)), .v (.pointer (some ⟨b8, 0, none⟩)), .v (.pointer (some ⟨b8, 0, none⟩)), .v (.int .i64 r4.1), .v (.pointer (some ⟨ba1, 0, none⟩)), .v (.pointer (some ⟨ba1, 0, none⟩)), .v (.pointer (some ⟨ba1, 0, none⟩)), .v (.int .i64 a1.1), .v (.bool (decide (r4.1 = a1.1))), .v (.bool (decide (r4.1 = a1.1))), .g cc12 (.pointer (some ⟨b8, 0, none⟩)), .g cc12 (.pointer (some ⟨b8, 0, none⟩)), .g cc12 (.pointer (some ⟨b8, 1, none⟩)), .g cc12 (.int .i64 r4.2.1), .g cc12 (.pointer (some ⟨ba1, 0, none⟩)), .g cc12 (.pointer (some ⟨ba1, 0, none⟩)), .g cc12 (.pointer (some ⟨ba1, 1, none⟩)), .g cc12 (.int .i64 a1.2.1), .g cc12 (.bool (decide (r4.2.1 = a1.2.1))), .v (.bool ((decide (r4.1 = a1.1)) && (decide (r4.2.1 = a1.2.1)))), .v (.bool ((decide (r4.1 = a1.1)) && (decide (r4.2.1 = a1.2.1)))), .g cc13 (.pointer (some ⟨b8, 0, none⟩)), .g cc13 (.pointer (some ⟨b8, 0, none⟩)), .g cc13 (.pointer (some ⟨b8, 2, none⟩)), .g cc13 (.agg #[.int .i64 (r4.2.2.1.getD 0 0), .int .i64 (r4.2.2.1.getD 1 0), .int .i64 (r4.2.2.1.getD 2 0), .int .i64 (r4.2.2.1.getD 3 0), .int .i64 (r4.2.2.1.getD 4 0), .int .i64 (r4.2.2.1.getD 5 0)]), .g cc13 (.pointer (some ⟨ba1, 0, none⟩)), .g cc13 (.pointer (some ⟨ba1, 0, none⟩)), .g cc13 (.pointer (some ⟨ba1, 2, none⟩)), .g cc13 (.agg #[.int .i64 (a1.2.2.1.getD 0 0), .int .i64 (a1.2.2.1.getD 1 0), .int .i64 (a1.2.2.1.getD 2 0), .int .i64 (a1.2.2.1.getD 3 0), .int .i64 (a1.2.2.1.getD 4 0), .int .i64 (a1.2.2.1.getD 5 0)]), .g cc13 (.bool (eqN 6 0 r4.2.2.1 a1.2.2.1)), .v (.bool (((decide (r4.1 = a1.1)) && (decide (r4.2.1 = a1.2.1))) && (eqN 6 0 r4.2.2.1 a1.2.2.1))), .v (.bool (((decide (r4.1 = a1.1)) && (decide (r4.2.1 = a1.2.1))) && (eqN 6 0 r4.2.2.1 a1.2.2.1))), .g cc14 (.pointer (some ⟨b8, 0, none⟩)), .g cc14 (.pointer (some ⟨b8, 0, none⟩)), .g cc14 (.pointer (some ⟨b8, 8, none⟩)), .g cc14 (v9), .g cc14 (.pointer (some ⟨ba1, 0, none⟩)), .g cc14 (.pointer (some ⟨ba1, 0, none⟩)), .g cc14 (.pointer (some ⟨ba1, 8, none⟩)), .g cc14 (v1), .g cc14 (.bool r15), .v (.bool ((((decide (r4.1 = a1.1)) && (decide (r4.2.1 = a1.2.1))) && (eqN 6 0 r4.2.2.1 a1.2.2.1)) && r15))]) (fun _ _ => []) z_mix rfl (dl_mono (by exact trivial)) (allB_cons (allB_cons (allB_cons (allB_cons (allB_cons (allB_cons (allB_cons (allB_cons (allB_cons (allB_cons (allB_cons (allB_cons (allB_cons (allB_cons (allB_cons (allB_cons (allB_cons (allB_cons (allB_cons (allB_cons (allB_cons (allB_cons (allB_cons (allB_cons (allB_cons (allB_cons (allB_cons (allB_cons (allB_cons (allB_cons (allB_cons (allB_cons (allB_cons (allB_cons (allB_cons (allB_cons (allB_cons (allB_cons (allB_cons (allB_cons (allB_cons (allB_cons allB_nil (p1 dA)) (p1 dA)) (p1 dA)) ?_) (p1 dA)) (p1 dA)) (p1 dA)) ?_) (p1 dA)) (p1 dA)) (p1 (dG []))) (p1 (dG [10]))) (p1 (dG [11]))) ?_) (p1 (dG []))) (p1 (dG [14]))) (p1 (dG [15]))) ?_) (p1 (dG [13, 17]))) (p1 dK)) (p1 dA)) (p1 (dG []))) (p1 (dG [21]))) (p1 (dG [22]))) ?_) (p1 (dG []))) (p1 (dG [25]))) (p1 (dG [26]))) ?_) ?_) (p1 dK)) (p1 dA)) (p1 (dG []))) (p1 (dG [32]))) (p1 (dG [33]))) ?_) (p1 (dG []))) (p1 (dG [36]))) (p1 (dG [37]))) ?_) ?_) (p1 dK)) ?_
 ·intro ρ' τ pool rs hl hd hout hk
  obtain ⟨_, e2, rfl⟩ := hd 2 rfl
  refine o_load (j := 0) (v := .int .i64 r4.1) rfl rfl rfl z_sc3 e2 rfl rfl ?_
  exact st_addNil (hk _ _ (Sto.Le.refl _) rfl)
 ·intro ρ' τ pool rs hl hd hout hk
  obtain ⟨_, e6, rfl⟩ := hd 6 rfl
  refine o_load (j := 2) (v := .int .i64 a1.1) rfl rfl rfl z_sc3 e6 rfl rfl ?_
  exact st_addNil (hk _ _ (Sto.Le.refl _) rfl)
 ·intro ρ' τ pool rs hl hd hout hk
  obtain ⟨_, e9, rfl⟩ := hd 9 rfl
  obtain ⟨w12, e12, t12⟩ := hd 12 rfl
  by_cases hG : (decide (r4.1 = a1.1)) = true
  ·have hC := hG
   obtain ⟨rfl⟩ := t12.1 hC
   refine o_load (j := 0) (v := .int .i64 r4.2.1) rfl (wants_of rfl e9 hG) rfl z_sc3 e12 rfl rfl ?_
   exact st_addNil (hk _ _ (Sto.Le.refl _) ⟨fun _ => rfl, fun hn => absurd hC hn⟩)
  ·refine st_pass rfl rfl rfl e9 (beq_off hG) rfl ?_
   exact st_addNil (hk _ _ (Sto.Le.refl _) ⟨fun h => absurd h hG, fun _ => rfl⟩)
 ·intro ρ' τ pool rs hl hd hout hk
  obtain ⟨_, e9, rfl⟩ := hd 9 rfl
  obtain ⟨w16, e16, t16⟩ := hd 16 rfl
  by_cases hG : (decide (r4.1 = a1.1)) = true
  ·have hC := hG
   obtain ⟨rfl⟩ := t16.1 hC
   refine o_load (j := 2) (v := .int .i64 a1.2.1) rfl (wants_of rfl e9 hG) rfl z_sc3 e16 rfl rfl ?_
   exact st_addNil (hk _ _ (Sto.Le.refl _) ⟨fun _ => rfl, fun hn => absurd hC hn⟩)
  ·refine st_pass rfl rfl rfl e9 (beq_off hG) rfl ?_
   exact st_addNil (hk _ _ (Sto.Le.refl _) ⟨fun h => absurd h hG, fun _ => rfl⟩)
 ·intro ρ' τ pool rs hl hd hout hk
  obtain ⟨_, e20, rfl⟩ := hd 20 rfl
  obtain ⟨w23, e23, t23⟩ := hd 23 rfl
  by_cases hG : ((decide (r4.1 = a1.1)) && (decide (r4.2.1 = a1.2.1))) = true
  ·have hC := hG
   obtain ⟨rfl⟩ := t23.1 hC
   refine o_loadN (j := 0) (vs := [.int .i64 (r4.2.2.1.getD 0 0), .int .i64 (r4.2.2.1.getD 1 0), .int .i64 (r4.2.2.1.getD 2 0), .int .i64 (r4.2.2.1.getD 3 0), .int .i64 (r4.2.2.1.getD 4 0), .int .i64 (r4.2.2.1.getD 5 0)]) rfl (wants_of rfl e20 hG) rfl z_agg23 e23 rfl rfl ?_
   exact st_addNil (hk _ _ (Sto.Le.refl _) ⟨fun _ => rfl, fun hn => absurd hC hn⟩)
  ·refine st_pass rfl rfl rfl e20 (beq_off hG) rfl ?_
   exact st_addNil (hk _ _ (Sto.Le.refl _) ⟨fun h => absurd h hG, fun _ => rfl⟩)
 ·intro ρ' τ pool rs hl hd hout hk
  obtain ⟨_, e20, rfl⟩ := hd 20 rfl
  obtain ⟨w27, e27, t27⟩ := hd 27 rfl
  by_cases hG : ((decide (r4.1 = a1.1)) && (decide (r4.2.1 = a1.2.1))) = true
  ·have hC := hG
   obtain ⟨rfl⟩ := t27.1 hC
   refine o_loadN (j := 2) (vs := [.int .i64 (a1.2.2.1.getD 0 0), .int .i64 (a1.2.2.1.getD 1 0), .int .i64 (a1.2.2.1.getD 2 0), .int .i64 (a1.2.2.1.getD 3 0), .int .i64 (a1.2.2.1.getD 4 0), .int .i64 (a1.2.2.1.getD 5 0)]) rfl (wants_of rfl e20 hG) rfl z_agg23 e27 rfl rfl ?_
   exact st_addNil (hk _ _ (Sto.Le.refl _) ⟨fun _ => rfl, fun hn => absurd hC hn⟩)
  ·refine st_pass rfl rfl rfl e20 (beq_off hG) rfl ?_
   exact st_addNil (hk _ _ (Sto.Le.refl _) ⟨fun h => absurd h hG, fun _ => rfl⟩)
 ·intro ρ' τ pool rs hl hd hout hk
  obtain ⟨_, e20, rfl⟩ := hd 20 rfl
  obtain ⟨w24, e24, t24⟩ := hd 24 rfl
  obtain ⟨w28, e28, t28⟩ := hd 28 rfl
  by_cases hG : ((decide (r4.1 = a1.1)) && (decide (r4.2.1 = a1.2.1))) = true
  ·have hC := hG
   obtain ⟨rfl⟩ := t24.1 hC
   obtain ⟨rfl⟩ := t28.1 hC
   refine o_aggEq (b := (eqN 6 0 r4.2.2.1 a1.2.2.1)) (e := (eqN 6 0 r4.2.2.1 a1.2.2.1)) rfl (wants_of rfl e20 hG) rfl z_eqg23 e24 e28 (fun w => by exact eq_arr (xs := r4.2.2.1) (ys := a1.2.2.1) Tryd.underlying23 Tryd.underlying3 z_info3 z_cell3) rfl ?_
   exact st_addNil (hk _ _ (Sto.Le.refl _) ⟨fun _ => rfl, fun hn => absurd hC hn⟩)
  ·refine st_pass rfl rfl rfl e20 (beq_off hG) rfl ?_
   exact st_addNil (hk _ _ (Sto.Le.refl _) ⟨fun h => absurd h hG, fun _ => rfl⟩)
 ·intro ρ' τ pool rs hl hd hout hk
  obtain ⟨_, e31, rfl⟩ := hd 31 rfl
  obtain ⟨w34, e34, t34⟩ := hd 34 rfl
  by_cases hG : (((decide (r4.1 = a1.1)) && (decide (r4.2.1 = a1.2.1))) && (eqN 6 0 r4.2.2.1 a1.2.2.1)) = true
  ·have hC := hG
   obtain ⟨rfl⟩ := t34.1 hC
   refine o_load (j := 0) (v := v9) rfl (wants_of rfl e31 hG) rfl z_sc76 e34 rfl rfl ?_
   exact st_addNil (hk _ _ (Sto.Le.refl _) ⟨fun _ => rfl, fun hn => absurd hC hn⟩)
  ·refine st_pass rfl rfl rfl e31 (beq_off hG) rfl ?_
   exact st_addNil (hk _ _ (Sto.Le.refl _) ⟨fun h => absurd h hG, fun _ => rfl⟩)
 ·intro ρ' τ pool rs hl hd hout hk
  obtain ⟨_, e31, rfl⟩ := hd 31 rfl
  obtain ⟨w38, e38, t38⟩ := hd 38 rfl
  by_cases hG : (((decide (r4.1 = a1.1)) && (decide (r4.2.1 = a1.2.1))) && (eqN 6 0 r4.2.2.1 a1.2.2.1)) = true
  ·have hC := hG
   obtain ⟨rfl⟩ := t38.1 hC
   refine o_load (j := 2) (v := v1) rfl (wants_of rfl e31 hG) rfl z_sc76 e38 rfl rfl ?_
   exact st_addNil (hk _ _ (Sto.Le.refl _) ⟨fun _ => rfl, fun hn => absurd hC hn⟩)
  ·refine st_pass rfl rfl rfl e31 (beq_off hG) rfl ?_
   exact st_addNil (hk _ _ (Sto.Le.refl _) ⟨fun h => absurd h hG, fun _ => rfl⟩)
 ·intro ρ' τ pool rs hl hd hout hk
  obtain ⟨_, e31, rfl⟩ := hd 31 rfl
  obtain ⟨w35, e35, t35⟩ := hd 35 rfl
  obtain ⟨w39, e39, t39⟩ := hd 39 rfl
  by_cases hG : (((decide (r4.1 = a1.1)) && (decide (r4.2.1 = a1.2.1))) && (eqN 6 0 r4.2.2.1 a1.2.2.1)) = true
  ·have hC := hG
   replace hr16 := hr16 hC
   obtain ⟨rfl⟩ := t39.1 hC
   obtain ⟨rfl⟩ := t35.1 hC
   refine st_ord [1, 2, 0, 0, 0] _ rfl ?_
   refine st_call (foot := [g10, g2]) rfl (wants_of rfl e31 hG) rfl rfl (evs_cons e35 (evs_cons e39 rfl)) rfl (callV_fn z_en49 (maps_Equal_map_api_Errno_int_map_api_Errno_int_api_Errno_int_ok hr16 τ (ho11.up hl) (ho3.up (hl7.trans hl)))) ?_
   rintro vτ17 τ17 gsτ17 hl18 ⟨rfl, rfl⟩
   refine st_ord [2, 0, 1, 0, 0] _ rfl ?_
   exact st_addNil (hk _ _ hl18 ⟨fun _ => rfl, fun hn => absurd hC hn⟩)
  ·refine st_pass rfl rfl rfl e31 (beq_off hG) rfl ?_
   exact st_addNil (hk _ _ (Sto.Le.refl _) ⟨fun h => absurd h hG, fun _ => rfl⟩)
 intro ρ' τ19 vals hl19 hv hout
 refine st_ord [0, 0, 0, 0] _ rfl ?_
 refine st_env (ρ' := [(52, .bool ((((decide (r4.1 = a1.1)) && (decide (r4.2.1 = a1.2.1))) && (eqN 6 0 r4.2.2.1 a1.2.2.1)) && r15)), (4, .bool false)]) ⟨(lv1 hv 41 rfl rfl), (hout 4 rfl).trans rfl, trivial⟩ ?_
 refine Z 2 rfl ?_
 refine st_ord [2, 2] _ rfl ?_
 obtain rfl := Eq.symm h
 exact st_ret (gs' := [[(ba1, .cells #[.int .i64 a1.1, .int .i64 a1.2.1, .int .i64 (a1.2.2.1.getD 0 0), .int .i64 (a1.2.2.1.getD 1 0), .int .i64 (a1.2.2.1.getD 2 0), .int .i64 (a1.2.2.1.getD 3 0), .int .i64 (a1.2.2.1.getD 4 0), .int .i64 (a1.2.2.1.getD 5 0), v1] 78 (0, 0))], g2]) Tryd.func29 rfl (List.Sublist.refl _) (hl7.trans hl19) ⟨rfl, rfl⟩
end Go.Rel
