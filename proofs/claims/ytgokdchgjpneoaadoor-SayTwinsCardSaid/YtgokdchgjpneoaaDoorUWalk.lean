import Derived.Test.YtgokdchgjpneoaaDoorURel
import Derived.Test.YtgokdchgjpneoaaDoorUFacts
/-! The walks. -/
set_option linter.unusedVariables false
set_option linter.unusedSimpArgs false
set_option maxRecDepth 4000
set_option maxHeartbeats 4000000
namespace Go.Rel
open Go Go.Eng Go.Proofs
theorem law17_Cut_ok {a0 : Int × List Int × List (Int × Int) × List Int × ByteArray × ByteArray} {v1 : Value} {v2 : Value} {r : (Int × List Int × List (Int × Int) × List Int × ByteArray × ByteArray)} (h : law17_Cut a0 r) (σ : Sto) (hs3 : Sl (kP (kI .i64) (kI .i64)) σ v1 a0.2.2.1) (hs4 : Sl (kI .i64) σ v2 a0.2.2.2.1) :
    Does Tryd.prog 11 [.agg [.int .i64 a0.1, .int .i64 (a0.2.1.getD 0 0), .int .i64 (a0.2.1.getD 1 0), .int .i64 (a0.2.1.getD 2 0), .int .i64 (a0.2.1.getD 3 0), .int .i64 (a0.2.1.getD 4 0), .int .i64 (a0.2.1.getD 5 0), v1, v2, .string a0.2.2.2.2.1, .string a0.2.2.2.2.2].toArray] σ [] (fun v τ gs => ∃ (v23 : Value) (v24 : Value), gs = [] ∧ .agg [.int .i64 r.1, .int .i64 (r.2.1.getD 0 0), .int .i64 (r.2.1.getD 1 0), .int .i64 (r.2.1.getD 2 0), .int .i64 (r.2.1.getD 3 0), .int .i64 (r.2.1.getD 4 0), .int .i64 (r.2.1.getD 5 0), v23, v24, .string r.2.2.2.2.1, .string r.2.2.2.2.2].toArray = v ∧ Sl (kP (kI .i64) (kI .i64)) τ v23 r.2.2.1 ∧ Sl (kI .i64) τ v24 r.2.2.2.1) := by
  refine call_of Tryd.func11 Tryd.ntmps11 rfl rfl (fun cs fs => ?_)
  refine Z 2 rfl ?_
  refine o_box (cs := [.int .i64 a0.1, .int .i64 (a0.2.1.getD 0 0), .int .i64 (a0.2.1.getD 1 0), .int .i64 (a0.2.1.getD 2 0), .int .i64 (a0.2.1.getD 3 0), .int .i64 (a0.2.1.getD 4 0), .int .i64 (a0.2.1.getD 5 0), v1, v2, .string a0.2.2.2.2.1, .string a0.2.2.2.2.2]) rfl rfl rfl rfl rfl (fun b5 => ?_)
  refine o_alloc rfl rfl rfl z_zero26 (fun b6 => ?_)
  refine Z 2 rfl ?_
  obtain ⟨hf7, hf8, hf11, hf12, h⟩ := h
  refine st_draw41 (gs := [[(b6, .cells [.int .i64 0, .int .i64 0, .int .i64 0, .int .i64 0, .int .i64 0, .int .i64 0, .int .i64 0, .slice none 0 0, .slice none 0 0, .string (bstr []), .string (bstr [])].toArray 26 (0, 0))]]) (F0 := [[(b5, .cells [.int .i64 a0.1, .int .i64 (a0.2.1.getD 0 0), .int .i64 (a0.2.1.getD 1 0), .int .i64 (a0.2.1.getD 2 0), .int .i64 (a0.2.1.getD 3 0), .int .i64 (a0.2.1.getD 4 0), .int .i64 (a0.2.1.getD 5 0), v1, v2, .string a0.2.2.2.2.1, .string a0.2.2.2.2.2].toArray 26 (0, 0))]]) 16 1 (tlP [none, none, none, none, none, none, none, none, none, none, none, none, none, none, none, some (0, 0)]) (tlP [none, some (0, 0), none, some (0, 0), none, none, none, none, some (0, 0), none, some (0, 0), none, none, none, none, none]) (tlNN [[none, none]]) (tl [fun τ v => (.pointer (some ⟨b5, 7, none⟩) : Value) = v,
    fun τ v => (v1 : Value) = v,
    fun τ v => (.pointer (some ⟨b5, 7, none⟩) : Value) = v,
    fun τ v => (v1 : Value) = v,
    fun τ v => (.int .i64 (a0.2.2.1.length : Int) : Value) = v,
    fun τ v => (.int .i64 (min (a0.2.2.1.length : Int) 40) : Value) = v,
    fun τ v => ∃ (v9 : Value), (v9 : Value) = v ∧ Sl (kP (kI .i64) (kI .i64)) τ v9 ((a0.2.2.1.drop (0 : Int).toNat).take (((min (a0.2.2.1.length : Int) 40) : Int) - 0).toNat),
    fun τ v => (.pointer (some ⟨b5, 8, none⟩) : Value) = v,
    fun τ v => (v2 : Value) = v,
    fun τ v => (.pointer (some ⟨b5, 8, none⟩) : Value) = v,
    fun τ v => (v2 : Value) = v,
    fun τ v => (.int .i64 (a0.2.2.2.1.length : Int) : Value) = v,
    fun τ v => (.int .i64 (min (a0.2.2.2.1.length : Int) 40) : Value) = v,
    fun τ v => ∃ (v13 : Value), (v13 : Value) = v ∧ Sl (kI .i64) τ v13 ((a0.2.2.2.1.drop (0 : Int).toNat).take (((min (a0.2.2.2.1.length : Int) 40) : Int) - 0).toNat),
    fun τ v => (.pointer (some ⟨b5, 7, none⟩) : Value) = v,
    fun _ _ => True]) (tlII [[fun τ u F => F = [[(b5, .cells [.int .i64 a0.1, .int .i64 (a0.2.1.getD 0 0), .int .i64 (a0.2.1.getD 1 0), .int .i64 (a0.2.1.getD 2 0), .int .i64 (a0.2.1.getD 3 0), .int .i64 (a0.2.1.getD 4 0), .int .i64 (a0.2.1.getD 5 0), v1, v2, .string a0.2.2.2.2.1, .string a0.2.2.2.2.2].toArray 26 (0, 0))]],
    fun τ u F => ∃ (v15 : Value), F = [[(b5, .cells [.int .i64 a0.1, .int .i64 (a0.2.1.getD 0 0), .int .i64 (a0.2.1.getD 1 0), .int .i64 (a0.2.1.getD 2 0), .int .i64 (a0.2.1.getD 3 0), .int .i64 (a0.2.1.getD 4 0), .int .i64 (a0.2.1.getD 5 0), v15, v2, .string a0.2.2.2.2.1, .string a0.2.2.2.2.2].toArray 26 (0, 0))]] ∧ Sl (kP (kI .i64) (kI .i64)) τ v15 ((a0.2.2.1.drop (0 : Int).toNat).take (((min (a0.2.2.1.length : Int) 40) : Int) - 0).toNat)]]) z_mix ?_ (tl_mono ⟨fun _ _ _ _ h => h, ⟨fun _ _ _ _ h => h, ⟨fun _ _ _ _ h => h, ⟨fun _ _ _ _ h => h, ⟨fun _ _ _ _ h => h, ⟨fun _ _ _ _ h => h, ⟨fun _ _ _ hl ⟨v9, hv, hs10⟩ => ⟨v9, hv, hs10.up hl⟩, ⟨fun _ _ _ _ h => h, ⟨fun _ _ _ _ h => h, ⟨fun _ _ _ _ h => h, ⟨fun _ _ _ _ h => h, ⟨fun _ _ _ _ h => h, ⟨fun _ _ _ _ h => h, ⟨fun _ _ _ hl ⟨v13, hv, hs14⟩ => ⟨v13, hv, hs14.up hl⟩, ⟨fun _ _ _ _ h => h, ⟨fun _ _ _ _ _ => trivial, trivial⟩⟩⟩⟩⟩⟩⟩⟩⟩⟩⟩⟩⟩⟩⟩⟩) (tlII_mono ⟨⟨fun _ _ _ _ hl h => h, ⟨fun _ _ _ _ hl h => (let ⟨v15, hF, hs16⟩ := h; ⟨v15, hF, hs16.up hl⟩), trivial⟩⟩, trivial⟩) ?_ ?_ ?_ (allB_cons (allB_cons (allB_cons (allB_cons (allB_cons (allB_cons (allB_cons (allB_cons (allB_cons (allB_cons (allB_cons (allB_cons (allB_cons (allB_cons (allB_cons (allB_cons allB_nil ?_) ?_) ?_) ?_) ?_) ?_) ?_) ?_) ?_) ?_) ?_) ?_) ?_) ?_) ?_) ?_) ?_
  · exact rfl
  · exact rfl
  · exact rfl
  · exact rfl
  · intro ρ' τ pool rs hl hd hout hw hk
    refine o_fieldAddr rfl rfl rfl z_field26_2 ((hout 1 rfl).trans rfl) ?_
    exact hk _ _ (Sto.Le.refl _) rfl
  · intro ρ' τ u Fv pool rs hl hI hu hd hout hw hk
    obtain ⟨_, e0, rfl⟩ := hd 0 rfl _ rfl
    have hI0 := hI
    obtain rfl := hI
    refine st_gs [[(b6, .cells [.int .i64 0, .int .i64 0, .int .i64 0, .int .i64 0, .int .i64 0, .int .i64 0, .int .i64 0, .slice none 0 0, .slice none 0 0, .string (bstr []), .string (bstr [])].toArray 26 (0, 0))], [(b5, .cells [.int .i64 a0.1, .int .i64 (a0.2.1.getD 0 0), .int .i64 (a0.2.1.getD 1 0), .int .i64 (a0.2.1.getD 2 0), .int .i64 (a0.2.1.getD 3 0), .int .i64 (a0.2.1.getD 4 0), .int .i64 (a0.2.1.getD 5 0), v1, v2, .string a0.2.2.2.2.1, .string a0.2.2.2.2.2].toArray 26 (0, 0))], pool] rfl ?_
    refine o_load (j := 1) (v := v1) rfl rfl rfl z_sc23 e0 rfl rfl ?_
    exact hk _ _ (Sto.Le.refl _) rfl
  · intro ρ' τ pool rs hl hd hout hw hk
    refine o_fieldAddr rfl rfl rfl z_field26_2 ((hout 1 rfl).trans rfl) ?_
    exact hk _ _ (Sto.Le.refl _) rfl
  · intro ρ' τ u Fv pool rs hl hI hu hd hout hw hk
    obtain ⟨_, e2, rfl⟩ := hd 2 rfl _ rfl
    have hI0 := hI
    obtain rfl := hI
    refine st_gs [[(b6, .cells [.int .i64 0, .int .i64 0, .int .i64 0, .int .i64 0, .int .i64 0, .int .i64 0, .int .i64 0, .slice none 0 0, .slice none 0 0, .string (bstr []), .string (bstr [])].toArray 26 (0, 0))], [(b5, .cells [.int .i64 a0.1, .int .i64 (a0.2.1.getD 0 0), .int .i64 (a0.2.1.getD 1 0), .int .i64 (a0.2.1.getD 2 0), .int .i64 (a0.2.1.getD 3 0), .int .i64 (a0.2.1.getD 4 0), .int .i64 (a0.2.1.getD 5 0), v1, v2, .string a0.2.2.2.2.1, .string a0.2.2.2.2.2].toArray 26 (0, 0))], pool] rfl ?_
    refine o_load (j := 1) (v := v1) rfl rfl rfl z_sc23 e2 rfl rfl ?_
    exact hk _ _ (Sto.Le.refl _) rfl
  · intro ρ' τ pool rs hl hd hout hw hk
    obtain ⟨_, e3, rfl⟩ := hd 3 rfl _ rfl
    refine o_lenI rfl rfl rfl z_slT23 e3 (hs3.up hl) ?_
    exact hk _ _ (Sto.Le.refl _) rfl
  · intro ρ' τ pool rs hl hd hout hw hk
    obtain ⟨_, e4, rfl⟩ := hd 4 rfl _ rfl
    refine o_min2 rfl rfl rfl e4 rfl ?_
    exact hk _ _ (Sto.Le.refl _) rfl
  · intro ρ' τ pool rs hl hd hout hw hk
    obtain ⟨_, e1, rfl⟩ := hd 1 rfl _ rfl
    obtain ⟨_, e5, rfl⟩ := hd 5 rfl _ rfl
    refine o_slice (L := 0) (H := (min (a0.2.2.1.length : Int) 40)) rfl rfl rfl z_slT23 rfl e1 (hs3.up hl) rfl ⟨_, e5⟩ (by decide) hf7 hf8 trivial (by simp) (fun v9 hs10 => ?_)
    exact hk _ _ (Sto.Le.refl _) ⟨v9, rfl, hs10⟩
  · intro ρ' τ pool rs hl hd hout hw hk
    refine o_fieldAddr rfl rfl rfl z_field26_3 ((hout 1 rfl).trans rfl) ?_
    exact hk _ _ (Sto.Le.refl _) rfl
  · intro ρ' τ u Fv pool rs hl hI hu hd hout hw hk
    obtain ⟨_, e7, rfl⟩ := hd 7 rfl _ rfl
    have hI0 := hI
    obtain rfl := hI
    refine st_gs [[(b6, .cells [.int .i64 0, .int .i64 0, .int .i64 0, .int .i64 0, .int .i64 0, .int .i64 0, .int .i64 0, .slice none 0 0, .slice none 0 0, .string (bstr []), .string (bstr [])].toArray 26 (0, 0))], [(b5, .cells [.int .i64 a0.1, .int .i64 (a0.2.1.getD 0 0), .int .i64 (a0.2.1.getD 1 0), .int .i64 (a0.2.1.getD 2 0), .int .i64 (a0.2.1.getD 3 0), .int .i64 (a0.2.1.getD 4 0), .int .i64 (a0.2.1.getD 5 0), v1, v2, .string a0.2.2.2.2.1, .string a0.2.2.2.2.2].toArray 26 (0, 0))], pool] rfl ?_
    refine o_load (j := 1) (v := v2) rfl rfl rfl z_sc24 e7 rfl rfl ?_
    exact hk _ _ (Sto.Le.refl _) rfl
  · intro ρ' τ pool rs hl hd hout hw hk
    refine o_fieldAddr rfl rfl rfl z_field26_3 ((hout 1 rfl).trans rfl) ?_
    exact hk _ _ (Sto.Le.refl _) rfl
  · intro ρ' τ u Fv pool rs hl hI hu hd hout hw hk
    obtain ⟨_, e9, rfl⟩ := hd 9 rfl _ rfl
    have hI0 := hI
    obtain rfl := hI
    refine st_gs [[(b6, .cells [.int .i64 0, .int .i64 0, .int .i64 0, .int .i64 0, .int .i64 0, .int .i64 0, .int .i64 0, .slice none 0 0, .slice none 0 0, .string (bstr []), .string (bstr [])].toArray 26 (0, 0))], [(b5, .cells [.int .i64 a0.1, .int .i64 (a0.2.1.getD 0 0), .int .i64 (a0.2.1.getD 1 0), .int .i64 (a0.2.1.getD 2 0), .int .i64 (a0.2.1.getD 3 0), .int .i64 (a0.2.1.getD 4 0), .int .i64 (a0.2.1.getD 5 0), v1, v2, .string a0.2.2.2.2.1, .string a0.2.2.2.2.2].toArray 26 (0, 0))], pool] rfl ?_
    refine o_load (j := 1) (v := v2) rfl rfl rfl z_sc24 e9 rfl rfl ?_
    exact hk _ _ (Sto.Le.refl _) rfl
  · intro ρ' τ pool rs hl hd hout hw hk
    obtain ⟨_, e10, rfl⟩ := hd 10 rfl _ rfl
    refine o_lenI rfl rfl rfl z_slT24 e10 (hs4.up hl) ?_
    exact hk _ _ (Sto.Le.refl _) rfl
  · intro ρ' τ pool rs hl hd hout hw hk
    obtain ⟨_, e11, rfl⟩ := hd 11 rfl _ rfl
    refine o_min2 rfl rfl rfl e11 rfl ?_
    exact hk _ _ (Sto.Le.refl _) rfl
  · intro ρ' τ pool rs hl hd hout hw hk
    obtain ⟨_, e8, rfl⟩ := hd 8 rfl _ rfl
    obtain ⟨_, e12, rfl⟩ := hd 12 rfl _ rfl
    refine o_slice (L := 0) (H := (min (a0.2.2.2.1.length : Int) 40)) rfl rfl rfl z_slT24 rfl e8 (hs4.up hl) rfl ⟨_, e12⟩ (by decide) hf11 hf12 trivial (by simp) (fun v13 hs14 => ?_)
    exact hk _ _ (Sto.Le.refl _) ⟨v13, rfl, hs14⟩
  · intro ρ' τ pool rs hl hd hout hw hk
    refine o_fieldAddr rfl rfl rfl z_field26_2 ((hout 1 rfl).trans rfl) ?_
    exact hk _ _ (Sto.Le.refl _) rfl
  · intro ρ' τ u Fv pool rs hl hI hu hd hout hw hk
    obtain ⟨_, e6, v9, rfl, hs10⟩ := hd 6 rfl _ rfl
    obtain ⟨_, e14, rfl⟩ := hd 14 rfl _ rfl
    have hI0 := hI
    obtain rfl := hI
    refine st_gs [[(b6, .cells [.int .i64 0, .int .i64 0, .int .i64 0, .int .i64 0, .int .i64 0, .int .i64 0, .int .i64 0, .slice none 0 0, .slice none 0 0, .string (bstr []), .string (bstr [])].toArray 26 (0, 0))], [(b5, .cells [.int .i64 a0.1, .int .i64 (a0.2.1.getD 0 0), .int .i64 (a0.2.1.getD 1 0), .int .i64 (a0.2.1.getD 2 0), .int .i64 (a0.2.1.getD 3 0), .int .i64 (a0.2.1.getD 4 0), .int .i64 (a0.2.1.getD 5 0), v1, v2, .string a0.2.2.2.2.1, .string a0.2.2.2.2.2].toArray 26 (0, 0))], pool] rfl ?_
    refine o_store (j := 1) (vs := [v9]) (cs' := [.int .i64 a0.1, .int .i64 (a0.2.1.getD 0 0), .int .i64 (a0.2.1.getD 1 0), .int .i64 (a0.2.1.getD 2 0), .int .i64 (a0.2.1.getD 3 0), .int .i64 (a0.2.1.getD 4 0), .int .i64 (a0.2.1.getD 5 0), v9, v2, .string a0.2.2.2.2.1, .string a0.2.2.2.2.2]) rfl rfl rfl z_size23 e14 e6 (oneL_sl hs10) (ones_cons hs10.one' ones_nil) rfl rfl rfl ?_
    refine st_gs [[(b6, .cells [.int .i64 0, .int .i64 0, .int .i64 0, .int .i64 0, .int .i64 0, .int .i64 0, .int .i64 0, .slice none 0 0, .slice none 0 0, .string (bstr []), .string (bstr [])].toArray 26 (0, 0))], [(b5, .cells [.int .i64 a0.1, .int .i64 (a0.2.1.getD 0 0), .int .i64 (a0.2.1.getD 1 0), .int .i64 (a0.2.1.getD 2 0), .int .i64 (a0.2.1.getD 3 0), .int .i64 (a0.2.1.getD 4 0), .int .i64 (a0.2.1.getD 5 0), v9, v2, .string a0.2.2.2.2.1, .string a0.2.2.2.2.2].toArray 26 (0, 0))], pool] rfl ?_
    exact hk _ _ [[(b5, .cells [.int .i64 a0.1, .int .i64 (a0.2.1.getD 0 0), .int .i64 (a0.2.1.getD 1 0), .int .i64 (a0.2.1.getD 2 0), .int .i64 (a0.2.1.getD 3 0), .int .i64 (a0.2.1.getD 4 0), .int .i64 (a0.2.1.getD 5 0), v9, v2, .string a0.2.2.2.2.1, .string a0.2.2.2.2.2].toArray 26 (0, 0))]] (Sto.Le.refl _) trivial (by exact ⟨v9, rfl, hs10⟩)
  intro ρ' τ17 vals u Fv hl17 hI hu hv hout
  obtain ⟨l13, v13, t13, hs14⟩ := hv 13 (by decide)
  replace l13 := l13 _ rfl
  replace l13 : Eng.look ρ' 16 = some (v13) := l13.trans (congrArg some (Eq.symm t13))
  obtain ⟨v15, rfl, hs16⟩ := hI
  refine st_gs [[(b6, .cells [.int .i64 0, .int .i64 0, .int .i64 0, .int .i64 0, .int .i64 0, .int .i64 0, .int .i64 0, .slice none 0 0, .slice none 0 0, .string (bstr []), .string (bstr [])].toArray 26 (0, 0))], [(b5, .cells [.int .i64 a0.1, .int .i64 (a0.2.1.getD 0 0), .int .i64 (a0.2.1.getD 1 0), .int .i64 (a0.2.1.getD 2 0), .int .i64 (a0.2.1.getD 3 0), .int .i64 (a0.2.1.getD 4 0), .int .i64 (a0.2.1.getD 5 0), v15, v2, .string a0.2.2.2.2.1, .string a0.2.2.2.2.2].toArray 26 (0, 0))]] rfl ?_
  refine st_env (ρ' := [(16, v13), (1, .pointer (some ⟨b5, 0, none⟩)), (2, .pointer (some ⟨b6, 0, none⟩))]) ⟨l13, (hout 1 rfl).trans rfl, (hout 2 rfl).trans rfl, trivial⟩ ?_
  refine o_fieldAddr rfl rfl rfl z_field26_3 rfl ?_
  refine o_store (j := 1) (vs := [v13]) (cs' := [.int .i64 a0.1, .int .i64 (a0.2.1.getD 0 0), .int .i64 (a0.2.1.getD 1 0), .int .i64 (a0.2.1.getD 2 0), .int .i64 (a0.2.1.getD 3 0), .int .i64 (a0.2.1.getD 4 0), .int .i64 (a0.2.1.getD 5 0), v15, v13, .string a0.2.2.2.2.1, .string a0.2.2.2.2.2]) rfl rfl rfl z_size24 rfl rfl (oneL_sl hs14) (ones_cons hs14.one' ones_nil) rfl rfl rfl ?_
  refine st_gs [[(b6, .cells [.int .i64 0, .int .i64 0, .int .i64 0, .int .i64 0, .int .i64 0, .int .i64 0, .int .i64 0, .slice none 0 0, .slice none 0 0, .string (bstr []), .string (bstr [])].toArray 26 (0, 0))], [(b5, .cells [.int .i64 a0.1, .int .i64 (a0.2.1.getD 0 0), .int .i64 (a0.2.1.getD 1 0), .int .i64 (a0.2.1.getD 2 0), .int .i64 (a0.2.1.getD 3 0), .int .i64 (a0.2.1.getD 4 0), .int .i64 (a0.2.1.getD 5 0), v15, v13, .string a0.2.2.2.2.1, .string a0.2.2.2.2.2].toArray 26 (0, 0))]] rfl ?_
  refine Z 2 rfl ?_
  obtain ⟨hf18, hf19, hf20, hf21, h⟩ := h
  refine st_draw41 (gs := [[(b6, .cells [.int .i64 0, .int .i64 0, .int .i64 0, .int .i64 0, .int .i64 0, .int .i64 0, .int .i64 0, .slice none 0 0, .slice none 0 0, .string (bstr []), .string (bstr [])].toArray 26 (0, 0))]]) (F0 := [[(b5, .cells [.int .i64 a0.1, .int .i64 (a0.2.1.getD 0 0), .int .i64 (a0.2.1.getD 1 0), .int .i64 (a0.2.1.getD 2 0), .int .i64 (a0.2.1.getD 3 0), .int .i64 (a0.2.1.getD 4 0), .int .i64 (a0.2.1.getD 5 0), v15, v13, .string a0.2.2.2.2.1, .string a0.2.2.2.2.2].toArray 26 (0, 0))]]) 16 1 (tlP [none, none, none, none, none, none, none, none, none, none, none, none, none, none, none, some (0, 0)]) (tlP [none, some (0, 0), none, some (0, 0), none, none, none, none, some (0, 0), none, some (0, 0), none, none, none, none, none]) (tlNN [[none, none]]) (tl [fun τ v => (.pointer (some ⟨b5, 9, none⟩) : Value) = v,
    fun τ v => (.string a0.2.2.2.2.1 : Value) = v,
    fun τ v => (.pointer (some ⟨b5, 9, none⟩) : Value) = v,
    fun τ v => (.string a0.2.2.2.2.1 : Value) = v,
    fun τ v => (.int .i64 (a0.2.2.2.2.1.size : Int) : Value) = v,
    fun τ v => (.int .i64 (min (a0.2.2.2.2.1.size : Int) 80) : Value) = v,
    fun τ v => (.string (a0.2.2.2.2.1.extract 0 (min (a0.2.2.2.2.1.size : Int) 80).toNat) : Value) = v,
    fun τ v => (.pointer (some ⟨b5, 10, none⟩) : Value) = v,
    fun τ v => (.string a0.2.2.2.2.2 : Value) = v,
    fun τ v => (.pointer (some ⟨b5, 10, none⟩) : Value) = v,
    fun τ v => (.string a0.2.2.2.2.2 : Value) = v,
    fun τ v => (.int .i64 (a0.2.2.2.2.2.size : Int) : Value) = v,
    fun τ v => (.int .i64 (min (a0.2.2.2.2.2.size : Int) 80) : Value) = v,
    fun τ v => (.string (a0.2.2.2.2.2.extract 0 (min (a0.2.2.2.2.2.size : Int) 80).toNat) : Value) = v,
    fun τ v => (.pointer (some ⟨b5, 9, none⟩) : Value) = v,
    fun _ _ => True]) (tlII [[fun τ u F => F = [[(b5, .cells [.int .i64 a0.1, .int .i64 (a0.2.1.getD 0 0), .int .i64 (a0.2.1.getD 1 0), .int .i64 (a0.2.1.getD 2 0), .int .i64 (a0.2.1.getD 3 0), .int .i64 (a0.2.1.getD 4 0), .int .i64 (a0.2.1.getD 5 0), v15, v13, .string a0.2.2.2.2.1, .string a0.2.2.2.2.2].toArray 26 (0, 0))]],
    fun τ u F => F = [[(b5, .cells [.int .i64 a0.1, .int .i64 (a0.2.1.getD 0 0), .int .i64 (a0.2.1.getD 1 0), .int .i64 (a0.2.1.getD 2 0), .int .i64 (a0.2.1.getD 3 0), .int .i64 (a0.2.1.getD 4 0), .int .i64 (a0.2.1.getD 5 0), v15, v13, .string (a0.2.2.2.2.1.extract 0 (min (a0.2.2.2.2.1.size : Int) 80).toNat), .string a0.2.2.2.2.2].toArray 26 (0, 0))]]]]) z_mix ?_ (tl_mono ⟨fun _ _ _ _ h => h, ⟨fun _ _ _ _ h => h, ⟨fun _ _ _ _ h => h, ⟨fun _ _ _ _ h => h, ⟨fun _ _ _ _ h => h, ⟨fun _ _ _ _ h => h, ⟨fun _ _ _ _ h => h, ⟨fun _ _ _ _ h => h, ⟨fun _ _ _ _ h => h, ⟨fun _ _ _ _ h => h, ⟨fun _ _ _ _ h => h, ⟨fun _ _ _ _ h => h, ⟨fun _ _ _ _ h => h, ⟨fun _ _ _ _ h => h, ⟨fun _ _ _ _ h => h, ⟨fun _ _ _ _ _ => trivial, trivial⟩⟩⟩⟩⟩⟩⟩⟩⟩⟩⟩⟩⟩⟩⟩⟩) (tlII_mono ⟨⟨fun _ _ _ _ hl h => h, ⟨fun _ _ _ _ hl h => h, trivial⟩⟩, trivial⟩) ?_ ?_ ?_ (allB_cons (allB_cons (allB_cons (allB_cons (allB_cons (allB_cons (allB_cons (allB_cons (allB_cons (allB_cons (allB_cons (allB_cons (allB_cons (allB_cons (allB_cons (allB_cons allB_nil ?_) ?_) ?_) ?_) ?_) ?_) ?_) ?_) ?_) ?_) ?_) ?_) ?_) ?_) ?_) ?_) ?_
  · exact rfl
  · exact rfl
  · exact rfl
  · exact rfl
  · intro ρ' τ pool rs hl hd hout hw hk
    refine o_fieldAddr rfl rfl rfl z_field26_4 ((hout 1 rfl).trans rfl) ?_
    exact hk _ _ (Sto.Le.refl _) rfl
  · intro ρ' τ u Fv pool rs hl hI hu hd hout hw hk
    obtain ⟨_, e0, rfl⟩ := hd 0 rfl _ rfl
    have hI0 := hI
    obtain rfl := hI
    refine st_gs [[(b6, .cells [.int .i64 0, .int .i64 0, .int .i64 0, .int .i64 0, .int .i64 0, .int .i64 0, .int .i64 0, .slice none 0 0, .slice none 0 0, .string (bstr []), .string (bstr [])].toArray 26 (0, 0))], [(b5, .cells [.int .i64 a0.1, .int .i64 (a0.2.1.getD 0 0), .int .i64 (a0.2.1.getD 1 0), .int .i64 (a0.2.1.getD 2 0), .int .i64 (a0.2.1.getD 3 0), .int .i64 (a0.2.1.getD 4 0), .int .i64 (a0.2.1.getD 5 0), v15, v13, .string a0.2.2.2.2.1, .string a0.2.2.2.2.2].toArray 26 (0, 0))], pool] rfl ?_
    refine o_load (j := 1) (v := .string a0.2.2.2.2.1) rfl rfl rfl z_sc9 e0 rfl rfl ?_
    exact hk _ _ (Sto.Le.refl _) rfl
  · intro ρ' τ pool rs hl hd hout hw hk
    refine o_fieldAddr rfl rfl rfl z_field26_4 ((hout 1 rfl).trans rfl) ?_
    exact hk _ _ (Sto.Le.refl _) rfl
  · intro ρ' τ u Fv pool rs hl hI hu hd hout hw hk
    obtain ⟨_, e2, rfl⟩ := hd 2 rfl _ rfl
    have hI0 := hI
    obtain rfl := hI
    refine st_gs [[(b6, .cells [.int .i64 0, .int .i64 0, .int .i64 0, .int .i64 0, .int .i64 0, .int .i64 0, .int .i64 0, .slice none 0 0, .slice none 0 0, .string (bstr []), .string (bstr [])].toArray 26 (0, 0))], [(b5, .cells [.int .i64 a0.1, .int .i64 (a0.2.1.getD 0 0), .int .i64 (a0.2.1.getD 1 0), .int .i64 (a0.2.1.getD 2 0), .int .i64 (a0.2.1.getD 3 0), .int .i64 (a0.2.1.getD 4 0), .int .i64 (a0.2.1.getD 5 0), v15, v13, .string a0.2.2.2.2.1, .string a0.2.2.2.2.2].toArray 26 (0, 0))], pool] rfl ?_
    refine o_load (j := 1) (v := .string a0.2.2.2.2.1) rfl rfl rfl z_sc9 e2 rfl rfl ?_
    exact hk _ _ (Sto.Le.refl _) rfl
  · intro ρ' τ pool rs hl hd hout hw hk
    obtain ⟨_, e3, rfl⟩ := hd 3 rfl _ rfl
    refine o_lenS rfl rfl rfl Tryd.underlying9 e3 ?_
    exact hk _ _ (Sto.Le.refl _) rfl
  · intro ρ' τ pool rs hl hd hout hw hk
    obtain ⟨_, e4, rfl⟩ := hd 4 rfl _ rfl
    refine o_min2 rfl rfl rfl e4 rfl ?_
    exact hk _ _ (Sto.Le.refl _) rfl
  · intro ρ' τ pool rs hl hd hout hw hk
    obtain ⟨_, e1, rfl⟩ := hd 1 rfl _ rfl
    obtain ⟨_, e5, rfl⟩ := hd 5 rfl _ rfl
    refine o_sliceSh rfl rfl rfl Tryd.underlying9 e1 e5 hf18 hf19 ?_
    exact hk _ _ (Sto.Le.refl _) rfl
  · intro ρ' τ pool rs hl hd hout hw hk
    refine o_fieldAddr rfl rfl rfl z_field26_5 ((hout 1 rfl).trans rfl) ?_
    exact hk _ _ (Sto.Le.refl _) rfl
  · intro ρ' τ u Fv pool rs hl hI hu hd hout hw hk
    obtain ⟨_, e7, rfl⟩ := hd 7 rfl _ rfl
    have hI0 := hI
    obtain rfl := hI
    refine st_gs [[(b6, .cells [.int .i64 0, .int .i64 0, .int .i64 0, .int .i64 0, .int .i64 0, .int .i64 0, .int .i64 0, .slice none 0 0, .slice none 0 0, .string (bstr []), .string (bstr [])].toArray 26 (0, 0))], [(b5, .cells [.int .i64 a0.1, .int .i64 (a0.2.1.getD 0 0), .int .i64 (a0.2.1.getD 1 0), .int .i64 (a0.2.1.getD 2 0), .int .i64 (a0.2.1.getD 3 0), .int .i64 (a0.2.1.getD 4 0), .int .i64 (a0.2.1.getD 5 0), v15, v13, .string a0.2.2.2.2.1, .string a0.2.2.2.2.2].toArray 26 (0, 0))], pool] rfl ?_
    refine o_load (j := 1) (v := .string a0.2.2.2.2.2) rfl rfl rfl z_sc9 e7 rfl rfl ?_
    exact hk _ _ (Sto.Le.refl _) rfl
  · intro ρ' τ pool rs hl hd hout hw hk
    refine o_fieldAddr rfl rfl rfl z_field26_5 ((hout 1 rfl).trans rfl) ?_
    exact hk _ _ (Sto.Le.refl _) rfl
  · intro ρ' τ u Fv pool rs hl hI hu hd hout hw hk
    obtain ⟨_, e9, rfl⟩ := hd 9 rfl _ rfl
    have hI0 := hI
    obtain rfl := hI
    refine st_gs [[(b6, .cells [.int .i64 0, .int .i64 0, .int .i64 0, .int .i64 0, .int .i64 0, .int .i64 0, .int .i64 0, .slice none 0 0, .slice none 0 0, .string (bstr []), .string (bstr [])].toArray 26 (0, 0))], [(b5, .cells [.int .i64 a0.1, .int .i64 (a0.2.1.getD 0 0), .int .i64 (a0.2.1.getD 1 0), .int .i64 (a0.2.1.getD 2 0), .int .i64 (a0.2.1.getD 3 0), .int .i64 (a0.2.1.getD 4 0), .int .i64 (a0.2.1.getD 5 0), v15, v13, .string a0.2.2.2.2.1, .string a0.2.2.2.2.2].toArray 26 (0, 0))], pool] rfl ?_
    refine o_load (j := 1) (v := .string a0.2.2.2.2.2) rfl rfl rfl z_sc9 e9 rfl rfl ?_
    exact hk _ _ (Sto.Le.refl _) rfl
  · intro ρ' τ pool rs hl hd hout hw hk
    obtain ⟨_, e10, rfl⟩ := hd 10 rfl _ rfl
    refine o_lenS rfl rfl rfl Tryd.underlying9 e10 ?_
    exact hk _ _ (Sto.Le.refl _) rfl
  · intro ρ' τ pool rs hl hd hout hw hk
    obtain ⟨_, e11, rfl⟩ := hd 11 rfl _ rfl
    refine o_min2 rfl rfl rfl e11 rfl ?_
    exact hk _ _ (Sto.Le.refl _) rfl
  · intro ρ' τ pool rs hl hd hout hw hk
    obtain ⟨_, e8, rfl⟩ := hd 8 rfl _ rfl
    obtain ⟨_, e12, rfl⟩ := hd 12 rfl _ rfl
    refine o_sliceSh rfl rfl rfl Tryd.underlying9 e8 e12 hf20 hf21 ?_
    exact hk _ _ (Sto.Le.refl _) rfl
  · intro ρ' τ pool rs hl hd hout hw hk
    refine o_fieldAddr rfl rfl rfl z_field26_4 ((hout 1 rfl).trans rfl) ?_
    exact hk _ _ (Sto.Le.refl _) rfl
  · intro ρ' τ u Fv pool rs hl hI hu hd hout hw hk
    obtain ⟨_, e6, rfl⟩ := hd 6 rfl _ rfl
    obtain ⟨_, e14, rfl⟩ := hd 14 rfl _ rfl
    have hI0 := hI
    obtain rfl := hI
    refine st_gs [[(b6, .cells [.int .i64 0, .int .i64 0, .int .i64 0, .int .i64 0, .int .i64 0, .int .i64 0, .int .i64 0, .slice none 0 0, .slice none 0 0, .string (bstr []), .string (bstr [])].toArray 26 (0, 0))], [(b5, .cells [.int .i64 a0.1, .int .i64 (a0.2.1.getD 0 0), .int .i64 (a0.2.1.getD 1 0), .int .i64 (a0.2.1.getD 2 0), .int .i64 (a0.2.1.getD 3 0), .int .i64 (a0.2.1.getD 4 0), .int .i64 (a0.2.1.getD 5 0), v15, v13, .string a0.2.2.2.2.1, .string a0.2.2.2.2.2].toArray 26 (0, 0))], pool] rfl ?_
    refine o_store (j := 1) (vs := [.string (a0.2.2.2.2.1.extract 0 (min (a0.2.2.2.2.1.size : Int) 80).toNat)]) (cs' := [.int .i64 a0.1, .int .i64 (a0.2.1.getD 0 0), .int .i64 (a0.2.1.getD 1 0), .int .i64 (a0.2.1.getD 2 0), .int .i64 (a0.2.1.getD 3 0), .int .i64 (a0.2.1.getD 4 0), .int .i64 (a0.2.1.getD 5 0), v15, v13, .string (a0.2.2.2.2.1.extract 0 (min (a0.2.2.2.2.1.size : Int) 80).toNat), .string a0.2.2.2.2.2]) rfl rfl rfl z_size9 e14 e6 rfl (ones_cons rfl ones_nil) rfl rfl rfl ?_
    refine st_gs [[(b6, .cells [.int .i64 0, .int .i64 0, .int .i64 0, .int .i64 0, .int .i64 0, .int .i64 0, .int .i64 0, .slice none 0 0, .slice none 0 0, .string (bstr []), .string (bstr [])].toArray 26 (0, 0))], [(b5, .cells [.int .i64 a0.1, .int .i64 (a0.2.1.getD 0 0), .int .i64 (a0.2.1.getD 1 0), .int .i64 (a0.2.1.getD 2 0), .int .i64 (a0.2.1.getD 3 0), .int .i64 (a0.2.1.getD 4 0), .int .i64 (a0.2.1.getD 5 0), v15, v13, .string (a0.2.2.2.2.1.extract 0 (min (a0.2.2.2.2.1.size : Int) 80).toNat), .string a0.2.2.2.2.2].toArray 26 (0, 0))], pool] rfl ?_
    exact hk _ _ [[(b5, .cells [.int .i64 a0.1, .int .i64 (a0.2.1.getD 0 0), .int .i64 (a0.2.1.getD 1 0), .int .i64 (a0.2.1.getD 2 0), .int .i64 (a0.2.1.getD 3 0), .int .i64 (a0.2.1.getD 4 0), .int .i64 (a0.2.1.getD 5 0), v15, v13, .string (a0.2.2.2.2.1.extract 0 (min (a0.2.2.2.2.1.size : Int) 80).toNat), .string a0.2.2.2.2.2].toArray 26 (0, 0))]] (Sto.Le.refl _) trivial (by exact rfl)
  intro ρ' τ22 vals u Fv hl22 hI hu hv hout
  have l13 : Eng.look ρ' 32 = some (.string (a0.2.2.2.2.2.extract 0 (min (a0.2.2.2.2.2.size : Int) 80).toNat)) := ((hv 13 (by decide)).1 _ rfl).trans (congrArg some (show vals 13 = .string (a0.2.2.2.2.2.extract 0 (min (a0.2.2.2.2.2.size : Int) 80).toNat) from Eq.symm (hv 13 (by decide)).2))
  obtain rfl := hI
  refine st_gs [[(b6, .cells [.int .i64 0, .int .i64 0, .int .i64 0, .int .i64 0, .int .i64 0, .int .i64 0, .int .i64 0, .slice none 0 0, .slice none 0 0, .string (bstr []), .string (bstr [])].toArray 26 (0, 0))], [(b5, .cells [.int .i64 a0.1, .int .i64 (a0.2.1.getD 0 0), .int .i64 (a0.2.1.getD 1 0), .int .i64 (a0.2.1.getD 2 0), .int .i64 (a0.2.1.getD 3 0), .int .i64 (a0.2.1.getD 4 0), .int .i64 (a0.2.1.getD 5 0), v15, v13, .string (a0.2.2.2.2.1.extract 0 (min (a0.2.2.2.2.1.size : Int) 80).toNat), .string a0.2.2.2.2.2].toArray 26 (0, 0))]] rfl ?_
  refine st_env (ρ' := [(32, .string (a0.2.2.2.2.2.extract 0 (min (a0.2.2.2.2.2.size : Int) 80).toNat)), (1, .pointer (some ⟨b5, 0, none⟩)), (2, .pointer (some ⟨b6, 0, none⟩))]) ⟨l13, (hout 1 rfl).trans rfl, (hout 2 rfl).trans rfl, trivial⟩ ?_
  refine o_fieldAddr rfl rfl rfl z_field26_5 rfl ?_
  refine o_store (j := 1) (vs := [.string (a0.2.2.2.2.2.extract 0 (min (a0.2.2.2.2.2.size : Int) 80).toNat)]) (cs' := [.int .i64 a0.1, .int .i64 (a0.2.1.getD 0 0), .int .i64 (a0.2.1.getD 1 0), .int .i64 (a0.2.1.getD 2 0), .int .i64 (a0.2.1.getD 3 0), .int .i64 (a0.2.1.getD 4 0), .int .i64 (a0.2.1.getD 5 0), v15, v13, .string (a0.2.2.2.2.1.extract 0 (min (a0.2.2.2.2.1.size : Int) 80).toNat), .string (a0.2.2.2.2.2.extract 0 (min (a0.2.2.2.2.2.size : Int) 80).toNat)]) rfl rfl rfl z_size9 rfl rfl rfl (ones_cons rfl ones_nil) rfl rfl rfl ?_
  refine st_gs [[(b6, .cells [.int .i64 0, .int .i64 0, .int .i64 0, .int .i64 0, .int .i64 0, .int .i64 0, .int .i64 0, .slice none 0 0, .slice none 0 0, .string (bstr []), .string (bstr [])].toArray 26 (0, 0))], [(b5, .cells [.int .i64 a0.1, .int .i64 (a0.2.1.getD 0 0), .int .i64 (a0.2.1.getD 1 0), .int .i64 (a0.2.1.getD 2 0), .int .i64 (a0.2.1.getD 3 0), .int .i64 (a0.2.1.getD 4 0), .int .i64 (a0.2.1.getD 5 0), v15, v13, .string (a0.2.2.2.2.1.extract 0 (min (a0.2.2.2.2.1.size : Int) 80).toNat), .string (a0.2.2.2.2.2.extract 0 (min (a0.2.2.2.2.2.size : Int) 80).toNat)].toArray 26 (0, 0))]] rfl ?_
  refine Z 3 rfl ?_
  refine o_loadN (j := 1) (vs := [.int .i64 a0.1, .int .i64 (a0.2.1.getD 0 0), .int .i64 (a0.2.1.getD 1 0), .int .i64 (a0.2.1.getD 2 0), .int .i64 (a0.2.1.getD 3 0), .int .i64 (a0.2.1.getD 4 0), .int .i64 (a0.2.1.getD 5 0), v15, v13, .string (a0.2.2.2.2.1.extract 0 (min (a0.2.2.2.2.1.size : Int) 80).toNat), .string (a0.2.2.2.2.2.extract 0 (min (a0.2.2.2.2.2.size : Int) 80).toNat)]) rfl rfl rfl z_agg26 rfl rfl rfl ?_
  refine o_store (j := 0) (vs := [.int .i64 a0.1, .int .i64 (a0.2.1.getD 0 0), .int .i64 (a0.2.1.getD 1 0), .int .i64 (a0.2.1.getD 2 0), .int .i64 (a0.2.1.getD 3 0), .int .i64 (a0.2.1.getD 4 0), .int .i64 (a0.2.1.getD 5 0), v15, v13, .string (a0.2.2.2.2.1.extract 0 (min (a0.2.2.2.2.1.size : Int) 80).toNat), .string (a0.2.2.2.2.2.extract 0 (min (a0.2.2.2.2.2.size : Int) 80).toNat)]) (cs' := [.int .i64 a0.1, .int .i64 (a0.2.1.getD 0 0), .int .i64 (a0.2.1.getD 1 0), .int .i64 (a0.2.1.getD 2 0), .int .i64 (a0.2.1.getD 3 0), .int .i64 (a0.2.1.getD 4 0), .int .i64 (a0.2.1.getD 5 0), v15, v13, .string (a0.2.2.2.2.1.extract 0 (min (a0.2.2.2.2.1.size : Int) 80).toNat), .string (a0.2.2.2.2.2.extract 0 (min (a0.2.2.2.2.2.size : Int) 80).toNat)]) rfl rfl rfl z_size26 rfl rfl rfl (ones_cons rfl (ones_cons rfl (ones_cons rfl (ones_cons rfl (ones_cons rfl (ones_cons rfl (ones_cons rfl (ones_cons (hs16.up hl22).one' (ones_cons (hs14.up hl22).one' (ones_cons rfl (ones_cons rfl ones_nil))))))))))) rfl rfl rfl ?_
  refine st_gs [[(b6, .cells [.int .i64 a0.1, .int .i64 (a0.2.1.getD 0 0), .int .i64 (a0.2.1.getD 1 0), .int .i64 (a0.2.1.getD 2 0), .int .i64 (a0.2.1.getD 3 0), .int .i64 (a0.2.1.getD 4 0), .int .i64 (a0.2.1.getD 5 0), v15, v13, .string (a0.2.2.2.2.1.extract 0 (min (a0.2.2.2.2.1.size : Int) 80).toNat), .string (a0.2.2.2.2.2.extract 0 (min (a0.2.2.2.2.2.size : Int) 80).toNat)].toArray 26 (0, 0))], [(b5, .cells [.int .i64 a0.1, .int .i64 (a0.2.1.getD 0 0), .int .i64 (a0.2.1.getD 1 0), .int .i64 (a0.2.1.getD 2 0), .int .i64 (a0.2.1.getD 3 0), .int .i64 (a0.2.1.getD 4 0), .int .i64 (a0.2.1.getD 5 0), v15, v13, .string (a0.2.2.2.2.1.extract 0 (min (a0.2.2.2.2.1.size : Int) 80).toNat), .string (a0.2.2.2.2.2.extract 0 (min (a0.2.2.2.2.2.size : Int) 80).toNat)].toArray 26 (0, 0))]] rfl ?_
  refine st_end ?_
  obtain rfl := Eq.symm h
  exact st_retC (gs' := []) [.agg [.int .i64 a0.1, .int .i64 (a0.2.1.getD 0 0), .int .i64 (a0.2.1.getD 1 0), .int .i64 (a0.2.1.getD 2 0), .int .i64 (a0.2.1.getD 3 0), .int .i64 (a0.2.1.getD 4 0), .int .i64 (a0.2.1.getD 5 0), v15, v13, .string (a0.2.2.2.2.1.extract 0 (min (a0.2.2.2.2.1.size : Int) 80).toNat), .string (a0.2.2.2.2.2.extract 0 (min (a0.2.2.2.2.2.size : Int) 80).toNat)].toArray] Tryd.func11 ⟨⟨_, _, _, _, rfl, mem_flat 0 rfl, fun w hw => cellOfN (vs := [.int .i64 a0.1, .int .i64 (a0.2.1.getD 0 0), .int .i64 (a0.2.1.getD 1 0), .int .i64 (a0.2.1.getD 2 0), .int .i64 (a0.2.1.getD 3 0), .int .i64 (a0.2.1.getD 4 0), .int .i64 (a0.2.1.getD 5 0), v15, v13, .string (a0.2.2.2.2.1.extract 0 (min (a0.2.2.2.2.1.size : Int) 80).toNat), .string (a0.2.2.2.2.2.extract 0 (min (a0.2.2.2.2.2.size : Int) 80).toNat)]) z_agg26 rfl w hw⟩, trivial⟩ (by simp) (hl17.trans hl22) ⟨_, _, rfl, rfl, (hs16.up hl22), (hs14.up hl22)⟩
theorem field_robot_ok  {r : (ByteArray × Int × Int × Int × Int × Int × Int)} (h : field_robot r) (σ : Sto)  :
    Does Tryd.prog 106 [] σ [] (fun v τ gs => gs = [] ∧ .agg [.string r.1, .int .i64 r.2.1, .int .i64 r.2.2.1, .int .i64 r.2.2.2.1, .int .i64 r.2.2.2.2.1, .int .i64 r.2.2.2.2.2.1, .int .i64 r.2.2.2.2.2.2].toArray = v) := by
  refine call_of Tryd.func106 Tryd.ntmps106 rfl rfl (fun cs fs => ?_)
  refine Z 2 rfl ?_
  refine o_alloc rfl rfl rfl z_zero121 (fun b1 => ?_)
  refine Z 3 rfl ?_
  refine o_build (ps := [(0, [.string (bstr [114, 111, 98, 111, 116])]), (1, [.int .i64 1]), (2, [.int .i64 0]), (3, [.int .i64 0]), (4, [.int .i64 65535]), (5, [.int .i64 1]), (6, [.int .i64 0])]) (cs := [.string (bstr [114, 111, 98, 111, 116]), .int .i64 1, .int .i64 0, .int .i64 0, .int .i64 65535, .int .i64 1, .int .i64 0]) rfl rfl rfl z_struct121 ⟨rfl, ⟨_, (ev_str z_str0), rfl⟩, ⟨rfl, ⟨_, rfl, rfl⟩, ⟨rfl, ⟨_, rfl, rfl⟩, ⟨rfl, ⟨_, rfl, rfl⟩, ⟨rfl, ⟨_, rfl, rfl⟩, ⟨rfl, ⟨_, rfl, rfl⟩, ⟨rfl, ⟨_, rfl, rfl⟩, trivial⟩⟩⟩⟩⟩⟩⟩ rfl ?_
  refine o_store (j := 0) (vs := [.string (bstr [114, 111, 98, 111, 116]), .int .i64 1, .int .i64 0, .int .i64 0, .int .i64 65535, .int .i64 1, .int .i64 0]) (cs' := [.string (bstr [114, 111, 98, 111, 116]), .int .i64 1, .int .i64 0, .int .i64 0, .int .i64 65535, .int .i64 1, .int .i64 0]) rfl rfl rfl z_size121 rfl rfl rfl (ones_cons rfl (ones_cons rfl (ones_cons rfl (ones_cons rfl (ones_cons rfl (ones_cons rfl (ones_cons rfl ones_nil))))))) rfl rfl rfl ?_
  refine st_gs [[(b1, .cells [.string (bstr [114, 111, 98, 111, 116]), .int .i64 1, .int .i64 0, .int .i64 0, .int .i64 65535, .int .i64 1, .int .i64 0].toArray 121 (0, 0))]] rfl ?_
  refine st_end ?_
  obtain rfl := Eq.symm h
  exact st_retC (gs' := []) [.agg [.string (bstr [114, 111, 98, 111, 116]), .int .i64 1, .int .i64 0, .int .i64 0, .int .i64 65535, .int .i64 1, .int .i64 0].toArray] Tryd.func106 ⟨⟨_, _, _, _, rfl, mem_flat 0 rfl, fun w hw => cellOfN (vs := [.string (bstr [114, 111, 98, 111, 116]), .int .i64 1, .int .i64 0, .int .i64 0, .int .i64 65535, .int .i64 1, .int .i64 0]) z_agg121 rfl w hw⟩, trivial⟩ (by simp) (Sto.Le.refl _) ⟨rfl, rfl⟩
theorem field_Of_ok {a0 : Int} {r : (List (ByteArray × Int × Int × Int × Int × Int × Int))} (h : field_Of a0 r) (σ : Sto)  :
    Does Tryd.prog 66 [.int .i64 a0] σ [] (fun v τ gs => ∃ (v61 : Value), gs = [] ∧ v61 = v ∧ Sl (kP kS (kP (kI .i64) (kP (kI .i64) (kP (kI .i64) (kP (kI .i64) (kP (kI .i64) (kI .i64))))))) τ v61 r) := by
  refine call_of Tryd.func66 Tryd.ntmps66 rfl rfl (fun cs fs => ?_)
  refine Z 15 rfl ?_
  refine st_cond rfl (fun hc => ?_) (fun hc => ?_)
  · replace h := (if_pos hc).mp h
    refine Z 2 rfl ?_
    obtain ⟨r1, hr2, h⟩ := h
    refine st_call (foot := []) rfl rfl rfl rfl rfl rfl (callV_fn z_en106 (field_robot_ok hr2 σ)) ?_
    rintro vτ3 τ3 gsτ3 hl4 ⟨rfl, rfl⟩
    refine o_build (ps := [(0, [.string (bstr [115, 112, 101, 101, 100])]), (1, [.int .i64 1]), (2, [.int .i64 1]), (3, [.int .i64 1]), (4, [.int .i64 5000]), (5, [.int .i64 1]), (6, [.int .i64 0])]) (cs := [.string (bstr [115, 112, 101, 101, 100]), .int .i64 1, .int .i64 1, .int .i64 1, .int .i64 5000, .int .i64 1, .int .i64 0]) rfl rfl rfl z_struct121 ⟨rfl, ⟨_, (ev_str z_str1), rfl⟩, ⟨rfl, ⟨_, rfl, rfl⟩, ⟨rfl, ⟨_, rfl, rfl⟩, ⟨rfl, ⟨_, rfl, rfl⟩, ⟨rfl, ⟨_, rfl, rfl⟩, ⟨rfl, ⟨_, rfl, rfl⟩, ⟨rfl, ⟨_, rfl, rfl⟩, trivial⟩⟩⟩⟩⟩⟩⟩ rfl ?_
    refine o_build (ps := [(0, [.string (bstr [97, 99, 99, 101, 108])]), (1, [.int .i64 1]), (2, [.int .i64 2]), (3, [.int .i64 1]), (4, [.int .i64 10000]), (5, [.int .i64 2]), (6, [.int .i64 500])]) (cs := [.string (bstr [97, 99, 99, 101, 108]), .int .i64 1, .int .i64 2, .int .i64 1, .int .i64 10000, .int .i64 2, .int .i64 500]) rfl rfl rfl z_struct121 ⟨rfl, ⟨_, (ev_str z_str2), rfl⟩, ⟨rfl, ⟨_, rfl, rfl⟩, ⟨rfl, ⟨_, rfl, rfl⟩, ⟨rfl, ⟨_, rfl, rfl⟩, ⟨rfl, ⟨_, rfl, rfl⟩, ⟨rfl, ⟨_, rfl, rfl⟩, ⟨rfl, ⟨_, rfl, rfl⟩, trivial⟩⟩⟩⟩⟩⟩⟩ rfl ?_
    refine o_build (ps := [(0, [.string (bstr [112, 97, 116, 104])]), (1, [.int .i64 3]), (2, [.int .i64 (-1)]), (3, [.int .i64 1]), (4, [.int .i64 16]), (5, [.int .i64 1]), (6, [.int .i64 0])]) (cs := [.string (bstr [112, 97, 116, 104]), .int .i64 3, .int .i64 (-1), .int .i64 1, .int .i64 16, .int .i64 1, .int .i64 0]) rfl rfl rfl z_struct121 ⟨rfl, ⟨_, (ev_str z_str3), rfl⟩, ⟨rfl, ⟨_, rfl, rfl⟩, ⟨rfl, ⟨_, rfl, rfl⟩, ⟨rfl, ⟨_, rfl, rfl⟩, ⟨rfl, ⟨_, rfl, rfl⟩, ⟨rfl, ⟨_, rfl, rfl⟩, ⟨rfl, ⟨_, rfl, rfl⟩, trivial⟩⟩⟩⟩⟩⟩⟩ rfl ?_
    refine o_build (ps := [(0, [.string (bstr [116, 97, 103])]), (1, [.int .i64 6]), (2, [.int .i64 (-1)]), (3, [.int .i64 0]), (4, [.int .i64 16]), (5, [.int .i64 2]), (6, [.int .i64 0])]) (cs := [.string (bstr [116, 97, 103]), .int .i64 6, .int .i64 (-1), .int .i64 0, .int .i64 16, .int .i64 2, .int .i64 0]) rfl rfl rfl z_struct121 ⟨rfl, ⟨_, (ev_str z_str4), rfl⟩, ⟨rfl, ⟨_, rfl, rfl⟩, ⟨rfl, ⟨_, rfl, rfl⟩, ⟨rfl, ⟨_, rfl, rfl⟩, ⟨rfl, ⟨_, rfl, rfl⟩, ⟨rfl, ⟨_, rfl, rfl⟩, ⟨rfl, ⟨_, rfl, rfl⟩, trivial⟩⟩⟩⟩⟩⟩⟩ rfl ?_
    refine o_lit (dk := (kP kS (kP (kI .i64) (kP (kI .i64) (kP (kI .i64) (kP (kI .i64) (kP (kI .i64) (kI .i64)))))))) (xs := [r1, ((bstr [115, 112, 101, 101, 100]), 1, 1, 1, 5000, 1, 0), ((bstr [97, 99, 99, 101, 108]), 1, 2, 1, 10000, 2, 500), ((bstr [112, 97, 116, 104]), 3, (-1), 1, 16, 1, 0), ((bstr [116, 97, 103]), 6, (-1), 0, 16, 2, 0)]) (ps := [(0, [.string r1.1, .int .i64 r1.2.1, .int .i64 r1.2.2.1, .int .i64 r1.2.2.2.1, .int .i64 r1.2.2.2.2.1, .int .i64 r1.2.2.2.2.2.1, .int .i64 r1.2.2.2.2.2.2]), (1, [.string (bstr [115, 112, 101, 101, 100]), .int .i64 1, .int .i64 1, .int .i64 1, .int .i64 5000, .int .i64 1, .int .i64 0]), (2, [.string (bstr [97, 99, 99, 101, 108]), .int .i64 1, .int .i64 2, .int .i64 1, .int .i64 10000, .int .i64 2, .int .i64 500]), (3, [.string (bstr [112, 97, 116, 104]), .int .i64 3, .int .i64 (-1), .int .i64 1, .int .i64 16, .int .i64 1, .int .i64 0]), (4, [.string (bstr [116, 97, 103]), .int .i64 6, .int .i64 (-1), .int .i64 0, .int .i64 16, .int .i64 2, .int .i64 0])]) (cs := [.string r1.1, .int .i64 r1.2.1, .int .i64 r1.2.2.1, .int .i64 r1.2.2.2.1, .int .i64 r1.2.2.2.2.1, .int .i64 r1.2.2.2.2.2.1, .int .i64 r1.2.2.2.2.2.2, .string (bstr [115, 112, 101, 101, 100]), .int .i64 1, .int .i64 1, .int .i64 1, .int .i64 5000, .int .i64 1, .int .i64 0, .string (bstr [97, 99, 99, 101, 108]), .int .i64 1, .int .i64 2, .int .i64 1, .int .i64 10000, .int .i64 2, .int .i64 500, .string (bstr [112, 97, 116, 104]), .int .i64 3, .int .i64 (-1), .int .i64 1, .int .i64 16, .int .i64 1, .int .i64 0, .string (bstr [116, 97, 103]), .int .i64 6, .int .i64 (-1), .int .i64 0, .int .i64 16, .int .i64 2, .int .i64 0]) rfl rfl rfl z_slT118 z_zero121 ⟨rfl, ⟨_, rfl, rfl⟩, ⟨rfl, ⟨_, rfl, rfl⟩, ⟨rfl, ⟨_, rfl, rfl⟩, ⟨rfl, ⟨_, rfl, rfl⟩, ⟨rfl, ⟨_, rfl, rfl⟩, trivial⟩⟩⟩⟩⟩ rfl rfl rfl rfl (Kd.Many.cons (d := (kP kS (kP (kI .i64) (kP (kI .i64) (kP (kI .i64) (kP (kI .i64) (kP (kI .i64) (kI .i64)))))))) (x := r1) (a := [.string r1.1, .int .i64 r1.2.1, .int .i64 r1.2.2.1, .int .i64 r1.2.2.2.1, .int .i64 r1.2.2.2.2.1, .int .i64 r1.2.2.2.2.2.1, .int .i64 r1.2.2.2.2.2.2]) ⟨[.string r1.1], _, rfl, rfl, ⟨[.int .i64 r1.2.1], _, rfl, rfl, ⟨[.int .i64 r1.2.2.1], _, rfl, rfl, ⟨[.int .i64 r1.2.2.2.1], _, rfl, rfl, ⟨[.int .i64 r1.2.2.2.2.1], _, rfl, rfl, ⟨[.int .i64 r1.2.2.2.2.2.1], _, rfl, rfl, rfl⟩⟩⟩⟩⟩⟩ (Kd.Many.cons (d := (kP kS (kP (kI .i64) (kP (kI .i64) (kP (kI .i64) (kP (kI .i64) (kP (kI .i64) (kI .i64)))))))) (x := ((bstr [115, 112, 101, 101, 100]), 1, 1, 1, 5000, 1, 0)) (a := [.string (bstr [115, 112, 101, 101, 100]), .int .i64 1, .int .i64 1, .int .i64 1, .int .i64 5000, .int .i64 1, .int .i64 0]) ⟨[.string (bstr [115, 112, 101, 101, 100])], _, rfl, rfl, ⟨[.int .i64 1], _, rfl, rfl, ⟨[.int .i64 1], _, rfl, rfl, ⟨[.int .i64 1], _, rfl, rfl, ⟨[.int .i64 5000], _, rfl, rfl, ⟨[.int .i64 1], _, rfl, rfl, rfl⟩⟩⟩⟩⟩⟩ (Kd.Many.cons (d := (kP kS (kP (kI .i64) (kP (kI .i64) (kP (kI .i64) (kP (kI .i64) (kP (kI .i64) (kI .i64)))))))) (x := ((bstr [97, 99, 99, 101, 108]), 1, 2, 1, 10000, 2, 500)) (a := [.string (bstr [97, 99, 99, 101, 108]), .int .i64 1, .int .i64 2, .int .i64 1, .int .i64 10000, .int .i64 2, .int .i64 500]) ⟨[.string (bstr [97, 99, 99, 101, 108])], _, rfl, rfl, ⟨[.int .i64 1], _, rfl, rfl, ⟨[.int .i64 2], _, rfl, rfl, ⟨[.int .i64 1], _, rfl, rfl, ⟨[.int .i64 10000], _, rfl, rfl, ⟨[.int .i64 2], _, rfl, rfl, rfl⟩⟩⟩⟩⟩⟩ (Kd.Many.cons (d := (kP kS (kP (kI .i64) (kP (kI .i64) (kP (kI .i64) (kP (kI .i64) (kP (kI .i64) (kI .i64)))))))) (x := ((bstr [112, 97, 116, 104]), 3, (-1), 1, 16, 1, 0)) (a := [.string (bstr [112, 97, 116, 104]), .int .i64 3, .int .i64 (-1), .int .i64 1, .int .i64 16, .int .i64 1, .int .i64 0]) ⟨[.string (bstr [112, 97, 116, 104])], _, rfl, rfl, ⟨[.int .i64 3], _, rfl, rfl, ⟨[.int .i64 (-1)], _, rfl, rfl, ⟨[.int .i64 1], _, rfl, rfl, ⟨[.int .i64 16], _, rfl, rfl, ⟨[.int .i64 1], _, rfl, rfl, rfl⟩⟩⟩⟩⟩⟩ (Kd.Many.cons (d := (kP kS (kP (kI .i64) (kP (kI .i64) (kP (kI .i64) (kP (kI .i64) (kP (kI .i64) (kI .i64)))))))) (x := ((bstr [116, 97, 103]), 6, (-1), 0, 16, 2, 0)) (a := [.string (bstr [116, 97, 103]), .int .i64 6, .int .i64 (-1), .int .i64 0, .int .i64 16, .int .i64 2, .int .i64 0]) ⟨[.string (bstr [116, 97, 103])], _, rfl, rfl, ⟨[.int .i64 6], _, rfl, rfl, ⟨[.int .i64 (-1)], _, rfl, rfl, ⟨[.int .i64 0], _, rfl, rfl, ⟨[.int .i64 16], _, rfl, rfl, ⟨[.int .i64 2], _, rfl, rfl, rfl⟩⟩⟩⟩⟩⟩ Kd.Many.nil))))) (fun v5 g6 ho7 => ?_)
    refine Z 2 rfl ?_
    refine st_freeze (fun τ8 hl9 hg10 => ?_)
    have hs11 := ho7.freeze hl9 hg10
    obtain rfl := Eq.symm h
    exact st_ret (gs' := []) Tryd.func66 rfl (List.Sublist.refl _) (hl4.trans hl9) ⟨_, rfl, rfl, hs11⟩
  · replace h := (if_neg (ne_t hc)).mp h
    refine Z 5 rfl ?_
    refine st_cond rfl (fun hc => ?_) (fun hc => ?_)
    · replace h := (if_pos hc).mp h
      refine Z 2 rfl ?_
      obtain ⟨r13, hr14, h⟩ := h
      refine st_call (foot := []) rfl rfl rfl rfl rfl rfl (callV_fn z_en106 (field_robot_ok hr14 σ)) ?_
      rintro vτ15 τ15 gsτ15 hl16 ⟨rfl, rfl⟩
      refine o_build (ps := [(0, [.string (bstr [114, 101, 97, 115, 111, 110])]), (1, [.int .i64 1]), (2, [.int .i64 1]), (3, [.int .i64 0]), (4, [.int .i64 15]), (5, [.int .i64 1]), (6, [.int .i64 0])]) (cs := [.string (bstr [114, 101, 97, 115, 111, 110]), .int .i64 1, .int .i64 1, .int .i64 0, .int .i64 15, .int .i64 1, .int .i64 0]) rfl rfl rfl z_struct121 ⟨rfl, ⟨_, (ev_str z_str5), rfl⟩, ⟨rfl, ⟨_, rfl, rfl⟩, ⟨rfl, ⟨_, rfl, rfl⟩, ⟨rfl, ⟨_, rfl, rfl⟩, ⟨rfl, ⟨_, rfl, rfl⟩, ⟨rfl, ⟨_, rfl, rfl⟩, ⟨rfl, ⟨_, rfl, rfl⟩, trivial⟩⟩⟩⟩⟩⟩⟩ rfl ?_
      refine o_build (ps := [(0, [.string (bstr [122, 111, 110, 101])]), (1, [.int .i64 1]), (2, [.int .i64 2]), (3, [.int .i64 0]), (4, [.int .i64 4095]), (5, [.int .i64 2]), (6, [.int .i64 0])]) (cs := [.string (bstr [122, 111, 110, 101]), .int .i64 1, .int .i64 2, .int .i64 0, .int .i64 4095, .int .i64 2, .int .i64 0]) rfl rfl rfl z_struct121 ⟨rfl, ⟨_, (ev_str z_str6), rfl⟩, ⟨rfl, ⟨_, rfl, rfl⟩, ⟨rfl, ⟨_, rfl, rfl⟩, ⟨rfl, ⟨_, rfl, rfl⟩, ⟨rfl, ⟨_, rfl, rfl⟩, ⟨rfl, ⟨_, rfl, rfl⟩, ⟨rfl, ⟨_, rfl, rfl⟩, trivial⟩⟩⟩⟩⟩⟩⟩ rfl ?_
      refine o_lit (dk := (kP kS (kP (kI .i64) (kP (kI .i64) (kP (kI .i64) (kP (kI .i64) (kP (kI .i64) (kI .i64)))))))) (xs := [r13, ((bstr [114, 101, 97, 115, 111, 110]), 1, 1, 0, 15, 1, 0), ((bstr [122, 111, 110, 101]), 1, 2, 0, 4095, 2, 0)]) (ps := [(0, [.string r13.1, .int .i64 r13.2.1, .int .i64 r13.2.2.1, .int .i64 r13.2.2.2.1, .int .i64 r13.2.2.2.2.1, .int .i64 r13.2.2.2.2.2.1, .int .i64 r13.2.2.2.2.2.2]), (1, [.string (bstr [114, 101, 97, 115, 111, 110]), .int .i64 1, .int .i64 1, .int .i64 0, .int .i64 15, .int .i64 1, .int .i64 0]), (2, [.string (bstr [122, 111, 110, 101]), .int .i64 1, .int .i64 2, .int .i64 0, .int .i64 4095, .int .i64 2, .int .i64 0])]) (cs := [.string r13.1, .int .i64 r13.2.1, .int .i64 r13.2.2.1, .int .i64 r13.2.2.2.1, .int .i64 r13.2.2.2.2.1, .int .i64 r13.2.2.2.2.2.1, .int .i64 r13.2.2.2.2.2.2, .string (bstr [114, 101, 97, 115, 111, 110]), .int .i64 1, .int .i64 1, .int .i64 0, .int .i64 15, .int .i64 1, .int .i64 0, .string (bstr [122, 111, 110, 101]), .int .i64 1, .int .i64 2, .int .i64 0, .int .i64 4095, .int .i64 2, .int .i64 0]) rfl rfl rfl z_slT118 z_zero121 ⟨rfl, ⟨_, rfl, rfl⟩, ⟨rfl, ⟨_, rfl, rfl⟩, ⟨rfl, ⟨_, rfl, rfl⟩, trivial⟩⟩⟩ rfl rfl rfl rfl (Kd.Many.cons (d := (kP kS (kP (kI .i64) (kP (kI .i64) (kP (kI .i64) (kP (kI .i64) (kP (kI .i64) (kI .i64)))))))) (x := r13) (a := [.string r13.1, .int .i64 r13.2.1, .int .i64 r13.2.2.1, .int .i64 r13.2.2.2.1, .int .i64 r13.2.2.2.2.1, .int .i64 r13.2.2.2.2.2.1, .int .i64 r13.2.2.2.2.2.2]) ⟨[.string r13.1], _, rfl, rfl, ⟨[.int .i64 r13.2.1], _, rfl, rfl, ⟨[.int .i64 r13.2.2.1], _, rfl, rfl, ⟨[.int .i64 r13.2.2.2.1], _, rfl, rfl, ⟨[.int .i64 r13.2.2.2.2.1], _, rfl, rfl, ⟨[.int .i64 r13.2.2.2.2.2.1], _, rfl, rfl, rfl⟩⟩⟩⟩⟩⟩ (Kd.Many.cons (d := (kP kS (kP (kI .i64) (kP (kI .i64) (kP (kI .i64) (kP (kI .i64) (kP (kI .i64) (kI .i64)))))))) (x := ((bstr [114, 101, 97, 115, 111, 110]), 1, 1, 0, 15, 1, 0)) (a := [.string (bstr [114, 101, 97, 115, 111, 110]), .int .i64 1, .int .i64 1, .int .i64 0, .int .i64 15, .int .i64 1, .int .i64 0]) ⟨[.string (bstr [114, 101, 97, 115, 111, 110])], _, rfl, rfl, ⟨[.int .i64 1], _, rfl, rfl, ⟨[.int .i64 1], _, rfl, rfl, ⟨[.int .i64 0], _, rfl, rfl, ⟨[.int .i64 15], _, rfl, rfl, ⟨[.int .i64 1], _, rfl, rfl, rfl⟩⟩⟩⟩⟩⟩ (Kd.Many.cons (d := (kP kS (kP (kI .i64) (kP (kI .i64) (kP (kI .i64) (kP (kI .i64) (kP (kI .i64) (kI .i64)))))))) (x := ((bstr [122, 111, 110, 101]), 1, 2, 0, 4095, 2, 0)) (a := [.string (bstr [122, 111, 110, 101]), .int .i64 1, .int .i64 2, .int .i64 0, .int .i64 4095, .int .i64 2, .int .i64 0]) ⟨[.string (bstr [122, 111, 110, 101])], _, rfl, rfl, ⟨[.int .i64 1], _, rfl, rfl, ⟨[.int .i64 2], _, rfl, rfl, ⟨[.int .i64 0], _, rfl, rfl, ⟨[.int .i64 4095], _, rfl, rfl, ⟨[.int .i64 2], _, rfl, rfl, rfl⟩⟩⟩⟩⟩⟩ Kd.Many.nil))) (fun v17 g18 ho19 => ?_)
      refine Z 2 rfl ?_
      refine st_freeze (fun τ20 hl21 hg22 => ?_)
      have hs23 := ho19.freeze hl21 hg22
      obtain rfl := Eq.symm h
      exact st_ret (gs' := []) Tryd.func66 rfl (List.Sublist.refl _) (hl16.trans hl21) ⟨_, rfl, rfl, hs23⟩
    · replace h := (if_neg (ne_t hc)).mp h
      refine Z 5 rfl ?_
      refine st_cond rfl (fun hc => ?_) (fun hc => ?_)
      · replace h := (if_pos hc).mp h
        refine Z 2 rfl ?_
        obtain ⟨r25, hr26, h⟩ := h
        refine st_call (foot := []) rfl rfl rfl rfl rfl rfl (callV_fn z_en106 (field_robot_ok hr26 σ)) ?_
        rintro vτ27 τ27 gsτ27 hl28 ⟨rfl, rfl⟩
        refine o_build (ps := [(0, [.string (bstr [122, 111, 110, 101])]), (1, [.int .i64 1]), (2, [.int .i64 1]), (3, [.int .i64 0]), (4, [.int .i64 4095]), (5, [.int .i64 1]), (6, [.int .i64 0])]) (cs := [.string (bstr [122, 111, 110, 101]), .int .i64 1, .int .i64 1, .int .i64 0, .int .i64 4095, .int .i64 1, .int .i64 0]) rfl rfl rfl z_struct121 ⟨rfl, ⟨_, (ev_str z_str6), rfl⟩, ⟨rfl, ⟨_, rfl, rfl⟩, ⟨rfl, ⟨_, rfl, rfl⟩, ⟨rfl, ⟨_, rfl, rfl⟩, ⟨rfl, ⟨_, rfl, rfl⟩, ⟨rfl, ⟨_, rfl, rfl⟩, ⟨rfl, ⟨_, rfl, rfl⟩, trivial⟩⟩⟩⟩⟩⟩⟩ rfl ?_
        refine o_build (ps := [(0, [.string (bstr [108, 101, 97, 115, 101])]), (1, [.int .i64 1]), (2, [.int .i64 2]), (3, [.int .i64 1]), (4, [.int .i64 255]), (5, [.int .i64 2]), (6, [.int .i64 1])]) (cs := [.string (bstr [108, 101, 97, 115, 101]), .int .i64 1, .int .i64 2, .int .i64 1, .int .i64 255, .int .i64 2, .int .i64 1]) rfl rfl rfl z_struct121 ⟨rfl, ⟨_, (ev_str z_str7), rfl⟩, ⟨rfl, ⟨_, rfl, rfl⟩, ⟨rfl, ⟨_, rfl, rfl⟩, ⟨rfl, ⟨_, rfl, rfl⟩, ⟨rfl, ⟨_, rfl, rfl⟩, ⟨rfl, ⟨_, rfl, rfl⟩, ⟨rfl, ⟨_, rfl, rfl⟩, trivial⟩⟩⟩⟩⟩⟩⟩ rfl ?_
        refine o_build (ps := [(0, [.string (bstr [99, 101, 108, 108, 115])]), (1, [.int .i64 4]), (2, [.int .i64 (-1)]), (3, [.int .i64 1]), (4, [.int .i64 32]), (5, [.int .i64 1]), (6, [.int .i64 0])]) (cs := [.string (bstr [99, 101, 108, 108, 115]), .int .i64 4, .int .i64 (-1), .int .i64 1, .int .i64 32, .int .i64 1, .int .i64 0]) rfl rfl rfl z_struct121 ⟨rfl, ⟨_, (ev_str z_str8), rfl⟩, ⟨rfl, ⟨_, rfl, rfl⟩, ⟨rfl, ⟨_, rfl, rfl⟩, ⟨rfl, ⟨_, rfl, rfl⟩, ⟨rfl, ⟨_, rfl, rfl⟩, ⟨rfl, ⟨_, rfl, rfl⟩, ⟨rfl, ⟨_, rfl, rfl⟩, trivial⟩⟩⟩⟩⟩⟩⟩ rfl ?_
        refine o_lit (dk := (kP kS (kP (kI .i64) (kP (kI .i64) (kP (kI .i64) (kP (kI .i64) (kP (kI .i64) (kI .i64)))))))) (xs := [r25, ((bstr [122, 111, 110, 101]), 1, 1, 0, 4095, 1, 0), ((bstr [108, 101, 97, 115, 101]), 1, 2, 1, 255, 2, 1), ((bstr [99, 101, 108, 108, 115]), 4, (-1), 1, 32, 1, 0)]) (ps := [(0, [.string r25.1, .int .i64 r25.2.1, .int .i64 r25.2.2.1, .int .i64 r25.2.2.2.1, .int .i64 r25.2.2.2.2.1, .int .i64 r25.2.2.2.2.2.1, .int .i64 r25.2.2.2.2.2.2]), (1, [.string (bstr [122, 111, 110, 101]), .int .i64 1, .int .i64 1, .int .i64 0, .int .i64 4095, .int .i64 1, .int .i64 0]), (2, [.string (bstr [108, 101, 97, 115, 101]), .int .i64 1, .int .i64 2, .int .i64 1, .int .i64 255, .int .i64 2, .int .i64 1]), (3, [.string (bstr [99, 101, 108, 108, 115]), .int .i64 4, .int .i64 (-1), .int .i64 1, .int .i64 32, .int .i64 1, .int .i64 0])]) (cs := [.string r25.1, .int .i64 r25.2.1, .int .i64 r25.2.2.1, .int .i64 r25.2.2.2.1, .int .i64 r25.2.2.2.2.1, .int .i64 r25.2.2.2.2.2.1, .int .i64 r25.2.2.2.2.2.2, .string (bstr [122, 111, 110, 101]), .int .i64 1, .int .i64 1, .int .i64 0, .int .i64 4095, .int .i64 1, .int .i64 0, .string (bstr [108, 101, 97, 115, 101]), .int .i64 1, .int .i64 2, .int .i64 1, .int .i64 255, .int .i64 2, .int .i64 1, .string (bstr [99, 101, 108, 108, 115]), .int .i64 4, .int .i64 (-1), .int .i64 1, .int .i64 32, .int .i64 1, .int .i64 0]) rfl rfl rfl z_slT118 z_zero121 ⟨rfl, ⟨_, rfl, rfl⟩, ⟨rfl, ⟨_, rfl, rfl⟩, ⟨rfl, ⟨_, rfl, rfl⟩, ⟨rfl, ⟨_, rfl, rfl⟩, trivial⟩⟩⟩⟩ rfl rfl rfl rfl (Kd.Many.cons (d := (kP kS (kP (kI .i64) (kP (kI .i64) (kP (kI .i64) (kP (kI .i64) (kP (kI .i64) (kI .i64)))))))) (x := r25) (a := [.string r25.1, .int .i64 r25.2.1, .int .i64 r25.2.2.1, .int .i64 r25.2.2.2.1, .int .i64 r25.2.2.2.2.1, .int .i64 r25.2.2.2.2.2.1, .int .i64 r25.2.2.2.2.2.2]) ⟨[.string r25.1], _, rfl, rfl, ⟨[.int .i64 r25.2.1], _, rfl, rfl, ⟨[.int .i64 r25.2.2.1], _, rfl, rfl, ⟨[.int .i64 r25.2.2.2.1], _, rfl, rfl, ⟨[.int .i64 r25.2.2.2.2.1], _, rfl, rfl, ⟨[.int .i64 r25.2.2.2.2.2.1], _, rfl, rfl, rfl⟩⟩⟩⟩⟩⟩ (Kd.Many.cons (d := (kP kS (kP (kI .i64) (kP (kI .i64) (kP (kI .i64) (kP (kI .i64) (kP (kI .i64) (kI .i64)))))))) (x := ((bstr [122, 111, 110, 101]), 1, 1, 0, 4095, 1, 0)) (a := [.string (bstr [122, 111, 110, 101]), .int .i64 1, .int .i64 1, .int .i64 0, .int .i64 4095, .int .i64 1, .int .i64 0]) ⟨[.string (bstr [122, 111, 110, 101])], _, rfl, rfl, ⟨[.int .i64 1], _, rfl, rfl, ⟨[.int .i64 1], _, rfl, rfl, ⟨[.int .i64 0], _, rfl, rfl, ⟨[.int .i64 4095], _, rfl, rfl, ⟨[.int .i64 1], _, rfl, rfl, rfl⟩⟩⟩⟩⟩⟩ (Kd.Many.cons (d := (kP kS (kP (kI .i64) (kP (kI .i64) (kP (kI .i64) (kP (kI .i64) (kP (kI .i64) (kI .i64)))))))) (x := ((bstr [108, 101, 97, 115, 101]), 1, 2, 1, 255, 2, 1)) (a := [.string (bstr [108, 101, 97, 115, 101]), .int .i64 1, .int .i64 2, .int .i64 1, .int .i64 255, .int .i64 2, .int .i64 1]) ⟨[.string (bstr [108, 101, 97, 115, 101])], _, rfl, rfl, ⟨[.int .i64 1], _, rfl, rfl, ⟨[.int .i64 2], _, rfl, rfl, ⟨[.int .i64 1], _, rfl, rfl, ⟨[.int .i64 255], _, rfl, rfl, ⟨[.int .i64 2], _, rfl, rfl, rfl⟩⟩⟩⟩⟩⟩ (Kd.Many.cons (d := (kP kS (kP (kI .i64) (kP (kI .i64) (kP (kI .i64) (kP (kI .i64) (kP (kI .i64) (kI .i64)))))))) (x := ((bstr [99, 101, 108, 108, 115]), 4, (-1), 1, 32, 1, 0)) (a := [.string (bstr [99, 101, 108, 108, 115]), .int .i64 4, .int .i64 (-1), .int .i64 1, .int .i64 32, .int .i64 1, .int .i64 0]) ⟨[.string (bstr [99, 101, 108, 108, 115])], _, rfl, rfl, ⟨[.int .i64 4], _, rfl, rfl, ⟨[.int .i64 (-1)], _, rfl, rfl, ⟨[.int .i64 1], _, rfl, rfl, ⟨[.int .i64 32], _, rfl, rfl, ⟨[.int .i64 1], _, rfl, rfl, rfl⟩⟩⟩⟩⟩⟩ Kd.Many.nil)))) (fun v29 g30 ho31 => ?_)
        refine Z 2 rfl ?_
        refine st_freeze (fun τ32 hl33 hg34 => ?_)
        have hs35 := ho31.freeze hl33 hg34
        obtain rfl := Eq.symm h
        exact st_ret (gs' := []) Tryd.func66 rfl (List.Sublist.refl _) (hl28.trans hl33) ⟨_, rfl, rfl, hs35⟩
      · replace h := (if_neg (ne_t hc)).mp h
        refine Z 5 rfl ?_
        refine st_cond rfl (fun hc => ?_) (fun hc => ?_)
        · replace h := (if_pos hc).mp h
          refine Z 2 rfl ?_
          obtain ⟨r37, hr38, h⟩ := h
          refine st_call (foot := []) rfl rfl rfl rfl rfl rfl (callV_fn z_en106 (field_robot_ok hr38 σ)) ?_
          rintro vτ39 τ39 gsτ39 hl40 ⟨rfl, rfl⟩
          refine o_build (ps := [(0, [.string (bstr [120])]), (1, [.int .i64 2]), (2, [.int .i64 1]), (3, [.int .i64 (-1000000)]), (4, [.int .i64 1000000]), (5, [.int .i64 1]), (6, [.int .i64 0])]) (cs := [.string (bstr [120]), .int .i64 2, .int .i64 1, .int .i64 (-1000000), .int .i64 1000000, .int .i64 1, .int .i64 0]) rfl rfl rfl z_struct121 ⟨rfl, ⟨_, (ev_str z_str9), rfl⟩, ⟨rfl, ⟨_, rfl, rfl⟩, ⟨rfl, ⟨_, rfl, rfl⟩, ⟨rfl, ⟨_, rfl, rfl⟩, ⟨rfl, ⟨_, rfl, rfl⟩, ⟨rfl, ⟨_, rfl, rfl⟩, ⟨rfl, ⟨_, rfl, rfl⟩, trivial⟩⟩⟩⟩⟩⟩⟩ rfl ?_
          refine o_build (ps := [(0, [.string (bstr [121])]), (1, [.int .i64 2]), (2, [.int .i64 2]), (3, [.int .i64 (-1000000)]), (4, [.int .i64 1000000]), (5, [.int .i64 1]), (6, [.int .i64 0])]) (cs := [.string (bstr [121]), .int .i64 2, .int .i64 2, .int .i64 (-1000000), .int .i64 1000000, .int .i64 1, .int .i64 0]) rfl rfl rfl z_struct121 ⟨rfl, ⟨_, (ev_str z_str10), rfl⟩, ⟨rfl, ⟨_, rfl, rfl⟩, ⟨rfl, ⟨_, rfl, rfl⟩, ⟨rfl, ⟨_, rfl, rfl⟩, ⟨rfl, ⟨_, rfl, rfl⟩, ⟨rfl, ⟨_, rfl, rfl⟩, ⟨rfl, ⟨_, rfl, rfl⟩, trivial⟩⟩⟩⟩⟩⟩⟩ rfl ?_
          refine o_build (ps := [(0, [.string (bstr [104, 101, 97, 100, 105, 110, 103])]), (1, [.int .i64 1]), (2, [.int .i64 3]), (3, [.int .i64 0]), (4, [.int .i64 35999]), (5, [.int .i64 1]), (6, [.int .i64 0])]) (cs := [.string (bstr [104, 101, 97, 100, 105, 110, 103]), .int .i64 1, .int .i64 3, .int .i64 0, .int .i64 35999, .int .i64 1, .int .i64 0]) rfl rfl rfl z_struct121 ⟨rfl, ⟨_, (ev_str z_str11), rfl⟩, ⟨rfl, ⟨_, rfl, rfl⟩, ⟨rfl, ⟨_, rfl, rfl⟩, ⟨rfl, ⟨_, rfl, rfl⟩, ⟨rfl, ⟨_, rfl, rfl⟩, ⟨rfl, ⟨_, rfl, rfl⟩, ⟨rfl, ⟨_, rfl, rfl⟩, trivial⟩⟩⟩⟩⟩⟩⟩ rfl ?_
          refine o_build (ps := [(0, [.string (bstr [98, 97, 116, 116, 101, 114, 121])]), (1, [.int .i64 1]), (2, [.int .i64 4]), (3, [.int .i64 0]), (4, [.int .i64 1000]), (5, [.int .i64 1]), (6, [.int .i64 0])]) (cs := [.string (bstr [98, 97, 116, 116, 101, 114, 121]), .int .i64 1, .int .i64 4, .int .i64 0, .int .i64 1000, .int .i64 1, .int .i64 0]) rfl rfl rfl z_struct121 ⟨rfl, ⟨_, (ev_str z_str12), rfl⟩, ⟨rfl, ⟨_, rfl, rfl⟩, ⟨rfl, ⟨_, rfl, rfl⟩, ⟨rfl, ⟨_, rfl, rfl⟩, ⟨rfl, ⟨_, rfl, rfl⟩, ⟨rfl, ⟨_, rfl, rfl⟩, ⟨rfl, ⟨_, rfl, rfl⟩, trivial⟩⟩⟩⟩⟩⟩⟩ rfl ?_
          refine o_build (ps := [(0, [.string (bstr [115, 117, 114, 101])]), (1, [.int .i64 1]), (2, [.int .i64 5]), (3, [.int .i64 0]), (4, [.int .i64 100]), (5, [.int .i64 2]), (6, [.int .i64 100])]) (cs := [.string (bstr [115, 117, 114, 101]), .int .i64 1, .int .i64 5, .int .i64 0, .int .i64 100, .int .i64 2, .int .i64 100]) rfl rfl rfl z_struct121 ⟨rfl, ⟨_, (ev_str z_str13), rfl⟩, ⟨rfl, ⟨_, rfl, rfl⟩, ⟨rfl, ⟨_, rfl, rfl⟩, ⟨rfl, ⟨_, rfl, rfl⟩, ⟨rfl, ⟨_, rfl, rfl⟩, ⟨rfl, ⟨_, rfl, rfl⟩, ⟨rfl, ⟨_, rfl, rfl⟩, trivial⟩⟩⟩⟩⟩⟩⟩ rfl ?_
          refine o_lit (dk := (kP kS (kP (kI .i64) (kP (kI .i64) (kP (kI .i64) (kP (kI .i64) (kP (kI .i64) (kI .i64)))))))) (xs := [r37, ((bstr [120]), 2, 1, (-1000000), 1000000, 1, 0), ((bstr [121]), 2, 2, (-1000000), 1000000, 1, 0), ((bstr [104, 101, 97, 100, 105, 110, 103]), 1, 3, 0, 35999, 1, 0), ((bstr [98, 97, 116, 116, 101, 114, 121]), 1, 4, 0, 1000, 1, 0), ((bstr [115, 117, 114, 101]), 1, 5, 0, 100, 2, 100)]) (ps := [(0, [.string r37.1, .int .i64 r37.2.1, .int .i64 r37.2.2.1, .int .i64 r37.2.2.2.1, .int .i64 r37.2.2.2.2.1, .int .i64 r37.2.2.2.2.2.1, .int .i64 r37.2.2.2.2.2.2]), (1, [.string (bstr [120]), .int .i64 2, .int .i64 1, .int .i64 (-1000000), .int .i64 1000000, .int .i64 1, .int .i64 0]), (2, [.string (bstr [121]), .int .i64 2, .int .i64 2, .int .i64 (-1000000), .int .i64 1000000, .int .i64 1, .int .i64 0]), (3, [.string (bstr [104, 101, 97, 100, 105, 110, 103]), .int .i64 1, .int .i64 3, .int .i64 0, .int .i64 35999, .int .i64 1, .int .i64 0]), (4, [.string (bstr [98, 97, 116, 116, 101, 114, 121]), .int .i64 1, .int .i64 4, .int .i64 0, .int .i64 1000, .int .i64 1, .int .i64 0]), (5, [.string (bstr [115, 117, 114, 101]), .int .i64 1, .int .i64 5, .int .i64 0, .int .i64 100, .int .i64 2, .int .i64 100])]) (cs := [.string r37.1, .int .i64 r37.2.1, .int .i64 r37.2.2.1, .int .i64 r37.2.2.2.1, .int .i64 r37.2.2.2.2.1, .int .i64 r37.2.2.2.2.2.1, .int .i64 r37.2.2.2.2.2.2, .string (bstr [120]), .int .i64 2, .int .i64 1, .int .i64 (-1000000), .int .i64 1000000, .int .i64 1, .int .i64 0, .string (bstr [121]), .int .i64 2, .int .i64 2, .int .i64 (-1000000), .int .i64 1000000, .int .i64 1, .int .i64 0, .string (bstr [104, 101, 97, 100, 105, 110, 103]), .int .i64 1, .int .i64 3, .int .i64 0, .int .i64 35999, .int .i64 1, .int .i64 0, .string (bstr [98, 97, 116, 116, 101, 114, 121]), .int .i64 1, .int .i64 4, .int .i64 0, .int .i64 1000, .int .i64 1, .int .i64 0, .string (bstr [115, 117, 114, 101]), .int .i64 1, .int .i64 5, .int .i64 0, .int .i64 100, .int .i64 2, .int .i64 100]) rfl rfl rfl z_slT118 z_zero121 ⟨rfl, ⟨_, rfl, rfl⟩, ⟨rfl, ⟨_, rfl, rfl⟩, ⟨rfl, ⟨_, rfl, rfl⟩, ⟨rfl, ⟨_, rfl, rfl⟩, ⟨rfl, ⟨_, rfl, rfl⟩, ⟨rfl, ⟨_, rfl, rfl⟩, trivial⟩⟩⟩⟩⟩⟩ rfl rfl rfl rfl (Kd.Many.cons (d := (kP kS (kP (kI .i64) (kP (kI .i64) (kP (kI .i64) (kP (kI .i64) (kP (kI .i64) (kI .i64)))))))) (x := r37) (a := [.string r37.1, .int .i64 r37.2.1, .int .i64 r37.2.2.1, .int .i64 r37.2.2.2.1, .int .i64 r37.2.2.2.2.1, .int .i64 r37.2.2.2.2.2.1, .int .i64 r37.2.2.2.2.2.2]) ⟨[.string r37.1], _, rfl, rfl, ⟨[.int .i64 r37.2.1], _, rfl, rfl, ⟨[.int .i64 r37.2.2.1], _, rfl, rfl, ⟨[.int .i64 r37.2.2.2.1], _, rfl, rfl, ⟨[.int .i64 r37.2.2.2.2.1], _, rfl, rfl, ⟨[.int .i64 r37.2.2.2.2.2.1], _, rfl, rfl, rfl⟩⟩⟩⟩⟩⟩ (Kd.Many.cons (d := (kP kS (kP (kI .i64) (kP (kI .i64) (kP (kI .i64) (kP (kI .i64) (kP (kI .i64) (kI .i64)))))))) (x := ((bstr [120]), 2, 1, (-1000000), 1000000, 1, 0)) (a := [.string (bstr [120]), .int .i64 2, .int .i64 1, .int .i64 (-1000000), .int .i64 1000000, .int .i64 1, .int .i64 0]) ⟨[.string (bstr [120])], _, rfl, rfl, ⟨[.int .i64 2], _, rfl, rfl, ⟨[.int .i64 1], _, rfl, rfl, ⟨[.int .i64 (-1000000)], _, rfl, rfl, ⟨[.int .i64 1000000], _, rfl, rfl, ⟨[.int .i64 1], _, rfl, rfl, rfl⟩⟩⟩⟩⟩⟩ (Kd.Many.cons (d := (kP kS (kP (kI .i64) (kP (kI .i64) (kP (kI .i64) (kP (kI .i64) (kP (kI .i64) (kI .i64)))))))) (x := ((bstr [121]), 2, 2, (-1000000), 1000000, 1, 0)) (a := [.string (bstr [121]), .int .i64 2, .int .i64 2, .int .i64 (-1000000), .int .i64 1000000, .int .i64 1, .int .i64 0]) ⟨[.string (bstr [121])], _, rfl, rfl, ⟨[.int .i64 2], _, rfl, rfl, ⟨[.int .i64 2], _, rfl, rfl, ⟨[.int .i64 (-1000000)], _, rfl, rfl, ⟨[.int .i64 1000000], _, rfl, rfl, ⟨[.int .i64 1], _, rfl, rfl, rfl⟩⟩⟩⟩⟩⟩ (Kd.Many.cons (d := (kP kS (kP (kI .i64) (kP (kI .i64) (kP (kI .i64) (kP (kI .i64) (kP (kI .i64) (kI .i64)))))))) (x := ((bstr [104, 101, 97, 100, 105, 110, 103]), 1, 3, 0, 35999, 1, 0)) (a := [.string (bstr [104, 101, 97, 100, 105, 110, 103]), .int .i64 1, .int .i64 3, .int .i64 0, .int .i64 35999, .int .i64 1, .int .i64 0]) ⟨[.string (bstr [104, 101, 97, 100, 105, 110, 103])], _, rfl, rfl, ⟨[.int .i64 1], _, rfl, rfl, ⟨[.int .i64 3], _, rfl, rfl, ⟨[.int .i64 0], _, rfl, rfl, ⟨[.int .i64 35999], _, rfl, rfl, ⟨[.int .i64 1], _, rfl, rfl, rfl⟩⟩⟩⟩⟩⟩ (Kd.Many.cons (d := (kP kS (kP (kI .i64) (kP (kI .i64) (kP (kI .i64) (kP (kI .i64) (kP (kI .i64) (kI .i64)))))))) (x := ((bstr [98, 97, 116, 116, 101, 114, 121]), 1, 4, 0, 1000, 1, 0)) (a := [.string (bstr [98, 97, 116, 116, 101, 114, 121]), .int .i64 1, .int .i64 4, .int .i64 0, .int .i64 1000, .int .i64 1, .int .i64 0]) ⟨[.string (bstr [98, 97, 116, 116, 101, 114, 121])], _, rfl, rfl, ⟨[.int .i64 1], _, rfl, rfl, ⟨[.int .i64 4], _, rfl, rfl, ⟨[.int .i64 0], _, rfl, rfl, ⟨[.int .i64 1000], _, rfl, rfl, ⟨[.int .i64 1], _, rfl, rfl, rfl⟩⟩⟩⟩⟩⟩ (Kd.Many.cons (d := (kP kS (kP (kI .i64) (kP (kI .i64) (kP (kI .i64) (kP (kI .i64) (kP (kI .i64) (kI .i64)))))))) (x := ((bstr [115, 117, 114, 101]), 1, 5, 0, 100, 2, 100)) (a := [.string (bstr [115, 117, 114, 101]), .int .i64 1, .int .i64 5, .int .i64 0, .int .i64 100, .int .i64 2, .int .i64 100]) ⟨[.string (bstr [115, 117, 114, 101])], _, rfl, rfl, ⟨[.int .i64 1], _, rfl, rfl, ⟨[.int .i64 5], _, rfl, rfl, ⟨[.int .i64 0], _, rfl, rfl, ⟨[.int .i64 100], _, rfl, rfl, ⟨[.int .i64 2], _, rfl, rfl, rfl⟩⟩⟩⟩⟩⟩ Kd.Many.nil)))))) (fun v41 g42 ho43 => ?_)
          refine Z 2 rfl ?_
          refine st_freeze (fun τ44 hl45 hg46 => ?_)
          have hs47 := ho43.freeze hl45 hg46
          obtain rfl := Eq.symm h
          exact st_ret (gs' := []) Tryd.func66 rfl (List.Sublist.refl _) (hl40.trans hl45) ⟨_, rfl, rfl, hs47⟩
        · replace h := (if_neg (ne_t hc)).mp h
          refine Z 5 rfl ?_
          refine st_cond rfl (fun hc => ?_) (fun hc => ?_)
          · replace h := (if_pos hc).mp h
            refine Z 2 rfl ?_
            obtain ⟨r49, hr50, h⟩ := h
            refine st_call (foot := []) rfl rfl rfl rfl rfl rfl (callV_fn z_en106 (field_robot_ok hr50 σ)) ?_
            rintro vτ51 τ51 gsτ51 hl52 ⟨rfl, rfl⟩
            refine o_build (ps := [(0, [.string (bstr [99, 111, 100, 101])]), (1, [.int .i64 1]), (2, [.int .i64 1]), (3, [.int .i64 1]), (4, [.int .i64 9999]), (5, [.int .i64 1]), (6, [.int .i64 0])]) (cs := [.string (bstr [99, 111, 100, 101]), .int .i64 1, .int .i64 1, .int .i64 1, .int .i64 9999, .int .i64 1, .int .i64 0]) rfl rfl rfl z_struct121 ⟨rfl, ⟨_, (ev_str z_str14), rfl⟩, ⟨rfl, ⟨_, rfl, rfl⟩, ⟨rfl, ⟨_, rfl, rfl⟩, ⟨rfl, ⟨_, rfl, rfl⟩, ⟨rfl, ⟨_, rfl, rfl⟩, ⟨rfl, ⟨_, rfl, rfl⟩, ⟨rfl, ⟨_, rfl, rfl⟩, trivial⟩⟩⟩⟩⟩⟩⟩ rfl ?_
            refine o_build (ps := [(0, [.string (bstr [115, 101, 118, 101, 114, 105, 116, 121])]), (1, [.int .i64 1]), (2, [.int .i64 2]), (3, [.int .i64 0]), (4, [.int .i64 4]), (5, [.int .i64 1]), (6, [.int .i64 0])]) (cs := [.string (bstr [115, 101, 118, 101, 114, 105, 116, 121]), .int .i64 1, .int .i64 2, .int .i64 0, .int .i64 4, .int .i64 1, .int .i64 0]) rfl rfl rfl z_struct121 ⟨rfl, ⟨_, (ev_str z_str15), rfl⟩, ⟨rfl, ⟨_, rfl, rfl⟩, ⟨rfl, ⟨_, rfl, rfl⟩, ⟨rfl, ⟨_, rfl, rfl⟩, ⟨rfl, ⟨_, rfl, rfl⟩, ⟨rfl, ⟨_, rfl, rfl⟩, ⟨rfl, ⟨_, rfl, rfl⟩, trivial⟩⟩⟩⟩⟩⟩⟩ rfl ?_
            refine o_build (ps := [(0, [.string (bstr [112, 97, 114, 116])]), (1, [.int .i64 1]), (2, [.int .i64 3]), (3, [.int .i64 0]), (4, [.int .i64 255]), (5, [.int .i64 2]), (6, [.int .i64 0])]) (cs := [.string (bstr [112, 97, 114, 116]), .int .i64 1, .int .i64 3, .int .i64 0, .int .i64 255, .int .i64 2, .int .i64 0]) rfl rfl rfl z_struct121 ⟨rfl, ⟨_, (ev_str z_str16), rfl⟩, ⟨rfl, ⟨_, rfl, rfl⟩, ⟨rfl, ⟨_, rfl, rfl⟩, ⟨rfl, ⟨_, rfl, rfl⟩, ⟨rfl, ⟨_, rfl, rfl⟩, ⟨rfl, ⟨_, rfl, rfl⟩, ⟨rfl, ⟨_, rfl, rfl⟩, trivial⟩⟩⟩⟩⟩⟩⟩ rfl ?_
            refine o_build (ps := [(0, [.string (bstr [116, 105, 109, 101, 115])]), (1, [.int .i64 1]), (2, [.int .i64 4]), (3, [.int .i64 1]), (4, [.int .i64 1000000]), (5, [.int .i64 2]), (6, [.int .i64 1])]) (cs := [.string (bstr [116, 105, 109, 101, 115]), .int .i64 1, .int .i64 4, .int .i64 1, .int .i64 1000000, .int .i64 2, .int .i64 1]) rfl rfl rfl z_struct121 ⟨rfl, ⟨_, (ev_str z_str17), rfl⟩, ⟨rfl, ⟨_, rfl, rfl⟩, ⟨rfl, ⟨_, rfl, rfl⟩, ⟨rfl, ⟨_, rfl, rfl⟩, ⟨rfl, ⟨_, rfl, rfl⟩, ⟨rfl, ⟨_, rfl, rfl⟩, ⟨rfl, ⟨_, rfl, rfl⟩, trivial⟩⟩⟩⟩⟩⟩⟩ rfl ?_
            refine o_build (ps := [(0, [.string (bstr [116, 101, 120, 116])]), (1, [.int .i64 5]), (2, [.int .i64 (-1)]), (3, [.int .i64 0]), (4, [.int .i64 64]), (5, [.int .i64 1]), (6, [.int .i64 0])]) (cs := [.string (bstr [116, 101, 120, 116]), .int .i64 5, .int .i64 (-1), .int .i64 0, .int .i64 64, .int .i64 1, .int .i64 0]) rfl rfl rfl z_struct121 ⟨rfl, ⟨_, (ev_str z_str18), rfl⟩, ⟨rfl, ⟨_, rfl, rfl⟩, ⟨rfl, ⟨_, rfl, rfl⟩, ⟨rfl, ⟨_, rfl, rfl⟩, ⟨rfl, ⟨_, rfl, rfl⟩, ⟨rfl, ⟨_, rfl, rfl⟩, ⟨rfl, ⟨_, rfl, rfl⟩, trivial⟩⟩⟩⟩⟩⟩⟩ rfl ?_
            refine o_lit (dk := (kP kS (kP (kI .i64) (kP (kI .i64) (kP (kI .i64) (kP (kI .i64) (kP (kI .i64) (kI .i64)))))))) (xs := [r49, ((bstr [99, 111, 100, 101]), 1, 1, 1, 9999, 1, 0), ((bstr [115, 101, 118, 101, 114, 105, 116, 121]), 1, 2, 0, 4, 1, 0), ((bstr [112, 97, 114, 116]), 1, 3, 0, 255, 2, 0), ((bstr [116, 105, 109, 101, 115]), 1, 4, 1, 1000000, 2, 1), ((bstr [116, 101, 120, 116]), 5, (-1), 0, 64, 1, 0)]) (ps := [(0, [.string r49.1, .int .i64 r49.2.1, .int .i64 r49.2.2.1, .int .i64 r49.2.2.2.1, .int .i64 r49.2.2.2.2.1, .int .i64 r49.2.2.2.2.2.1, .int .i64 r49.2.2.2.2.2.2]), (1, [.string (bstr [99, 111, 100, 101]), .int .i64 1, .int .i64 1, .int .i64 1, .int .i64 9999, .int .i64 1, .int .i64 0]), (2, [.string (bstr [115, 101, 118, 101, 114, 105, 116, 121]), .int .i64 1, .int .i64 2, .int .i64 0, .int .i64 4, .int .i64 1, .int .i64 0]), (3, [.string (bstr [112, 97, 114, 116]), .int .i64 1, .int .i64 3, .int .i64 0, .int .i64 255, .int .i64 2, .int .i64 0]), (4, [.string (bstr [116, 105, 109, 101, 115]), .int .i64 1, .int .i64 4, .int .i64 1, .int .i64 1000000, .int .i64 2, .int .i64 1]), (5, [.string (bstr [116, 101, 120, 116]), .int .i64 5, .int .i64 (-1), .int .i64 0, .int .i64 64, .int .i64 1, .int .i64 0])]) (cs := [.string r49.1, .int .i64 r49.2.1, .int .i64 r49.2.2.1, .int .i64 r49.2.2.2.1, .int .i64 r49.2.2.2.2.1, .int .i64 r49.2.2.2.2.2.1, .int .i64 r49.2.2.2.2.2.2, .string (bstr [99, 111, 100, 101]), .int .i64 1, .int .i64 1, .int .i64 1, .int .i64 9999, .int .i64 1, .int .i64 0, .string (bstr [115, 101, 118, 101, 114, 105, 116, 121]), .int .i64 1, .int .i64 2, .int .i64 0, .int .i64 4, .int .i64 1, .int .i64 0, .string (bstr [112, 97, 114, 116]), .int .i64 1, .int .i64 3, .int .i64 0, .int .i64 255, .int .i64 2, .int .i64 0, .string (bstr [116, 105, 109, 101, 115]), .int .i64 1, .int .i64 4, .int .i64 1, .int .i64 1000000, .int .i64 2, .int .i64 1, .string (bstr [116, 101, 120, 116]), .int .i64 5, .int .i64 (-1), .int .i64 0, .int .i64 64, .int .i64 1, .int .i64 0]) rfl rfl rfl z_slT118 z_zero121 ⟨rfl, ⟨_, rfl, rfl⟩, ⟨rfl, ⟨_, rfl, rfl⟩, ⟨rfl, ⟨_, rfl, rfl⟩, ⟨rfl, ⟨_, rfl, rfl⟩, ⟨rfl, ⟨_, rfl, rfl⟩, ⟨rfl, ⟨_, rfl, rfl⟩, trivial⟩⟩⟩⟩⟩⟩ rfl rfl rfl rfl (Kd.Many.cons (d := (kP kS (kP (kI .i64) (kP (kI .i64) (kP (kI .i64) (kP (kI .i64) (kP (kI .i64) (kI .i64)))))))) (x := r49) (a := [.string r49.1, .int .i64 r49.2.1, .int .i64 r49.2.2.1, .int .i64 r49.2.2.2.1, .int .i64 r49.2.2.2.2.1, .int .i64 r49.2.2.2.2.2.1, .int .i64 r49.2.2.2.2.2.2]) ⟨[.string r49.1], _, rfl, rfl, ⟨[.int .i64 r49.2.1], _, rfl, rfl, ⟨[.int .i64 r49.2.2.1], _, rfl, rfl, ⟨[.int .i64 r49.2.2.2.1], _, rfl, rfl, ⟨[.int .i64 r49.2.2.2.2.1], _, rfl, rfl, ⟨[.int .i64 r49.2.2.2.2.2.1], _, rfl, rfl, rfl⟩⟩⟩⟩⟩⟩ (Kd.Many.cons (d := (kP kS (kP (kI .i64) (kP (kI .i64) (kP (kI .i64) (kP (kI .i64) (kP (kI .i64) (kI .i64)))))))) (x := ((bstr [99, 111, 100, 101]), 1, 1, 1, 9999, 1, 0)) (a := [.string (bstr [99, 111, 100, 101]), .int .i64 1, .int .i64 1, .int .i64 1, .int .i64 9999, .int .i64 1, .int .i64 0]) ⟨[.string (bstr [99, 111, 100, 101])], _, rfl, rfl, ⟨[.int .i64 1], _, rfl, rfl, ⟨[.int .i64 1], _, rfl, rfl, ⟨[.int .i64 1], _, rfl, rfl, ⟨[.int .i64 9999], _, rfl, rfl, ⟨[.int .i64 1], _, rfl, rfl, rfl⟩⟩⟩⟩⟩⟩ (Kd.Many.cons (d := (kP kS (kP (kI .i64) (kP (kI .i64) (kP (kI .i64) (kP (kI .i64) (kP (kI .i64) (kI .i64)))))))) (x := ((bstr [115, 101, 118, 101, 114, 105, 116, 121]), 1, 2, 0, 4, 1, 0)) (a := [.string (bstr [115, 101, 118, 101, 114, 105, 116, 121]), .int .i64 1, .int .i64 2, .int .i64 0, .int .i64 4, .int .i64 1, .int .i64 0]) ⟨[.string (bstr [115, 101, 118, 101, 114, 105, 116, 121])], _, rfl, rfl, ⟨[.int .i64 1], _, rfl, rfl, ⟨[.int .i64 2], _, rfl, rfl, ⟨[.int .i64 0], _, rfl, rfl, ⟨[.int .i64 4], _, rfl, rfl, ⟨[.int .i64 1], _, rfl, rfl, rfl⟩⟩⟩⟩⟩⟩ (Kd.Many.cons (d := (kP kS (kP (kI .i64) (kP (kI .i64) (kP (kI .i64) (kP (kI .i64) (kP (kI .i64) (kI .i64)))))))) (x := ((bstr [112, 97, 114, 116]), 1, 3, 0, 255, 2, 0)) (a := [.string (bstr [112, 97, 114, 116]), .int .i64 1, .int .i64 3, .int .i64 0, .int .i64 255, .int .i64 2, .int .i64 0]) ⟨[.string (bstr [112, 97, 114, 116])], _, rfl, rfl, ⟨[.int .i64 1], _, rfl, rfl, ⟨[.int .i64 3], _, rfl, rfl, ⟨[.int .i64 0], _, rfl, rfl, ⟨[.int .i64 255], _, rfl, rfl, ⟨[.int .i64 2], _, rfl, rfl, rfl⟩⟩⟩⟩⟩⟩ (Kd.Many.cons (d := (kP kS (kP (kI .i64) (kP (kI .i64) (kP (kI .i64) (kP (kI .i64) (kP (kI .i64) (kI .i64)))))))) (x := ((bstr [116, 105, 109, 101, 115]), 1, 4, 1, 1000000, 2, 1)) (a := [.string (bstr [116, 105, 109, 101, 115]), .int .i64 1, .int .i64 4, .int .i64 1, .int .i64 1000000, .int .i64 2, .int .i64 1]) ⟨[.string (bstr [116, 105, 109, 101, 115])], _, rfl, rfl, ⟨[.int .i64 1], _, rfl, rfl, ⟨[.int .i64 4], _, rfl, rfl, ⟨[.int .i64 1], _, rfl, rfl, ⟨[.int .i64 1000000], _, rfl, rfl, ⟨[.int .i64 2], _, rfl, rfl, rfl⟩⟩⟩⟩⟩⟩ (Kd.Many.cons (d := (kP kS (kP (kI .i64) (kP (kI .i64) (kP (kI .i64) (kP (kI .i64) (kP (kI .i64) (kI .i64)))))))) (x := ((bstr [116, 101, 120, 116]), 5, (-1), 0, 64, 1, 0)) (a := [.string (bstr [116, 101, 120, 116]), .int .i64 5, .int .i64 (-1), .int .i64 0, .int .i64 64, .int .i64 1, .int .i64 0]) ⟨[.string (bstr [116, 101, 120, 116])], _, rfl, rfl, ⟨[.int .i64 5], _, rfl, rfl, ⟨[.int .i64 (-1)], _, rfl, rfl, ⟨[.int .i64 0], _, rfl, rfl, ⟨[.int .i64 64], _, rfl, rfl, ⟨[.int .i64 1], _, rfl, rfl, rfl⟩⟩⟩⟩⟩⟩ Kd.Many.nil)))))) (fun v53 g54 ho55 => ?_)
            refine Z 2 rfl ?_
            refine st_freeze (fun τ56 hl57 hg58 => ?_)
            have hs59 := ho55.freeze hl57 hg58
            obtain rfl := Eq.symm h
            exact st_ret (gs' := []) Tryd.func66 rfl (List.Sublist.refl _) (hl52.trans hl57) ⟨_, rfl, rfl, hs59⟩
          · replace h := (if_neg (ne_t hc)).mp h
            refine Z 6 rfl ?_
            obtain rfl := Eq.symm h
            exact st_ret (gs' := []) Tryd.func66 rfl (List.Sublist.refl _) (Sto.Le.refl _) ⟨_, rfl, rfl, Sl.nil⟩
theorem msg_many_ok {a0 : Int} {a1 : ByteArray × Int × Int × Int × Int × Int × Int} {r : Int} (h : msg_many a0 a1 r) (σ : Sto)  :
    Does Tryd.prog 146 [.int .i64 a0, .agg [.string a1.1, .int .i64 a1.2.1, .int .i64 a1.2.2.1, .int .i64 a1.2.2.2.1, .int .i64 a1.2.2.2.2.1, .int .i64 a1.2.2.2.2.2.1, .int .i64 a1.2.2.2.2.2.2].toArray] σ [] (fun v τ gs => gs = [] ∧ .int .i64 r = v) := by
  refine call_of Tryd.func146 Tryd.ntmps146 rfl rfl (fun cs fs => ?_)
  refine Z 2 rfl ?_
  refine o_box (cs := [.string a1.1, .int .i64 a1.2.1, .int .i64 a1.2.2.1, .int .i64 a1.2.2.2.1, .int .i64 a1.2.2.2.2.1, .int .i64 a1.2.2.2.2.2.1, .int .i64 a1.2.2.2.2.2.2]) rfl rfl rfl rfl rfl (fun b1 => ?_)
  refine Z 8 rfl ?_
  refine o_load (j := 0) (v := .int .i64 a1.2.2.2.1) rfl rfl rfl z_sc3 rfl rfl rfl ?_
  refine Z 3 rfl ?_
  refine st_cond rfl (fun hc => ?_) (fun hc => ?_)
  · replace h := (if_pos hc).mp h
    refine Z 4 rfl ?_
    refine st_ord [] [] rfl ?_
    obtain rfl := Eq.symm h
    exact st_ret (gs' := []) Tryd.func146 rfl (List.Sublist.refl _) (Sto.Le.refl _) ⟨rfl, rfl⟩
  · replace h := (if_neg (ne_t hc)).mp h
    refine Z 4 rfl ?_
    refine o_load (j := 0) (v := .int .i64 a1.2.2.2.2.1) rfl rfl rfl z_sc3 rfl rfl rfl ?_
    refine Z 3 rfl ?_
    refine st_cond rfl (fun hc => ?_) (fun hc => ?_)
    · replace h := (if_pos hc).mp h
      refine Z 4 rfl ?_
      refine st_ord [] [] rfl ?_
      obtain rfl := Eq.symm h
      exact st_ret (gs' := []) Tryd.func146 rfl (List.Sublist.refl _) (Sto.Le.refl _) ⟨rfl, rfl⟩
    · replace h := (if_neg (ne_t hc)).mp h
      refine Z 6 rfl ?_
      refine st_ord [] [] rfl ?_
      obtain rfl := Eq.symm h
      exact st_ret (gs' := []) Tryd.func146 rfl (List.Sublist.refl _) (Sto.Le.refl _) ⟨rfl, rfl⟩
theorem msg_path_ok {a0 : List (Int × Int)} {a1 : ByteArray × Int × Int × Int × Int × Int × Int} {v1 : Value} {r : Int} (h : msg_path a0 a1 r) (σ : Sto) (hs2 : Sl (kP (kI .i64) (kI .i64)) σ v1 a0) :
    Does Tryd.prog 107 [v1, .agg [.string a1.1, .int .i64 a1.2.1, .int .i64 a1.2.2.1, .int .i64 a1.2.2.2.1, .int .i64 a1.2.2.2.2.1, .int .i64 a1.2.2.2.2.2.1, .int .i64 a1.2.2.2.2.2.2].toArray] σ [] (fun v τ gs => gs = [] ∧ .int .i64 r = v) := by
  refine call_of Tryd.func107 Tryd.ntmps107 rfl rfl (fun cs fs => ?_)
  refine Z 2 rfl ?_
  refine o_box (cs := [.string a1.1, .int .i64 a1.2.1, .int .i64 a1.2.2.1, .int .i64 a1.2.2.2.1, .int .i64 a1.2.2.2.2.1, .int .i64 a1.2.2.2.2.2.1, .int .i64 a1.2.2.2.2.2.2]) rfl rfl rfl rfl rfl (fun b3 => ?_)
  refine Z 6 rfl ?_
  refine o_lenI rfl rfl rfl z_slT23 rfl hs2 ?_
  refine o_loadN (j := 0) (vs := [.string a1.1, .int .i64 a1.2.1, .int .i64 a1.2.2.1, .int .i64 a1.2.2.2.1, .int .i64 a1.2.2.2.2.1, .int .i64 a1.2.2.2.2.2.1, .int .i64 a1.2.2.2.2.2.2]) rfl rfl rfl z_agg121 rfl rfl rfl ?_
  obtain ⟨r4, hr5, h⟩ := h
  refine st_call (foot := []) rfl rfl rfl rfl rfl rfl (callV_fn z_en146 (msg_many_ok hr5 σ)) ?_
  rintro vτ6 τ6 gsτ6 hl7 ⟨rfl, rfl⟩
  refine Z 7 rfl ?_
  refine st_cond rfl (fun hc => ?_) (fun hc => ?_)
  · replace h := (if_pos hc).mp h
    refine Z 5 rfl ?_
    refine st_ord [] [] rfl ?_
    obtain rfl := Eq.symm h
    exact st_ret (gs' := []) Tryd.func107 rfl (List.Sublist.refl _) hl7 ⟨rfl, rfl⟩
  · replace h := (if_neg (ne_t hc)).mp h
    refine Z 2 rfl ?_
    refine st_cut (fun ρ τ8 gs => ∃ (s8 : Unit), msg_path_j1 s8 r ∧ τ6.Le τ8 ∧ ρ = [(4, .int .i64 0)] ∧ gs = []) ?_ (fun hk8 => ?_)
    · rintro ρ8 τ8 gs8 ⟨s8, h, hl8, rfl, rfl⟩
      refine Z 4 rfl ?_
      obtain rfl := Eq.symm h
      exact st_ret (gs' := []) Tryd.func107 rfl (List.Sublist.refl _) (hl7.trans hl8) ⟨rfl, rfl⟩
    refine Z 3 rfl ?_
    refine o_lenI rfl rfl rfl z_slT23 rfl (hs2.up hl7) ?_
    refine Z 2 rfl ?_
    obtain ⟨e9, hL9, hA9⟩ := h
    refine st_env (ρ' := [(4, .int .i64 0), (15, v1), (16, .int .i64 (a0.length : Int)), (17, .int .i64 0)]) ⟨rfl, rfl, rfl, rfl, trivial⟩ ?_
    refine st_ord [] [] rfl ?_
    refine st_loop hL9 (fun (s9 : Int) ρ τ9 gs => τ6.Le τ9 ∧ ρ = [(4, .int .i64 0), (15, v1), (16, .int .i64 (a0.length : Int)), (17, .int .i64 s9)] ∧ gs = []) ⟨Sto.Le.refl _, rfl, rfl⟩ ?_
    rintro s9 o9 h he9 ρ9 τ9 gs9 ⟨hl9, rfl, rfl⟩ hn9
    refine Z 5 rfl ?_
    refine st_cond rfl (fun hc => ?_) (fun hc => ?_)
    · replace h := (if_pos hc).mp h
      refine Z 5 rfl ?_
      obtain ⟨q10, hf11, h⟩ := h
      refine o_index rfl rfl rfl z_slT23 rfl rfl (hs2.up (hl7.trans hl9)) rfl hf11 (fun b12 of13 vs hc14 hrep => ?_)
      obtain ⟨_, _, rfl, rfl, rfl⟩ := hrep
      refine o_loadIN (vs := [.int .i64 q10.1, .int .i64 q10.2]) rfl rfl rfl z_agg46 rfl rfl (celn_part 0 rfl hc14) ?_
      refine o_alloc rfl rfl rfl z_zero46 (fun b15 => ?_)
      refine o_store (j := 0) (vs := [.int .i64 q10.1, .int .i64 q10.2]) (cs' := [.int .i64 q10.1, .int .i64 q10.2]) rfl rfl rfl z_size46 rfl rfl rfl (ones_cons rfl (ones_cons rfl ones_nil)) rfl rfl rfl ?_
      refine st_gs [[(b15, .cells [.int .i64 q10.1, .int .i64 q10.2].toArray 46 (0, 0))]] rfl ?_
      refine Z 2 rfl ?_
      refine st_cut (fun ρ τ16 gs => ∃ (s16 : Bool), msg_path_j3 s9 s16 o9 ∧ τ9.Le τ16 ∧ ρ = [(4, .int .i64 0), (15, v1), (16, .int .i64 (a0.length : Int)), (17, .int .i64 s9), (34, .bool s16)] ∧ gs = []) ?_ (fun hk16 => ?_)
      · rintro ρ16 τ16 gs16 ⟨s16, h, hl16, rfl, rfl⟩
        refine st_cond rfl (fun hc => ?_) (fun hc => ?_)
        · replace h := (if_pos hc).mp h
          refine Z 4 rfl ?_
          obtain rfl := he9 _ h
          replace h := hA9
          obtain rfl := Eq.symm h
          exact st_ret (gs' := []) Tryd.func107 rfl (List.Sublist.refl _) ((hl7.trans hl9).trans hl16) ⟨rfl, rfl⟩
        · replace h := (if_neg (ne_t hc)).mp h
          refine Z 6 rfl ?_
          refine st_env (ρ' := [(4, .int .i64 0), (15, v1), (16, .int .i64 (a0.length : Int)), (17, .int .i64 (IntKind.i64.wrap (s9 + 1)))]) ⟨rfl, rfl, rfl, rfl, trivial⟩ ?_
          exact hn9 _ _ _ _ h ⟨(hl9.trans hl16), rfl, rfl⟩
      refine Z 2 rfl ?_
      refine o_load (j := 0) (v := .int .i64 q10.1) rfl rfl rfl z_sc3 rfl rfl rfl ?_
      refine o_fieldAddr rfl rfl rfl z_field46_1 rfl ?_
      refine o_load (j := 0) (v := .int .i64 q10.2) rfl rfl rfl z_sc3 rfl rfl rfl ?_
      refine Z 2 rfl ?_
      refine o_moveB rfl rfl rfl rfl (fun hc => ?_) (fun hc => ?_)
      · replace h := (if_pos hc).mp h
        refine Z 8 rfl ?_
        refine st_env (ρ' := [(4, .int .i64 0), (15, v1), (16, .int .i64 (a0.length : Int)), (17, .int .i64 s9), (34, .bool true)]) ⟨rfl, rfl, rfl, rfl, rfl, trivial⟩ ?_
        refine st_ord [] [] rfl ?_
        exact hk16 _ _ _ ⟨true, h, (Sto.Le.refl _), rfl, rfl⟩
      · replace h := (if_neg (ne_t hc)).mp h
        refine o_fieldAddr rfl rfl rfl z_field46_0 rfl ?_
        refine o_load (j := 0) (v := .int .i64 q10.1) rfl rfl rfl z_sc3 rfl rfl rfl ?_
        refine o_fieldAddr rfl rfl rfl z_field46_1 rfl ?_
        refine o_load (j := 0) (v := .int .i64 q10.2) rfl rfl rfl z_sc3 rfl rfl rfl ?_
        refine Z 4 rfl ?_
        refine st_env (ρ' := [(4, .int .i64 0), (15, v1), (16, .int .i64 (a0.length : Int)), (17, .int .i64 s9), (34, .bool (decide ((min q10.1 q10.2) < (-1000000))))]) ⟨rfl, rfl, rfl, rfl, rfl, trivial⟩ ?_
        refine st_ord [] [] rfl ?_
        exact hk16 _ _ _ ⟨(decide ((min q10.1 q10.2) < (-1000000))), h, (Sto.Le.refl _), rfl, rfl⟩
    · replace h := (if_neg (ne_t hc)).mp h
      refine st_exit rfl ?_
      obtain rfl := he9 _ h
      replace h := hA9
      refine st_env (ρ' := [(4, .int .i64 0)]) ⟨rfl, trivial⟩ ?_
      exact hk8 _ _ _ ⟨(), h, hl9, rfl, rfl⟩
theorem msg_cells_ok {a0 : List Int} {a1 : ByteArray × Int × Int × Int × Int × Int × Int} {v1 : Value} {r : Int} (h : msg_cells a0 a1 r) (σ : Sto) (hs2 : Sl (kI .i64) σ v1 a0) :
    Does Tryd.prog 108 [v1, .agg [.string a1.1, .int .i64 a1.2.1, .int .i64 a1.2.2.1, .int .i64 a1.2.2.2.1, .int .i64 a1.2.2.2.2.1, .int .i64 a1.2.2.2.2.2.1, .int .i64 a1.2.2.2.2.2.2].toArray] σ [] (fun v τ gs => gs = [] ∧ .int .i64 r = v) := by
  refine call_of Tryd.func108 Tryd.ntmps108 rfl rfl (fun cs fs => ?_)
  refine Z 2 rfl ?_
  refine o_box (cs := [.string a1.1, .int .i64 a1.2.1, .int .i64 a1.2.2.1, .int .i64 a1.2.2.2.1, .int .i64 a1.2.2.2.2.1, .int .i64 a1.2.2.2.2.2.1, .int .i64 a1.2.2.2.2.2.2]) rfl rfl rfl rfl rfl (fun b3 => ?_)
  refine Z 6 rfl ?_
  refine o_lenI rfl rfl rfl z_slT24 rfl hs2 ?_
  refine o_loadN (j := 0) (vs := [.string a1.1, .int .i64 a1.2.1, .int .i64 a1.2.2.1, .int .i64 a1.2.2.2.1, .int .i64 a1.2.2.2.2.1, .int .i64 a1.2.2.2.2.2.1, .int .i64 a1.2.2.2.2.2.2]) rfl rfl rfl z_agg121 rfl rfl rfl ?_
  obtain ⟨r4, hr5, h⟩ := h
  refine st_call (foot := []) rfl rfl rfl rfl rfl rfl (callV_fn z_en146 (msg_many_ok hr5 σ)) ?_
  rintro vτ6 τ6 gsτ6 hl7 ⟨rfl, rfl⟩
  refine Z 7 rfl ?_
  refine st_cond rfl (fun hc => ?_) (fun hc => ?_)
  · replace h := (if_pos hc).mp h
    refine Z 5 rfl ?_
    refine st_ord [] [] rfl ?_
    obtain rfl := Eq.symm h
    exact st_ret (gs' := []) Tryd.func108 rfl (List.Sublist.refl _) hl7 ⟨rfl, rfl⟩
  · replace h := (if_neg (ne_t hc)).mp h
    refine Z 6 rfl ?_
    refine st_cut (fun ρ τ8 gs => ∃ (s8 : Unit), msg_cells_j1 s8 r ∧ τ6.Le τ8 ∧ ρ = [(4, .int .i64 0)] ∧ gs = []) ?_ (fun hk8 => ?_)
    · rintro ρ8 τ8 gs8 ⟨s8, h, hl8, rfl, rfl⟩
      refine Z 4 rfl ?_
      obtain rfl := Eq.symm h
      exact st_ret (gs' := []) Tryd.func108 rfl (List.Sublist.refl _) (hl7.trans hl8) ⟨rfl, rfl⟩
    refine Z 3 rfl ?_
    refine o_lenI rfl rfl rfl z_slT24 rfl (hs2.up hl7) ?_
    refine Z 2 rfl ?_
    obtain ⟨e9, hL9, hA9⟩ := h
    refine st_env (ρ' := [(4, .int .i64 0), (6, .int .i64 (-1)), (16, v1), (17, .int .i64 (a0.length : Int)), (18, .int .i64 0)]) ⟨rfl, rfl, rfl, rfl, rfl, trivial⟩ ?_
    refine st_ord [] [] rfl ?_
    refine st_loop hL9 (fun (s9 : Int × Int) ρ τ9 gs => τ6.Le τ9 ∧ ρ = [(4, .int .i64 0), (6, .int .i64 s9.1), (16, v1), (17, .int .i64 (a0.length : Int)), (18, .int .i64 s9.2)] ∧ gs = []) ⟨Sto.Le.refl _, rfl, rfl⟩ ?_
    rintro s9 o9 h he9 ρ9 τ9 gs9 ⟨hl9, rfl, rfl⟩ hn9
    refine Z 5 rfl ?_
    refine st_cond rfl (fun hc => ?_) (fun hc => ?_)
    · replace h := (if_pos hc).mp h
      refine Z 5 rfl ?_
      obtain ⟨q10, hf11, h⟩ := h
      refine o_index rfl rfl rfl z_slT24 rfl rfl (hs2.up (hl7.trans hl9)) rfl hf11 (fun b12 of13 vs hc14 hrep => ?_)
      obtain rfl := hrep
      refine o_loadI (v := .int .i64 q10) rfl rfl rfl z_sc3 rfl (hc14 0 _ rfl) ?_
      refine Z 5 rfl ?_
      refine st_cut (fun ρ τ15 gs => ∃ (s15 : Bool), msg_cells_j3 s9 q10 s15 o9 ∧ τ9.Le τ15 ∧ ρ = [(4, .int .i64 0), (6, .int .i64 s9.1), (16, v1), (17, .int .i64 (a0.length : Int)), (18, .int .i64 s9.2), (8, .int .i64 q10), (22, .bool s15)] ∧ gs = []) ?_ (fun hk15 => ?_)
      · rintro ρ15 τ15 gs15 ⟨s15, h, hl15, rfl, rfl⟩
        refine st_cond rfl (fun hc => ?_) (fun hc => ?_)
        · replace h := (if_pos hc).mp h
          refine Z 4 rfl ?_
          obtain rfl := he9 _ h
          replace h := hA9
          obtain rfl := Eq.symm h
          exact st_ret (gs' := []) Tryd.func108 rfl (List.Sublist.refl _) ((hl7.trans hl9).trans hl15) ⟨rfl, rfl⟩
        · replace h := (if_neg (ne_t hc)).mp h
          refine Z 7 rfl ?_
          refine st_cond rfl (fun hc => ?_) (fun hc => ?_)
          · replace h := (if_pos hc).mp h
            refine Z 4 rfl ?_
            obtain rfl := he9 _ h
            replace h := hA9
            obtain rfl := Eq.symm h
            exact st_ret (gs' := []) Tryd.func108 rfl (List.Sublist.refl _) ((hl7.trans hl9).trans hl15) ⟨rfl, rfl⟩
          · replace h := (if_neg (ne_t hc)).mp h
            refine Z 11 rfl ?_
            refine st_env (ρ' := [(4, .int .i64 0), (6, .int .i64 q10), (16, v1), (17, .int .i64 (a0.length : Int)), (18, .int .i64 (IntKind.i64.wrap (s9.2 + 1)))]) ⟨rfl, rfl, rfl, rfl, rfl, trivial⟩ ?_
            exact hn9 _ _ _ _ h ⟨(hl9.trans hl15), rfl, rfl⟩
      refine Z 3 rfl ?_
      refine o_moveB rfl rfl rfl rfl (fun hc => ?_) (fun hc => ?_)
      · replace h := (if_pos hc).mp h
        refine Z 5 rfl ?_
        refine st_env (ρ' := [(4, .int .i64 0), (6, .int .i64 s9.1), (16, v1), (17, .int .i64 (a0.length : Int)), (18, .int .i64 s9.2), (8, .int .i64 q10), (22, .bool true)]) ⟨rfl, rfl, rfl, rfl, rfl, rfl, rfl, trivial⟩ ?_
        exact hk15 _ _ _ ⟨true, h, (Sto.Le.refl _), rfl, rfl⟩
      · replace h := (if_neg (ne_t hc)).mp h
        refine Z 5 rfl ?_
        refine st_env (ρ' := [(4, .int .i64 0), (6, .int .i64 s9.1), (16, v1), (17, .int .i64 (a0.length : Int)), (18, .int .i64 s9.2), (8, .int .i64 q10), (22, .bool (decide (65535 < q10)))]) ⟨rfl, rfl, rfl, rfl, rfl, rfl, rfl, trivial⟩ ?_
        exact hk15 _ _ _ ⟨(decide (65535 < q10)), h, (Sto.Le.refl _), rfl, rfl⟩
    · replace h := (if_neg (ne_t hc)).mp h
      refine st_exit rfl ?_
      obtain rfl := he9 _ h
      replace h := hA9
      refine st_env (ρ' := [(4, .int .i64 0)]) ⟨rfl, trivial⟩ ?_
      exact hk8 _ _ _ ⟨(), h, hl9, rfl, rfl⟩
theorem msg_text_ok {a0 : ByteArray} {a1 : ByteArray × Int × Int × Int × Int × Int × Int} {r : Int} (h : msg_text a0 a1 r) (σ : Sto)  :
    Does Tryd.prog 109 [.string a0, .agg [.string a1.1, .int .i64 a1.2.1, .int .i64 a1.2.2.1, .int .i64 a1.2.2.2.1, .int .i64 a1.2.2.2.2.1, .int .i64 a1.2.2.2.2.2.1, .int .i64 a1.2.2.2.2.2.2].toArray] σ [] (fun v τ gs => gs = [] ∧ .int .i64 r = v) := by
  refine call_of Tryd.func109 Tryd.ntmps109 rfl rfl (fun cs fs => ?_)
  refine Z 2 rfl ?_
  refine o_box (cs := [.string a1.1, .int .i64 a1.2.1, .int .i64 a1.2.2.1, .int .i64 a1.2.2.2.1, .int .i64 a1.2.2.2.2.1, .int .i64 a1.2.2.2.2.2.1, .int .i64 a1.2.2.2.2.2.2]) rfl rfl rfl rfl rfl (fun b1 => ?_)
  refine Z 7 rfl ?_
  refine o_loadN (j := 0) (vs := [.string a1.1, .int .i64 a1.2.1, .int .i64 a1.2.2.1, .int .i64 a1.2.2.2.1, .int .i64 a1.2.2.2.2.1, .int .i64 a1.2.2.2.2.2.1, .int .i64 a1.2.2.2.2.2.2]) rfl rfl rfl z_agg121 rfl rfl rfl ?_
  obtain ⟨r2, hr3, h⟩ := h
  refine st_call (foot := []) rfl rfl rfl rfl rfl rfl (callV_fn z_en146 (msg_many_ok hr3 σ)) ?_
  rintro vτ4 τ4 gsτ4 hl5 ⟨rfl, rfl⟩
  refine Z 7 rfl ?_
  refine st_cond rfl (fun hc => ?_) (fun hc => ?_)
  · replace h := (if_pos hc).mp h
    refine Z 5 rfl ?_
    refine st_ord [] [] rfl ?_
    obtain rfl := Eq.symm h
    exact st_ret (gs' := []) Tryd.func109 rfl (List.Sublist.refl _) hl5 ⟨rfl, rfl⟩
  · replace h := (if_neg (ne_t hc)).mp h
    refine Z 2 rfl ?_
    refine st_cut (fun ρ τ6 gs => ∃ (s6 : Unit), msg_text_j1 s6 r ∧ τ4.Le τ6 ∧ ρ = [(4, .int .i64 0)] ∧ gs = []) ?_ (fun hk6 => ?_)
    · rintro ρ6 τ6 gs6 ⟨s6, h, hl6, rfl, rfl⟩
      refine Z 4 rfl ?_
      obtain rfl := Eq.symm h
      exact st_ret (gs' := []) Tryd.func109 rfl (List.Sublist.refl _) (hl5.trans hl6) ⟨rfl, rfl⟩
    refine Z 3 rfl ?_
    obtain ⟨hf11, h⟩ := h
    refine o_bytes rfl rfl rfl Tryd.underlying9 Tryd.underlying67 Tryd.underlying5 rfl hf11 (fun v7 τ8 hl9 hs10 => ?_)
    refine o_lenI rfl rfl rfl z_slT67 rfl hs10 ?_
    refine Z 2 rfl ?_
    obtain ⟨e12, hL12, hA12⟩ := h
    refine st_env (ρ' := [(4, .int .i64 0), (16, v7), (17, .int .i64 ((bints a0).length : Int)), (18, .int .i64 0)]) ⟨rfl, rfl, rfl, rfl, trivial⟩ ?_
    refine st_ord [] [] rfl ?_
    refine st_loop hL12 (fun (s12 : Int) ρ τ12 gs => τ8.Le τ12 ∧ ρ = [(4, .int .i64 0), (16, v7), (17, .int .i64 ((bints a0).length : Int)), (18, .int .i64 s12)] ∧ gs = []) ⟨Sto.Le.refl _, rfl, rfl⟩ ?_
    rintro s12 o12 h he12 ρ12 τ12 gs12 ⟨hl12, rfl, rfl⟩ hn12
    refine Z 5 rfl ?_
    refine st_cond rfl (fun hc => ?_) (fun hc => ?_)
    · replace h := (if_pos hc).mp h
      refine Z 5 rfl ?_
      obtain ⟨q13, hf14, h⟩ := h
      refine o_index rfl rfl rfl z_slT67 rfl rfl (hs10.up hl12) rfl hf14 (fun b15 of16 vs hc17 hrep => ?_)
      obtain rfl := hrep
      refine o_loadI (v := .int .u8 q13) rfl rfl rfl z_sc5 rfl (hc17 0 _ rfl) ?_
      refine Z 3 rfl ?_
      refine st_cut (fun ρ τ18 gs => ∃ (s18 : Bool), msg_text_j3 s12 s18 o12 ∧ τ12.Le τ18 ∧ ρ = [(4, .int .i64 0), (16, v7), (17, .int .i64 ((bints a0).length : Int)), (18, .int .i64 s12), (27, .bool s18)] ∧ gs = []) ?_ (fun hk18 => ?_)
      · rintro ρ18 τ18 gs18 ⟨s18, h, hl18, rfl, rfl⟩
        refine st_cond rfl (fun hc => ?_) (fun hc => ?_)
        · replace h := (if_pos hc).mp h
          refine Z 4 rfl ?_
          obtain rfl := he12 _ h
          replace h := hA12
          obtain rfl := Eq.symm h
          exact st_ret (gs' := []) Tryd.func109 rfl (List.Sublist.refl _) (((hl5.trans hl9).trans hl12).trans hl18) ⟨rfl, rfl⟩
        · replace h := (if_neg (ne_t hc)).mp h
          refine Z 6 rfl ?_
          refine st_env (ρ' := [(4, .int .i64 0), (16, v7), (17, .int .i64 ((bints a0).length : Int)), (18, .int .i64 (IntKind.i64.wrap (s12 + 1)))]) ⟨rfl, rfl, rfl, rfl, trivial⟩ ?_
          exact hn12 _ _ _ _ h ⟨(hl12.trans hl18), rfl, rfl⟩
      refine Z 3 rfl ?_
      refine o_moveB rfl rfl rfl rfl (fun hc => ?_) (fun hc => ?_)
      · replace h := (if_pos hc).mp h
        refine Z 4 rfl ?_
        refine st_env (ρ' := [(4, .int .i64 0), (16, v7), (17, .int .i64 ((bints a0).length : Int)), (18, .int .i64 s12), (27, .bool true)]) ⟨rfl, rfl, rfl, rfl, rfl, trivial⟩ ?_
        exact hk18 _ _ _ ⟨true, h, (Sto.Le.refl _), rfl, rfl⟩
      · replace h := (if_neg (ne_t hc)).mp h
        refine Z 4 rfl ?_
        refine st_env (ρ' := [(4, .int .i64 0), (16, v7), (17, .int .i64 ((bints a0).length : Int)), (18, .int .i64 s12), (27, .bool (decide (126 < q13)))]) ⟨rfl, rfl, rfl, rfl, rfl, trivial⟩ ?_
        exact hk18 _ _ _ ⟨(decide (126 < q13)), h, (Sto.Le.refl _), rfl, rfl⟩
    · replace h := (if_neg (ne_t hc)).mp h
      refine st_exit rfl ?_
      obtain rfl := he12 _ h
      replace h := hA12
      refine st_env (ρ' := [(4, .int .i64 0)]) ⟨rfl, trivial⟩ ?_
      exact hk6 _ _ _ ⟨(), h, (hl9.trans hl12), rfl, rfl⟩
theorem msg_wrong_ok {a0 : Int × List Int × List (Int × Int) × List Int × ByteArray × ByteArray} {a1 : ByteArray × Int × Int × Int × Int × Int × Int} {v1 : Value} {v2 : Value} {r : Int} (h : msg_wrong a0 a1 r) (σ : Sto) (hs3 : Sl (kP (kI .i64) (kI .i64)) σ v1 a0.2.2.1) (hs4 : Sl (kI .i64) σ v2 a0.2.2.2.1) :
    Does Tryd.prog 67 [.agg [.int .i64 a0.1, .int .i64 (a0.2.1.getD 0 0), .int .i64 (a0.2.1.getD 1 0), .int .i64 (a0.2.1.getD 2 0), .int .i64 (a0.2.1.getD 3 0), .int .i64 (a0.2.1.getD 4 0), .int .i64 (a0.2.1.getD 5 0), v1, v2, .string a0.2.2.2.2.1, .string a0.2.2.2.2.2].toArray, .agg [.string a1.1, .int .i64 a1.2.1, .int .i64 a1.2.2.1, .int .i64 a1.2.2.2.1, .int .i64 a1.2.2.2.2.1, .int .i64 a1.2.2.2.2.2.1, .int .i64 a1.2.2.2.2.2.2].toArray] σ [] (fun v τ gs => gs = [] ∧ .int .i64 r = v) := by
  refine call_of Tryd.func67 Tryd.ntmps67 rfl rfl (fun cs fs => ?_)
  refine Z 2 rfl ?_
  refine o_box (cs := [.int .i64 a0.1, .int .i64 (a0.2.1.getD 0 0), .int .i64 (a0.2.1.getD 1 0), .int .i64 (a0.2.1.getD 2 0), .int .i64 (a0.2.1.getD 3 0), .int .i64 (a0.2.1.getD 4 0), .int .i64 (a0.2.1.getD 5 0), v1, v2, .string a0.2.2.2.2.1, .string a0.2.2.2.2.2]) rfl rfl rfl rfl rfl (fun b5 => ?_)
  refine o_box (cs := [.string a1.1, .int .i64 a1.2.1, .int .i64 a1.2.2.1, .int .i64 a1.2.2.2.1, .int .i64 a1.2.2.2.2.1, .int .i64 a1.2.2.2.2.2.1, .int .i64 a1.2.2.2.2.2.2]) rfl rfl rfl rfl rfl (fun b6 => ?_)
  refine Z 6 rfl ?_
  refine o_load (j := 0) (v := .int .i64 a1.2.1) rfl rfl rfl z_sc3 rfl rfl rfl ?_
  refine Z 7 rfl ?_
  refine st_cond rfl (fun hc => ?_) (fun hc => ?_)
  · replace h := (if_pos hc).mp h
    refine Z 3 rfl ?_
    refine o_load (j := 1) (v := v1) rfl rfl rfl z_sc23 rfl rfl rfl ?_
    refine o_loadN (j := 0) (vs := [.string a1.1, .int .i64 a1.2.1, .int .i64 a1.2.2.1, .int .i64 a1.2.2.2.1, .int .i64 a1.2.2.2.2.1, .int .i64 a1.2.2.2.2.2.1, .int .i64 a1.2.2.2.2.2.2]) rfl rfl rfl z_agg121 rfl rfl rfl ?_
    obtain ⟨r7, hr8, h⟩ := h
    refine st_call (foot := []) rfl rfl rfl rfl rfl rfl (callV_fn z_en107 (msg_path_ok hr8 σ hs3)) ?_
    rintro vτ9 τ9 gsτ9 hl10 ⟨rfl, rfl⟩
    refine Z 2 rfl ?_
    refine st_ord [] [] rfl ?_
    obtain rfl := Eq.symm h
    exact st_ret (gs' := []) Tryd.func67 rfl (List.Sublist.refl _) hl10 ⟨rfl, rfl⟩
  · replace h := (if_neg (ne_t hc)).mp h
    refine Z 5 rfl ?_
    refine st_cond rfl (fun hc => ?_) (fun hc => ?_)
    · replace h := (if_pos hc).mp h
      refine Z 3 rfl ?_
      refine o_load (j := 1) (v := v2) rfl rfl rfl z_sc24 rfl rfl rfl ?_
      refine o_loadN (j := 0) (vs := [.string a1.1, .int .i64 a1.2.1, .int .i64 a1.2.2.1, .int .i64 a1.2.2.2.1, .int .i64 a1.2.2.2.2.1, .int .i64 a1.2.2.2.2.2.1, .int .i64 a1.2.2.2.2.2.2]) rfl rfl rfl z_agg121 rfl rfl rfl ?_
      obtain ⟨r11, hr12, h⟩ := h
      refine st_call (foot := []) rfl rfl rfl rfl rfl rfl (callV_fn z_en108 (msg_cells_ok hr12 σ hs4)) ?_
      rintro vτ13 τ13 gsτ13 hl14 ⟨rfl, rfl⟩
      refine Z 2 rfl ?_
      refine st_ord [] [] rfl ?_
      obtain rfl := Eq.symm h
      exact st_ret (gs' := []) Tryd.func67 rfl (List.Sublist.refl _) hl14 ⟨rfl, rfl⟩
    · replace h := (if_neg (ne_t hc)).mp h
      refine Z 5 rfl ?_
      refine st_cond rfl (fun hc => ?_) (fun hc => ?_)
      · replace h := (if_pos hc).mp h
        refine Z 3 rfl ?_
        refine o_load (j := 1) (v := .string a0.2.2.2.2.1) rfl rfl rfl z_sc9 rfl rfl rfl ?_
        refine o_loadN (j := 0) (vs := [.string a1.1, .int .i64 a1.2.1, .int .i64 a1.2.2.1, .int .i64 a1.2.2.2.1, .int .i64 a1.2.2.2.2.1, .int .i64 a1.2.2.2.2.2.1, .int .i64 a1.2.2.2.2.2.2]) rfl rfl rfl z_agg121 rfl rfl rfl ?_
        obtain ⟨r15, hr16, h⟩ := h
        refine st_call (foot := []) rfl rfl rfl rfl rfl rfl (callV_fn z_en109 (msg_text_ok hr16 σ)) ?_
        rintro vτ17 τ17 gsτ17 hl18 ⟨rfl, rfl⟩
        refine Z 2 rfl ?_
        refine st_ord [] [] rfl ?_
        obtain rfl := Eq.symm h
        exact st_ret (gs' := []) Tryd.func67 rfl (List.Sublist.refl _) hl18 ⟨rfl, rfl⟩
      · replace h := (if_neg (ne_t hc)).mp h
        refine Z 5 rfl ?_
        refine st_cond rfl (fun hc => ?_) (fun hc => ?_)
        · replace h := (if_pos hc).mp h
          refine Z 3 rfl ?_
          refine o_load (j := 1) (v := .string a0.2.2.2.2.2) rfl rfl rfl z_sc9 rfl rfl rfl ?_
          refine o_loadN (j := 0) (vs := [.string a1.1, .int .i64 a1.2.1, .int .i64 a1.2.2.1, .int .i64 a1.2.2.2.1, .int .i64 a1.2.2.2.2.1, .int .i64 a1.2.2.2.2.2.1, .int .i64 a1.2.2.2.2.2.2]) rfl rfl rfl z_agg121 rfl rfl rfl ?_
          obtain ⟨r19, hr20, h⟩ := h
          refine st_call (foot := []) rfl rfl rfl rfl rfl rfl (callV_fn z_en109 (msg_text_ok hr20 σ)) ?_
          rintro vτ21 τ21 gsτ21 hl22 ⟨rfl, rfl⟩
          refine Z 2 rfl ?_
          refine st_ord [] [] rfl ?_
          obtain rfl := Eq.symm h
          exact st_ret (gs' := []) Tryd.func67 rfl (List.Sublist.refl _) hl22 ⟨rfl, rfl⟩
        · replace h := (if_neg (ne_t hc)).mp h
          refine Z 6 rfl ?_
          refine o_load (j := 0) (v := .int .i64 a1.2.2.1) rfl rfl rfl z_sc3 rfl rfl rfl ?_
          refine o_fieldAddr rfl rfl rfl z_field26_1 rfl ?_
          obtain ⟨hf23, hf24, h⟩ := h
          refine o_indexA rfl rfl rfl z_arr22 rfl rfl hf23 hf24 ?_
          refine o_loadV (j := 1) (a1.2.2.1.toNat) (f := (Value.int .i64)) (zz := 0) (l := 6) (xs := a0.2.1) [.int .i64 a0.1] [v1, v2, .string a0.2.2.2.2.1, .string a0.2.2.2.2.2] rfl rfl rfl z_sc3 rfl rfl (by simp only [List.length_cons, List.length_nil]; omega) (by omega) ?_
          refine Z 3 rfl ?_
          refine st_cut (fun ρ τ25 gs => ∃ (s25 : Bool), msg_wrong_j1 s25 r ∧ σ.Le τ25 ∧ ρ = [(4, .int .i64 0), (46, .bool s25)] ∧ gs = []) ?_ (fun hk25 => ?_)
          · rintro ρ25 τ25 gs25 ⟨s25, h, hl25, rfl, rfl⟩
            refine st_cond rfl (fun hc => ?_) (fun hc => ?_)
            · replace h := (if_pos hc).mp h
              refine Z 4 rfl ?_
              obtain rfl := Eq.symm h
              exact st_ret (gs' := []) Tryd.func67 rfl (List.Sublist.refl _) hl25 ⟨rfl, rfl⟩
            · replace h := (if_neg (ne_t hc)).mp h
              refine Z 5 rfl ?_
              obtain rfl := Eq.symm h
              exact st_ret (gs' := []) Tryd.func67 rfl (List.Sublist.refl _) hl25 ⟨rfl, rfl⟩
          refine Z 3 rfl ?_
          refine o_load (j := 0) (v := .int .i64 a1.2.2.2.1) rfl rfl rfl z_sc3 rfl rfl rfl ?_
          refine o_ibin (v := .bool (decide ((a0.2.1.getD a1.2.2.1.toNat 0) < a1.2.2.2.1))) rfl rfl rfl rfl rfl rfl ?_
          refine o_moveB rfl rfl rfl rfl (fun hc => ?_) (fun hc => ?_)
          · replace h := (if_pos hc).mp h
            refine Z 6 rfl ?_
            refine st_env (ρ' := [(4, .int .i64 0), (46, .bool true)]) ⟨rfl, rfl, trivial⟩ ?_
            refine st_ord [] [] rfl ?_
            exact hk25 _ _ _ ⟨true, h, (Sto.Le.refl _), rfl, rfl⟩
          · replace h := (if_neg (ne_t hc)).mp h
            refine Z 2 rfl ?_
            refine o_load (j := 0) (v := .int .i64 a1.2.2.2.2.1) rfl rfl rfl z_sc3 rfl rfl rfl ?_
            refine Z 3 rfl ?_
            refine st_env (ρ' := [(4, .int .i64 0), (46, .bool (decide (a1.2.2.2.2.1 < (a0.2.1.getD a1.2.2.1.toNat 0))))]) ⟨rfl, rfl, trivial⟩ ?_
            refine st_ord [] [] rfl ?_
            exact hk25 _ _ _ ⟨(decide (a1.2.2.2.2.1 < (a0.2.1.getD a1.2.2.1.toNat 0))), h, (Sto.Le.refl _), rfl, rfl⟩
theorem msg_without_ok {a0 : Int × List Int × List (Int × Int) × List Int × ByteArray × ByteArray} {a1 : ByteArray × Int × Int × Int × Int × Int × Int} {v1 : Value} {v2 : Value} {r : (Int × List Int × List (Int × Int) × List Int × ByteArray × ByteArray)} (h : msg_without a0 a1 r) (σ : Sto) (hs3 : Sl (kP (kI .i64) (kI .i64)) σ v1 a0.2.2.1) (hs4 : Sl (kI .i64) σ v2 a0.2.2.2.1) :
    Does Tryd.prog 68 [.agg [.int .i64 a0.1, .int .i64 (a0.2.1.getD 0 0), .int .i64 (a0.2.1.getD 1 0), .int .i64 (a0.2.1.getD 2 0), .int .i64 (a0.2.1.getD 3 0), .int .i64 (a0.2.1.getD 4 0), .int .i64 (a0.2.1.getD 5 0), v1, v2, .string a0.2.2.2.2.1, .string a0.2.2.2.2.2].toArray, .agg [.string a1.1, .int .i64 a1.2.1, .int .i64 a1.2.2.1, .int .i64 a1.2.2.2.1, .int .i64 a1.2.2.2.2.1, .int .i64 a1.2.2.2.2.2.1, .int .i64 a1.2.2.2.2.2.2].toArray] σ [] (fun v τ gs => ∃ (v15 : Value) (v16 : Value), gs = [] ∧ .agg [.int .i64 r.1, .int .i64 (r.2.1.getD 0 0), .int .i64 (r.2.1.getD 1 0), .int .i64 (r.2.1.getD 2 0), .int .i64 (r.2.1.getD 3 0), .int .i64 (r.2.1.getD 4 0), .int .i64 (r.2.1.getD 5 0), v15, v16, .string r.2.2.2.2.1, .string r.2.2.2.2.2].toArray = v ∧ Sl (kP (kI .i64) (kI .i64)) τ v15 r.2.2.1 ∧ Sl (kI .i64) τ v16 r.2.2.2.1) := by
  refine call_of Tryd.func68 Tryd.ntmps68 rfl rfl (fun cs fs => ?_)
  refine Z 2 rfl ?_
  refine o_box (cs := [.int .i64 a0.1, .int .i64 (a0.2.1.getD 0 0), .int .i64 (a0.2.1.getD 1 0), .int .i64 (a0.2.1.getD 2 0), .int .i64 (a0.2.1.getD 3 0), .int .i64 (a0.2.1.getD 4 0), .int .i64 (a0.2.1.getD 5 0), v1, v2, .string a0.2.2.2.2.1, .string a0.2.2.2.2.2]) rfl rfl rfl rfl rfl (fun b5 => ?_)
  refine o_box (cs := [.string a1.1, .int .i64 a1.2.1, .int .i64 a1.2.2.1, .int .i64 a1.2.2.2.1, .int .i64 a1.2.2.2.2.1, .int .i64 a1.2.2.2.2.2.1, .int .i64 a1.2.2.2.2.2.2]) rfl rfl rfl rfl rfl (fun b6 => ?_)
  refine o_alloc rfl rfl rfl z_zero26 (fun b7 => ?_)
  refine Z 2 rfl ?_
  refine st_cut (fun ρ τ8 gs => ∃ (s8 : Int × Int × Int × Int × Int × Int × (List (Int × Int)) × List Int × ByteArray × ByteArray) (v9 : Value) (v11 : Value), msg_without_j1 a0 s8 r ∧ σ.Le τ8 ∧ ρ = [(2, .pointer (some ⟨b5, 0, none⟩)), (4, .pointer (some ⟨b7, 0, none⟩))] ∧ gs = [[(b5, .cells [.int .i64 a0.1, .int .i64 s8.1, .int .i64 s8.2.1, .int .i64 s8.2.2.1, .int .i64 s8.2.2.2.1, .int .i64 s8.2.2.2.2.1, .int .i64 s8.2.2.2.2.2.1, v9, v11, .string s8.2.2.2.2.2.2.2.2.1, .string s8.2.2.2.2.2.2.2.2.2].toArray 26 (0, 0))], [(b7, .cells [.int .i64 0, .int .i64 0, .int .i64 0, .int .i64 0, .int .i64 0, .int .i64 0, .int .i64 0, .slice none 0 0, .slice none 0 0, .string (bstr []), .string (bstr [])].toArray 26 (0, 0))]] ∧ Sl (kP (kI .i64) (kI .i64)) τ8 v9 s8.2.2.2.2.2.2.1 ∧ Sl (kI .i64) τ8 v11 s8.2.2.2.2.2.2.2.1) ?_ (fun hk8 => ?_)
  · rintro ρ8 τ8 gs8 ⟨s8, v9, v11, h, hl8, rfl, rfl, hs10, hs12⟩
    refine Z 2 rfl ?_
    refine o_loadN (j := 0) (vs := [.int .i64 a0.1, .int .i64 s8.1, .int .i64 s8.2.1, .int .i64 s8.2.2.1, .int .i64 s8.2.2.2.1, .int .i64 s8.2.2.2.2.1, .int .i64 s8.2.2.2.2.2.1, v9, v11, .string s8.2.2.2.2.2.2.2.2.1, .string s8.2.2.2.2.2.2.2.2.2]) rfl rfl rfl z_agg26 rfl rfl rfl ?_
    refine o_store (j := 1) (vs := [.int .i64 a0.1, .int .i64 s8.1, .int .i64 s8.2.1, .int .i64 s8.2.2.1, .int .i64 s8.2.2.2.1, .int .i64 s8.2.2.2.2.1, .int .i64 s8.2.2.2.2.2.1, v9, v11, .string s8.2.2.2.2.2.2.2.2.1, .string s8.2.2.2.2.2.2.2.2.2]) (cs' := [.int .i64 a0.1, .int .i64 s8.1, .int .i64 s8.2.1, .int .i64 s8.2.2.1, .int .i64 s8.2.2.2.1, .int .i64 s8.2.2.2.2.1, .int .i64 s8.2.2.2.2.2.1, v9, v11, .string s8.2.2.2.2.2.2.2.2.1, .string s8.2.2.2.2.2.2.2.2.2]) rfl rfl rfl z_size26 rfl rfl rfl (ones_cons rfl (ones_cons rfl (ones_cons rfl (ones_cons rfl (ones_cons rfl (ones_cons rfl (ones_cons rfl (ones_cons hs10.one' (ones_cons hs12.one' (ones_cons rfl (ones_cons rfl ones_nil))))))))))) rfl rfl rfl ?_
    refine st_gs [[(b5, .cells [.int .i64 a0.1, .int .i64 s8.1, .int .i64 s8.2.1, .int .i64 s8.2.2.1, .int .i64 s8.2.2.2.1, .int .i64 s8.2.2.2.2.1, .int .i64 s8.2.2.2.2.2.1, v9, v11, .string s8.2.2.2.2.2.2.2.2.1, .string s8.2.2.2.2.2.2.2.2.2].toArray 26 (0, 0))], [(b7, .cells [.int .i64 a0.1, .int .i64 s8.1, .int .i64 s8.2.1, .int .i64 s8.2.2.1, .int .i64 s8.2.2.2.1, .int .i64 s8.2.2.2.2.1, .int .i64 s8.2.2.2.2.2.1, v9, v11, .string s8.2.2.2.2.2.2.2.2.1, .string s8.2.2.2.2.2.2.2.2.2].toArray 26 (0, 0))]] rfl ?_
    refine st_end ?_
    obtain rfl := Eq.symm h
    exact st_retC (gs' := []) [.agg [.int .i64 a0.1, .int .i64 s8.1, .int .i64 s8.2.1, .int .i64 s8.2.2.1, .int .i64 s8.2.2.2.1, .int .i64 s8.2.2.2.2.1, .int .i64 s8.2.2.2.2.2.1, v9, v11, .string s8.2.2.2.2.2.2.2.2.1, .string s8.2.2.2.2.2.2.2.2.2].toArray] Tryd.func68 ⟨⟨_, _, _, _, rfl, mem_flat 1 rfl, fun w hw => cellOfN (vs := [.int .i64 a0.1, .int .i64 s8.1, .int .i64 s8.2.1, .int .i64 s8.2.2.1, .int .i64 s8.2.2.2.1, .int .i64 s8.2.2.2.2.1, .int .i64 s8.2.2.2.2.2.1, v9, v11, .string s8.2.2.2.2.2.2.2.2.1, .string s8.2.2.2.2.2.2.2.2.2]) z_agg26 rfl w hw⟩, trivial⟩ (by simp) hl8 ⟨_, _, rfl, rfl, hs10, hs12⟩
  refine Z 3 rfl ?_
  refine o_load (j := 1) (v := .int .i64 a1.2.1) rfl rfl rfl z_sc3 rfl rfl rfl ?_
  refine Z 7 rfl ?_
  refine st_cond rfl (fun hc => ?_) (fun hc => ?_)
  · replace h := (if_pos hc).mp h
    refine Z 2 rfl ?_
    refine o_store (j := 2) (vs := [.slice none 0 0]) (cs' := [.int .i64 a0.1, .int .i64 (a0.2.1.getD 0 0), .int .i64 (a0.2.1.getD 1 0), .int .i64 (a0.2.1.getD 2 0), .int .i64 (a0.2.1.getD 3 0), .int .i64 (a0.2.1.getD 4 0), .int .i64 (a0.2.1.getD 5 0), .slice none 0 0, v2, .string a0.2.2.2.2.1, .string a0.2.2.2.2.2]) rfl rfl rfl z_size23 rfl rfl rfl (ones_cons rfl ones_nil) rfl rfl rfl ?_
    refine st_gs [[(b7, .cells [.int .i64 0, .int .i64 0, .int .i64 0, .int .i64 0, .int .i64 0, .int .i64 0, .int .i64 0, .slice none 0 0, .slice none 0 0, .string (bstr []), .string (bstr [])].toArray 26 (0, 0))], [(b6, .cells [.string a1.1, .int .i64 a1.2.1, .int .i64 a1.2.2.1, .int .i64 a1.2.2.2.1, .int .i64 a1.2.2.2.2.1, .int .i64 a1.2.2.2.2.2.1, .int .i64 a1.2.2.2.2.2.2].toArray 121 (0, 0))], [(b5, .cells [.int .i64 a0.1, .int .i64 (a0.2.1.getD 0 0), .int .i64 (a0.2.1.getD 1 0), .int .i64 (a0.2.1.getD 2 0), .int .i64 (a0.2.1.getD 3 0), .int .i64 (a0.2.1.getD 4 0), .int .i64 (a0.2.1.getD 5 0), .slice none 0 0, v2, .string a0.2.2.2.2.1, .string a0.2.2.2.2.2].toArray 26 (0, 0))]] rfl ?_
    refine Z 2 rfl ?_
    refine st_env (ρ' := [(2, .pointer (some ⟨b5, 0, none⟩)), (4, .pointer (some ⟨b7, 0, none⟩))]) ⟨rfl, rfl, trivial⟩ ?_
    refine st_ord [2, 0] [[(b5, .cells [.int .i64 a0.1, .int .i64 (a0.2.1.getD 0 0), .int .i64 (a0.2.1.getD 1 0), .int .i64 (a0.2.1.getD 2 0), .int .i64 (a0.2.1.getD 3 0), .int .i64 (a0.2.1.getD 4 0), .int .i64 (a0.2.1.getD 5 0), .slice none 0 0, v2, .string a0.2.2.2.2.1, .string a0.2.2.2.2.2].toArray 26 (0, 0))], [(b7, .cells [.int .i64 0, .int .i64 0, .int .i64 0, .int .i64 0, .int .i64 0, .int .i64 0, .int .i64 0, .slice none 0 0, .slice none 0 0, .string (bstr []), .string (bstr [])].toArray 26 (0, 0))]] rfl ?_
    exact hk8 _ _ _ ⟨((a0.2.1.getD 0 0), (a0.2.1.getD 1 0), (a0.2.1.getD 2 0), (a0.2.1.getD 3 0), (a0.2.1.getD 4 0), (a0.2.1.getD 5 0), [], a0.2.2.2.1, a0.2.2.2.2.1, a0.2.2.2.2.2), _, _, h, (Sto.Le.refl _), rfl, rfl, Sl.nil, hs4⟩
  · replace h := (if_neg (ne_t hc)).mp h
    refine Z 5 rfl ?_
    refine st_cond rfl (fun hc => ?_) (fun hc => ?_)
    · replace h := (if_pos hc).mp h
      refine Z 2 rfl ?_
      refine o_store (j := 2) (vs := [.slice none 0 0]) (cs' := [.int .i64 a0.1, .int .i64 (a0.2.1.getD 0 0), .int .i64 (a0.2.1.getD 1 0), .int .i64 (a0.2.1.getD 2 0), .int .i64 (a0.2.1.getD 3 0), .int .i64 (a0.2.1.getD 4 0), .int .i64 (a0.2.1.getD 5 0), v1, .slice none 0 0, .string a0.2.2.2.2.1, .string a0.2.2.2.2.2]) rfl rfl rfl z_size24 rfl rfl rfl (ones_cons rfl ones_nil) rfl rfl rfl ?_
      refine st_gs [[(b7, .cells [.int .i64 0, .int .i64 0, .int .i64 0, .int .i64 0, .int .i64 0, .int .i64 0, .int .i64 0, .slice none 0 0, .slice none 0 0, .string (bstr []), .string (bstr [])].toArray 26 (0, 0))], [(b6, .cells [.string a1.1, .int .i64 a1.2.1, .int .i64 a1.2.2.1, .int .i64 a1.2.2.2.1, .int .i64 a1.2.2.2.2.1, .int .i64 a1.2.2.2.2.2.1, .int .i64 a1.2.2.2.2.2.2].toArray 121 (0, 0))], [(b5, .cells [.int .i64 a0.1, .int .i64 (a0.2.1.getD 0 0), .int .i64 (a0.2.1.getD 1 0), .int .i64 (a0.2.1.getD 2 0), .int .i64 (a0.2.1.getD 3 0), .int .i64 (a0.2.1.getD 4 0), .int .i64 (a0.2.1.getD 5 0), v1, .slice none 0 0, .string a0.2.2.2.2.1, .string a0.2.2.2.2.2].toArray 26 (0, 0))]] rfl ?_
      refine Z 2 rfl ?_
      refine st_env (ρ' := [(2, .pointer (some ⟨b5, 0, none⟩)), (4, .pointer (some ⟨b7, 0, none⟩))]) ⟨rfl, rfl, trivial⟩ ?_
      refine st_ord [2, 0] [[(b5, .cells [.int .i64 a0.1, .int .i64 (a0.2.1.getD 0 0), .int .i64 (a0.2.1.getD 1 0), .int .i64 (a0.2.1.getD 2 0), .int .i64 (a0.2.1.getD 3 0), .int .i64 (a0.2.1.getD 4 0), .int .i64 (a0.2.1.getD 5 0), v1, .slice none 0 0, .string a0.2.2.2.2.1, .string a0.2.2.2.2.2].toArray 26 (0, 0))], [(b7, .cells [.int .i64 0, .int .i64 0, .int .i64 0, .int .i64 0, .int .i64 0, .int .i64 0, .int .i64 0, .slice none 0 0, .slice none 0 0, .string (bstr []), .string (bstr [])].toArray 26 (0, 0))]] rfl ?_
      exact hk8 _ _ _ ⟨((a0.2.1.getD 0 0), (a0.2.1.getD 1 0), (a0.2.1.getD 2 0), (a0.2.1.getD 3 0), (a0.2.1.getD 4 0), (a0.2.1.getD 5 0), a0.2.2.1, [], a0.2.2.2.2.1, a0.2.2.2.2.2), _, _, h, (Sto.Le.refl _), rfl, rfl, hs3, Sl.nil⟩
    · replace h := (if_neg (ne_t hc)).mp h
      refine Z 5 rfl ?_
      refine st_cond rfl (fun hc => ?_) (fun hc => ?_)
      · replace h := (if_pos hc).mp h
        refine Z 2 rfl ?_
        refine o_store (j := 2) (vs := [.string (bstr [])]) (cs' := [.int .i64 a0.1, .int .i64 (a0.2.1.getD 0 0), .int .i64 (a0.2.1.getD 1 0), .int .i64 (a0.2.1.getD 2 0), .int .i64 (a0.2.1.getD 3 0), .int .i64 (a0.2.1.getD 4 0), .int .i64 (a0.2.1.getD 5 0), v1, v2, .string (bstr []), .string a0.2.2.2.2.2]) rfl rfl rfl z_size9 rfl (ev_str z_str19) rfl (ones_cons rfl ones_nil) rfl rfl rfl ?_
        refine st_gs [[(b7, .cells [.int .i64 0, .int .i64 0, .int .i64 0, .int .i64 0, .int .i64 0, .int .i64 0, .int .i64 0, .slice none 0 0, .slice none 0 0, .string (bstr []), .string (bstr [])].toArray 26 (0, 0))], [(b6, .cells [.string a1.1, .int .i64 a1.2.1, .int .i64 a1.2.2.1, .int .i64 a1.2.2.2.1, .int .i64 a1.2.2.2.2.1, .int .i64 a1.2.2.2.2.2.1, .int .i64 a1.2.2.2.2.2.2].toArray 121 (0, 0))], [(b5, .cells [.int .i64 a0.1, .int .i64 (a0.2.1.getD 0 0), .int .i64 (a0.2.1.getD 1 0), .int .i64 (a0.2.1.getD 2 0), .int .i64 (a0.2.1.getD 3 0), .int .i64 (a0.2.1.getD 4 0), .int .i64 (a0.2.1.getD 5 0), v1, v2, .string (bstr []), .string a0.2.2.2.2.2].toArray 26 (0, 0))]] rfl ?_
        refine Z 2 rfl ?_
        refine st_env (ρ' := [(2, .pointer (some ⟨b5, 0, none⟩)), (4, .pointer (some ⟨b7, 0, none⟩))]) ⟨rfl, rfl, trivial⟩ ?_
        refine st_ord [2, 0] [[(b5, .cells [.int .i64 a0.1, .int .i64 (a0.2.1.getD 0 0), .int .i64 (a0.2.1.getD 1 0), .int .i64 (a0.2.1.getD 2 0), .int .i64 (a0.2.1.getD 3 0), .int .i64 (a0.2.1.getD 4 0), .int .i64 (a0.2.1.getD 5 0), v1, v2, .string (bstr []), .string a0.2.2.2.2.2].toArray 26 (0, 0))], [(b7, .cells [.int .i64 0, .int .i64 0, .int .i64 0, .int .i64 0, .int .i64 0, .int .i64 0, .int .i64 0, .slice none 0 0, .slice none 0 0, .string (bstr []), .string (bstr [])].toArray 26 (0, 0))]] rfl ?_
        exact hk8 _ _ _ ⟨((a0.2.1.getD 0 0), (a0.2.1.getD 1 0), (a0.2.1.getD 2 0), (a0.2.1.getD 3 0), (a0.2.1.getD 4 0), (a0.2.1.getD 5 0), a0.2.2.1, a0.2.2.2.1, (bstr []), a0.2.2.2.2.2), _, _, h, (Sto.Le.refl _), rfl, rfl, hs3, hs4⟩
      · replace h := (if_neg (ne_t hc)).mp h
        refine Z 5 rfl ?_
        refine st_cond rfl (fun hc => ?_) (fun hc => ?_)
        · replace h := (if_pos hc).mp h
          refine Z 2 rfl ?_
          refine o_store (j := 2) (vs := [.string (bstr [])]) (cs' := [.int .i64 a0.1, .int .i64 (a0.2.1.getD 0 0), .int .i64 (a0.2.1.getD 1 0), .int .i64 (a0.2.1.getD 2 0), .int .i64 (a0.2.1.getD 3 0), .int .i64 (a0.2.1.getD 4 0), .int .i64 (a0.2.1.getD 5 0), v1, v2, .string a0.2.2.2.2.1, .string (bstr [])]) rfl rfl rfl z_size9 rfl (ev_str z_str19) rfl (ones_cons rfl ones_nil) rfl rfl rfl ?_
          refine st_gs [[(b7, .cells [.int .i64 0, .int .i64 0, .int .i64 0, .int .i64 0, .int .i64 0, .int .i64 0, .int .i64 0, .slice none 0 0, .slice none 0 0, .string (bstr []), .string (bstr [])].toArray 26 (0, 0))], [(b6, .cells [.string a1.1, .int .i64 a1.2.1, .int .i64 a1.2.2.1, .int .i64 a1.2.2.2.1, .int .i64 a1.2.2.2.2.1, .int .i64 a1.2.2.2.2.2.1, .int .i64 a1.2.2.2.2.2.2].toArray 121 (0, 0))], [(b5, .cells [.int .i64 a0.1, .int .i64 (a0.2.1.getD 0 0), .int .i64 (a0.2.1.getD 1 0), .int .i64 (a0.2.1.getD 2 0), .int .i64 (a0.2.1.getD 3 0), .int .i64 (a0.2.1.getD 4 0), .int .i64 (a0.2.1.getD 5 0), v1, v2, .string a0.2.2.2.2.1, .string (bstr [])].toArray 26 (0, 0))]] rfl ?_
          refine Z 2 rfl ?_
          refine st_env (ρ' := [(2, .pointer (some ⟨b5, 0, none⟩)), (4, .pointer (some ⟨b7, 0, none⟩))]) ⟨rfl, rfl, trivial⟩ ?_
          refine st_ord [2, 0] [[(b5, .cells [.int .i64 a0.1, .int .i64 (a0.2.1.getD 0 0), .int .i64 (a0.2.1.getD 1 0), .int .i64 (a0.2.1.getD 2 0), .int .i64 (a0.2.1.getD 3 0), .int .i64 (a0.2.1.getD 4 0), .int .i64 (a0.2.1.getD 5 0), v1, v2, .string a0.2.2.2.2.1, .string (bstr [])].toArray 26 (0, 0))], [(b7, .cells [.int .i64 0, .int .i64 0, .int .i64 0, .int .i64 0, .int .i64 0, .int .i64 0, .int .i64 0, .slice none 0 0, .slice none 0 0, .string (bstr []), .string (bstr [])].toArray 26 (0, 0))]] rfl ?_
          exact hk8 _ _ _ ⟨((a0.2.1.getD 0 0), (a0.2.1.getD 1 0), (a0.2.1.getD 2 0), (a0.2.1.getD 3 0), (a0.2.1.getD 4 0), (a0.2.1.getD 5 0), a0.2.2.1, a0.2.2.2.1, a0.2.2.2.2.1, (bstr [])), _, _, h, (Sto.Le.refl _), rfl, rfl, hs3, hs4⟩
        · replace h := (if_neg (ne_t hc)).mp h
          refine Z 2 rfl ?_
          refine o_load (j := 1) (v := .int .i64 a1.2.2.1) rfl rfl rfl z_sc3 rfl rfl rfl ?_
          refine o_fieldAddr rfl rfl rfl z_field26_1 rfl ?_
          obtain ⟨hf13, hf14, h⟩ := h
          refine o_indexA rfl rfl rfl z_arr22 rfl rfl hf13 hf14 ?_
          refine o_storeV (j := 2) (a1.2.2.1.toNat) (f := (Value.int .i64)) (zz := 0) (a := 0) (l := 6) (xs := a0.2.1) [.int .i64 a0.1] [v1, v2, .string a0.2.2.2.2.1, .string a0.2.2.2.2.2] rfl rfl rfl z_size3 rfl rfl rfl rfl rfl (by simp only [List.length_cons, List.length_nil]; omega) (by omega) ?_
          refine st_gs [[(b7, .cells [.int .i64 0, .int .i64 0, .int .i64 0, .int .i64 0, .int .i64 0, .int .i64 0, .int .i64 0, .slice none 0 0, .slice none 0 0, .string (bstr []), .string (bstr [])].toArray 26 (0, 0))], [(b6, .cells [.string a1.1, .int .i64 a1.2.1, .int .i64 a1.2.2.1, .int .i64 a1.2.2.2.1, .int .i64 a1.2.2.2.2.1, .int .i64 a1.2.2.2.2.2.1, .int .i64 a1.2.2.2.2.2.2].toArray 121 (0, 0))], [(b5, .cells [.int .i64 a0.1, .int .i64 ((putN 6 0 a0.2.1 a1.2.2.1.toNat 0).getD 0 0), .int .i64 ((putN 6 0 a0.2.1 a1.2.2.1.toNat 0).getD 1 0), .int .i64 ((putN 6 0 a0.2.1 a1.2.2.1.toNat 0).getD 2 0), .int .i64 ((putN 6 0 a0.2.1 a1.2.2.1.toNat 0).getD 3 0), .int .i64 ((putN 6 0 a0.2.1 a1.2.2.1.toNat 0).getD 4 0), .int .i64 ((putN 6 0 a0.2.1 a1.2.2.1.toNat 0).getD 5 0), v1, v2, .string a0.2.2.2.2.1, .string a0.2.2.2.2.2].toArray 26 (0, 0))]] rfl ?_
          refine Z 2 rfl ?_
          refine st_env (ρ' := [(2, .pointer (some ⟨b5, 0, none⟩)), (4, .pointer (some ⟨b7, 0, none⟩))]) ⟨rfl, rfl, trivial⟩ ?_
          refine st_ord [2, 0] [[(b5, .cells [.int .i64 a0.1, .int .i64 ((putN 6 0 a0.2.1 a1.2.2.1.toNat 0).getD 0 0), .int .i64 ((putN 6 0 a0.2.1 a1.2.2.1.toNat 0).getD 1 0), .int .i64 ((putN 6 0 a0.2.1 a1.2.2.1.toNat 0).getD 2 0), .int .i64 ((putN 6 0 a0.2.1 a1.2.2.1.toNat 0).getD 3 0), .int .i64 ((putN 6 0 a0.2.1 a1.2.2.1.toNat 0).getD 4 0), .int .i64 ((putN 6 0 a0.2.1 a1.2.2.1.toNat 0).getD 5 0), v1, v2, .string a0.2.2.2.2.1, .string a0.2.2.2.2.2].toArray 26 (0, 0))], [(b7, .cells [.int .i64 0, .int .i64 0, .int .i64 0, .int .i64 0, .int .i64 0, .int .i64 0, .int .i64 0, .slice none 0 0, .slice none 0 0, .string (bstr []), .string (bstr [])].toArray 26 (0, 0))]] rfl ?_
          exact hk8 _ _ _ ⟨(((putN 6 0 a0.2.1 a1.2.2.1.toNat 0).getD 0 0), ((putN 6 0 a0.2.1 a1.2.2.1.toNat 0).getD 1 0), ((putN 6 0 a0.2.1 a1.2.2.1.toNat 0).getD 2 0), ((putN 6 0 a0.2.1 a1.2.2.1.toNat 0).getD 3 0), ((putN 6 0 a0.2.1 a1.2.2.1.toNat 0).getD 4 0), ((putN 6 0 a0.2.1 a1.2.2.1.toNat 0).getD 5 0), a0.2.2.1, a0.2.2.2.1, a0.2.2.2.2.1, a0.2.2.2.2.2), _, _, h, (Sto.Le.refl _), rfl, rfl, hs3, hs4⟩
theorem slices_Equal_msg_Point_msg_Point_ok {a0 : List (Int × Int)} {a1 : List (Int × Int)} {v1 : Value} {v3 : Value} {r : Bool} (h : slices_Equal_msg_Point_msg_Point a0 a1 r) (σ : Sto) (hs2 : Sl (kP (kI .i64) (kI .i64)) σ v1 a0) (hs4 : Sl (kP (kI .i64) (kI .i64)) σ v3 a1) :
    Does Tryd.prog 72 [v1, v3] σ [] (fun v τ gs => gs = [] ∧ .bool r = v) := by
  refine call_of Tryd.func72 Tryd.ntmps72 rfl rfl (fun cs fs => ?_)
  refine Z 8 rfl ?_
  refine o_lenI rfl rfl rfl z_slT23 rfl hs2 ?_
  refine o_move rfl rfl rfl rfl ?_
  refine o_lenI rfl rfl rfl z_slT23 rfl hs4 ?_
  refine Z 2 rfl ?_
  refine st_cond rfl (fun hc => ?_) (fun hc => ?_)
  · replace h := (if_pos hc).mp h
    refine Z 4 rfl ?_
    obtain rfl := Eq.symm h
    exact st_ret (gs' := []) Tryd.func72 rfl (List.Sublist.refl _) (Sto.Le.refl _) ⟨rfl, rfl⟩
  · replace h := (if_neg (ne_t hc)).mp h
    refine Z 2 rfl ?_
    refine st_cut (fun ρ τ5 gs => ∃ (s5 : Unit), slices_Equal_msg_Point_msg_Point_j1 s5 r ∧ σ.Le τ5 ∧ ρ = [(4, .bool false)] ∧ gs = []) ?_ (fun hk5 => ?_)
    · rintro ρ5 τ5 gs5 ⟨s5, h, hl5, rfl, rfl⟩
      refine Z 4 rfl ?_
      obtain rfl := Eq.symm h
      exact st_ret (gs' := []) Tryd.func72 rfl (List.Sublist.refl _) hl5 ⟨rfl, rfl⟩
    refine Z 3 rfl ?_
    refine o_lenI rfl rfl rfl z_slT23 rfl hs2 ?_
    refine Z 2 rfl ?_
    obtain ⟨e6, hL6, hA6⟩ := h
    refine st_env (ρ' := [(0, v1), (1, v3), (4, .bool false), (12, .int .i64 (a0.length : Int)), (13, .int .i64 0)]) ⟨rfl, rfl, rfl, rfl, rfl, trivial⟩ ?_
    refine st_loop hL6 (fun (s6 : Int) ρ τ6 gs => σ.Le τ6 ∧ ρ = [(0, v1), (1, v3), (4, .bool false), (12, .int .i64 (a0.length : Int)), (13, .int .i64 s6)] ∧ gs = []) ⟨Sto.Le.refl _, rfl, rfl⟩ ?_
    rintro s6 o6 h he6 ρ6 τ6 gs6 ⟨hl6, rfl, rfl⟩ hn6
    refine Z 5 rfl ?_
    refine st_cond rfl (fun hc => ?_) (fun hc => ?_)
    · replace h := (if_pos hc).mp h
      refine Z 9 rfl ?_
      obtain ⟨q7, hf8, q12, hf13, h⟩ := h
      refine st_draw 9 (tl [fun τ v => (v1 : Value) = v,
    fun τ v => (.int .i64 s6 : Value) = v,
    fun τ v => ∃ (b9 : Nat) (of10 : Nat) (vsb9 : List Value), (.pointer (some ⟨b9, of10, none⟩) : Value) = v ∧ CelN τ ⟨b9, of10, none⟩ vsb9 ∧ (kP (kI .i64) (kI .i64)).rep τ vsb9 q7,
    fun τ v => (.agg [.int .i64 q7.1, .int .i64 q7.2].toArray : Value) = v,
    fun τ v => (v3 : Value) = v,
    fun τ v => (.int .i64 s6 : Value) = v,
    fun τ v => ∃ (b14 : Nat) (of15 : Nat) (vsb14 : List Value), (.pointer (some ⟨b14, of15, none⟩) : Value) = v ∧ CelN τ ⟨b14, of15, none⟩ vsb14 ∧ (kP (kI .i64) (kI .i64)).rep τ vsb14 q12,
    fun τ v => (.agg [.int .i64 q12.1, .int .i64 q12.2].toArray : Value) = v,
    fun τ v => (.bool (!((decide (q7.1 = q12.1)) && ((decide (q7.2 = q12.2)) && true))) : Value) = v]) (fun _ _ => []) z_mix rfl (tl_mono ⟨fun _ _ _ _ h => h, ⟨fun _ _ _ _ h => h, ⟨fun _ _ _ hl ⟨b9, of10, vsb9, hv, hc11, hrepb9⟩ => ⟨b9, of10, vsb9, hv, hc11.up hl, Kd.mono _ hl hrepb9⟩, ⟨fun _ _ _ _ h => h, ⟨fun _ _ _ _ h => h, ⟨fun _ _ _ _ h => h, ⟨fun _ _ _ hl ⟨b14, of15, vsb14, hv, hc16, hrepb14⟩ => ⟨b14, of15, vsb14, hv, hc16.up hl, Kd.mono _ hl hrepb14⟩, ⟨fun _ _ _ _ h => h, ⟨fun _ _ _ _ h => h, trivial⟩⟩⟩⟩⟩⟩⟩⟩⟩) (allB_cons (allB_cons (allB_cons (allB_cons (allB_cons (allB_cons (allB_cons (allB_cons (allB_cons allB_nil ?_) ?_) ?_) ?_) ?_) ?_) ?_) ?_) ?_) ?_
      · intro ρ' τ pool rs hl hd hout hk
        refine o_move rfl rfl rfl ((hout 0 rfl).trans rfl) ?_
        exact st_addNil (hk _ _ (Sto.Le.refl _) rfl)
      · intro ρ' τ pool rs hl hd hout hk
        refine o_move rfl rfl rfl ((hout 5 rfl).trans rfl) ?_
        exact st_addNil (hk _ _ (Sto.Le.refl _) rfl)
      · intro ρ' τ pool rs hl hd hout hk
        obtain ⟨_, e0, rfl⟩ := hd 0 rfl
        obtain ⟨_, e1, rfl⟩ := hd 1 rfl
        refine o_index rfl rfl rfl z_slT23 rfl e0 (hs2.up (hl6.trans hl)) e1 hf8 (fun b9 of10 vsb9 hc11 hrepb9 => ?_)
        exact st_addNil (hk _ _ (Sto.Le.refl _) ⟨b9, of10, _, rfl, hc11, hrepb9⟩)
      · intro ρ' τ pool rs hl hd hout hk
        obtain ⟨_, e2, b9, of10, vsb9, rfl, hc11, hrepb9⟩ := hd 2 rfl
        have hrepb9 := hrepb9
        obtain ⟨_, _, rfl, rfl, rfl⟩ := hrepb9
        refine o_loadIN (vs := [.int .i64 q7.1, .int .i64 q7.2]) rfl rfl rfl z_agg46 e2 rfl (celn_part 0 rfl hc11) ?_
        exact st_addNil (hk _ _ (Sto.Le.refl _) rfl)
      · intro ρ' τ pool rs hl hd hout hk
        refine o_move rfl rfl rfl ((hout 1 rfl).trans rfl) ?_
        exact st_addNil (hk _ _ (Sto.Le.refl _) rfl)
      · intro ρ' τ pool rs hl hd hout hk
        refine o_move rfl rfl rfl ((hout 5 rfl).trans rfl) ?_
        exact st_addNil (hk _ _ (Sto.Le.refl _) rfl)
      · intro ρ' τ pool rs hl hd hout hk
        obtain ⟨_, e4, rfl⟩ := hd 4 rfl
        obtain ⟨_, e5, rfl⟩ := hd 5 rfl
        refine o_index rfl rfl rfl z_slT23 rfl e4 (hs4.up (hl6.trans hl)) e5 hf13 (fun b14 of15 vsb14 hc16 hrepb14 => ?_)
        exact st_addNil (hk _ _ (Sto.Le.refl _) ⟨b14, of15, _, rfl, hc16, hrepb14⟩)
      · intro ρ' τ pool rs hl hd hout hk
        obtain ⟨_, e6, b14, of15, vsb14, rfl, hc16, hrepb14⟩ := hd 6 rfl
        have hrepb14 := hrepb14
        obtain ⟨_, _, rfl, rfl, rfl⟩ := hrepb14
        refine o_loadIN (vs := [.int .i64 q12.1, .int .i64 q12.2]) rfl rfl rfl z_agg46 e6 rfl (celn_part 0 rfl hc16) ?_
        exact st_addNil (hk _ _ (Sto.Le.refl _) rfl)
      · intro ρ' τ pool rs hl hd hout hk
        obtain ⟨_, e3, rfl⟩ := hd 3 rfl
        obtain ⟨_, e7, rfl⟩ := hd 7 rfl
        refine o_aggEq (b := ((decide (q7.1 = q12.1)) && ((decide (q7.2 = q12.2)) && true))) (e := (!((decide (q7.1 = q12.1)) && ((decide (q7.2 = q12.2)) && true)))) rfl rfl rfl z_eqg46 e3 e7 (fun w => by refine eq_struct Tryd.underlying46 z_held46 ?_; refine eqf_cons (r := (decide (q7.1 = q12.1))) (r' := ((decide (q7.2 = q12.2)) && true)) rfl (part_one z_sc3 rfl) (part_one z_sc3 rfl) (by exact eq_int Tryd.underlying3 _ _) ?_; refine eqf_cons (r := (decide (q7.2 = q12.2))) (r' := true) rfl (part_one z_sc3 rfl) (part_one z_sc3 rfl) (by exact eq_int Tryd.underlying3 _ _) ?_; exact eqf_nil _ _ _ _) rfl ?_
        exact st_addNil (hk _ _ (Sto.Le.refl _) rfl)
      intro ρ' τ17 vals hl17 hv hout
      have l8 : Eng.look ρ' 24 = some (.bool (!((decide (q7.1 = q12.1)) && ((decide (q7.2 = q12.2)) && true)))) := ((hv 8 (by decide)).1).trans (congrArg some (show vals 8 = .bool (!((decide (q7.1 = q12.1)) && ((decide (q7.2 = q12.2)) && true))) from Eq.symm (hv 8 (by decide)).2))
      refine st_ord [] [] rfl ?_
      refine st_env (ρ' := [(24, .bool (!((decide (q7.1 = q12.1)) && ((decide (q7.2 = q12.2)) && true)))), (0, v1), (1, v3), (4, .bool false), (12, .int .i64 (a0.length : Int)), (13, .int .i64 s6)]) ⟨l8, (hout 0 rfl).trans rfl, (hout 1 rfl).trans rfl, (hout 4 rfl).trans rfl, (hout 12 rfl).trans rfl, (hout 13 rfl).trans rfl, trivial⟩ ?_
      refine st_end ?_
      refine st_cond rfl (fun hc => ?_) (fun hc => ?_)
      · replace h := (if_pos hc).mp h
        refine Z 4 rfl ?_
        obtain rfl := he6 _ h
        replace h := hA6
        obtain rfl := Eq.symm h
        exact st_ret (gs' := []) Tryd.func72 rfl (List.Sublist.refl _) (hl6.trans hl17) ⟨rfl, rfl⟩
      · replace h := (if_neg (ne_t hc)).mp h
        refine Z 6 rfl ?_
        refine st_env (ρ' := [(0, v1), (1, v3), (4, .bool false), (12, .int .i64 (a0.length : Int)), (13, .int .i64 (IntKind.i64.wrap (s6 + 1)))]) ⟨rfl, rfl, rfl, rfl, rfl, trivial⟩ ?_
        exact hn6 _ _ _ _ h ⟨(hl6.trans hl17), rfl, rfl⟩
    · replace h := (if_neg (ne_t hc)).mp h
      refine st_exit rfl ?_
      obtain rfl := he6 _ h
      replace h := hA6
      refine st_env (ρ' := [(4, .bool false)]) ⟨rfl, trivial⟩ ?_
      exact hk5 _ _ _ ⟨(), h, hl6, rfl, rfl⟩
theorem slices_Equal_int_int_ok {a0 : List Int} {a1 : List Int} {v1 : Value} {v3 : Value} {r : Bool} (h : slices_Equal_int_int a0 a1 r) (σ : Sto) (hs2 : Sl (kI .i64) σ v1 a0) (hs4 : Sl (kI .i64) σ v3 a1) :
    Does Tryd.prog 73 [v1, v3] σ [] (fun v τ gs => gs = [] ∧ .bool r = v) := by
  refine call_of Tryd.func73 Tryd.ntmps73 rfl rfl (fun cs fs => ?_)
  refine Z 8 rfl ?_
  refine o_lenI rfl rfl rfl z_slT24 rfl hs2 ?_
  refine o_move rfl rfl rfl rfl ?_
  refine o_lenI rfl rfl rfl z_slT24 rfl hs4 ?_
  refine Z 2 rfl ?_
  refine st_cond rfl (fun hc => ?_) (fun hc => ?_)
  · replace h := (if_pos hc).mp h
    refine Z 4 rfl ?_
    obtain rfl := Eq.symm h
    exact st_ret (gs' := []) Tryd.func73 rfl (List.Sublist.refl _) (Sto.Le.refl _) ⟨rfl, rfl⟩
  · replace h := (if_neg (ne_t hc)).mp h
    refine Z 2 rfl ?_
    refine st_cut (fun ρ τ5 gs => ∃ (s5 : Unit), slices_Equal_int_int_j1 s5 r ∧ σ.Le τ5 ∧ ρ = [(4, .bool false)] ∧ gs = []) ?_ (fun hk5 => ?_)
    · rintro ρ5 τ5 gs5 ⟨s5, h, hl5, rfl, rfl⟩
      refine Z 4 rfl ?_
      obtain rfl := Eq.symm h
      exact st_ret (gs' := []) Tryd.func73 rfl (List.Sublist.refl _) hl5 ⟨rfl, rfl⟩
    refine Z 3 rfl ?_
    refine o_lenI rfl rfl rfl z_slT24 rfl hs2 ?_
    refine Z 2 rfl ?_
    obtain ⟨e6, hL6, hA6⟩ := h
    refine st_env (ρ' := [(0, v1), (1, v3), (4, .bool false), (12, .int .i64 (a0.length : Int)), (13, .int .i64 0)]) ⟨rfl, rfl, rfl, rfl, rfl, trivial⟩ ?_
    refine st_loop hL6 (fun (s6 : Int) ρ τ6 gs => σ.Le τ6 ∧ ρ = [(0, v1), (1, v3), (4, .bool false), (12, .int .i64 (a0.length : Int)), (13, .int .i64 s6)] ∧ gs = []) ⟨Sto.Le.refl _, rfl, rfl⟩ ?_
    rintro s6 o6 h he6 ρ6 τ6 gs6 ⟨hl6, rfl, rfl⟩ hn6
    refine Z 5 rfl ?_
    refine st_cond rfl (fun hc => ?_) (fun hc => ?_)
    · replace h := (if_pos hc).mp h
      refine Z 9 rfl ?_
      obtain ⟨q7, hf8, q12, hf13, h⟩ := h
      refine st_draw 9 (tl [fun τ v => (v1 : Value) = v,
    fun τ v => (.int .i64 s6 : Value) = v,
    fun τ v => ∃ (b9 : Nat) (of10 : Nat) (vsb9 : List Value), (.pointer (some ⟨b9, of10, none⟩) : Value) = v ∧ CelN τ ⟨b9, of10, none⟩ vsb9 ∧ (kI .i64).rep τ vsb9 q7,
    fun τ v => (.int .i64 q7 : Value) = v,
    fun τ v => (v3 : Value) = v,
    fun τ v => (.int .i64 s6 : Value) = v,
    fun τ v => ∃ (b14 : Nat) (of15 : Nat) (vsb14 : List Value), (.pointer (some ⟨b14, of15, none⟩) : Value) = v ∧ CelN τ ⟨b14, of15, none⟩ vsb14 ∧ (kI .i64).rep τ vsb14 q12,
    fun τ v => (.int .i64 q12 : Value) = v,
    fun τ v => (.bool (!(decide (q7 = q12))) : Value) = v]) (fun _ _ => []) z_mix rfl (tl_mono ⟨fun _ _ _ _ h => h, ⟨fun _ _ _ _ h => h, ⟨fun _ _ _ hl ⟨b9, of10, vsb9, hv, hc11, hrepb9⟩ => ⟨b9, of10, vsb9, hv, hc11.up hl, Kd.mono _ hl hrepb9⟩, ⟨fun _ _ _ _ h => h, ⟨fun _ _ _ _ h => h, ⟨fun _ _ _ _ h => h, ⟨fun _ _ _ hl ⟨b14, of15, vsb14, hv, hc16, hrepb14⟩ => ⟨b14, of15, vsb14, hv, hc16.up hl, Kd.mono _ hl hrepb14⟩, ⟨fun _ _ _ _ h => h, ⟨fun _ _ _ _ h => h, trivial⟩⟩⟩⟩⟩⟩⟩⟩⟩) (allB_cons (allB_cons (allB_cons (allB_cons (allB_cons (allB_cons (allB_cons (allB_cons (allB_cons allB_nil ?_) ?_) ?_) ?_) ?_) ?_) ?_) ?_) ?_) ?_
      · intro ρ' τ pool rs hl hd hout hk
        refine o_move rfl rfl rfl ((hout 0 rfl).trans rfl) ?_
        exact st_addNil (hk _ _ (Sto.Le.refl _) rfl)
      · intro ρ' τ pool rs hl hd hout hk
        refine o_move rfl rfl rfl ((hout 5 rfl).trans rfl) ?_
        exact st_addNil (hk _ _ (Sto.Le.refl _) rfl)
      · intro ρ' τ pool rs hl hd hout hk
        obtain ⟨_, e0, rfl⟩ := hd 0 rfl
        obtain ⟨_, e1, rfl⟩ := hd 1 rfl
        refine o_index rfl rfl rfl z_slT24 rfl e0 (hs2.up (hl6.trans hl)) e1 hf8 (fun b9 of10 vsb9 hc11 hrepb9 => ?_)
        exact st_addNil (hk _ _ (Sto.Le.refl _) ⟨b9, of10, _, rfl, hc11, hrepb9⟩)
      · intro ρ' τ pool rs hl hd hout hk
        obtain ⟨_, e2, b9, of10, vsb9, rfl, hc11, hrepb9⟩ := hd 2 rfl
        have hrepb9 := hrepb9
        obtain rfl := hrepb9
        refine o_loadI (v := .int .i64 q7) rfl rfl rfl z_sc3 e2 (hc11 0 _ rfl) ?_
        exact st_addNil (hk _ _ (Sto.Le.refl _) rfl)
      · intro ρ' τ pool rs hl hd hout hk
        refine o_move rfl rfl rfl ((hout 1 rfl).trans rfl) ?_
        exact st_addNil (hk _ _ (Sto.Le.refl _) rfl)
      · intro ρ' τ pool rs hl hd hout hk
        refine o_move rfl rfl rfl ((hout 5 rfl).trans rfl) ?_
        exact st_addNil (hk _ _ (Sto.Le.refl _) rfl)
      · intro ρ' τ pool rs hl hd hout hk
        obtain ⟨_, e4, rfl⟩ := hd 4 rfl
        obtain ⟨_, e5, rfl⟩ := hd 5 rfl
        refine o_index rfl rfl rfl z_slT24 rfl e4 (hs4.up (hl6.trans hl)) e5 hf13 (fun b14 of15 vsb14 hc16 hrepb14 => ?_)
        exact st_addNil (hk _ _ (Sto.Le.refl _) ⟨b14, of15, _, rfl, hc16, hrepb14⟩)
      · intro ρ' τ pool rs hl hd hout hk
        obtain ⟨_, e6, b14, of15, vsb14, rfl, hc16, hrepb14⟩ := hd 6 rfl
        have hrepb14 := hrepb14
        obtain rfl := hrepb14
        refine o_loadI (v := .int .i64 q12) rfl rfl rfl z_sc3 e6 (hc16 0 _ rfl) ?_
        exact st_addNil (hk _ _ (Sto.Le.refl _) rfl)
      · intro ρ' τ pool rs hl hd hout hk
        obtain ⟨_, e3, rfl⟩ := hd 3 rfl
        obtain ⟨_, e7, rfl⟩ := hd 7 rfl
        refine o_ibin (v := .bool (!(decide (q7 = q12)))) rfl rfl rfl e3 e7 rfl ?_
        exact st_addNil (hk _ _ (Sto.Le.refl _) rfl)
      intro ρ' τ17 vals hl17 hv hout
      have l8 : Eng.look ρ' 24 = some (.bool (!(decide (q7 = q12)))) := ((hv 8 (by decide)).1).trans (congrArg some (show vals 8 = .bool (!(decide (q7 = q12))) from Eq.symm (hv 8 (by decide)).2))
      refine st_ord [] [] rfl ?_
      refine st_env (ρ' := [(24, .bool (!(decide (q7 = q12)))), (0, v1), (1, v3), (4, .bool false), (12, .int .i64 (a0.length : Int)), (13, .int .i64 s6)]) ⟨l8, (hout 0 rfl).trans rfl, (hout 1 rfl).trans rfl, (hout 4 rfl).trans rfl, (hout 12 rfl).trans rfl, (hout 13 rfl).trans rfl, trivial⟩ ?_
      refine st_end ?_
      refine st_cond rfl (fun hc => ?_) (fun hc => ?_)
      · replace h := (if_pos hc).mp h
        refine Z 4 rfl ?_
        obtain rfl := he6 _ h
        replace h := hA6
        obtain rfl := Eq.symm h
        exact st_ret (gs' := []) Tryd.func73 rfl (List.Sublist.refl _) (hl6.trans hl17) ⟨rfl, rfl⟩
      · replace h := (if_neg (ne_t hc)).mp h
        refine Z 6 rfl ?_
        refine st_env (ρ' := [(0, v1), (1, v3), (4, .bool false), (12, .int .i64 (a0.length : Int)), (13, .int .i64 (IntKind.i64.wrap (s6 + 1)))]) ⟨rfl, rfl, rfl, rfl, rfl, trivial⟩ ?_
        exact hn6 _ _ _ _ h ⟨(hl6.trans hl17), rfl, rfl⟩
    · replace h := (if_neg (ne_t hc)).mp h
      refine st_exit rfl ?_
      obtain rfl := he6 _ h
      replace h := hA6
      refine st_env (ρ' := [(4, .bool false)]) ⟨rfl, trivial⟩ ?_
      exact hk5 _ _ _ ⟨(), h, hl6, rfl, rfl⟩
theorem msg_Same_ok {a0 : Int × List Int × List (Int × Int) × List Int × ByteArray × ByteArray} {a1 : Int × List Int × List (Int × Int) × List Int × ByteArray × ByteArray} {v1 : Value} {v2 : Value} {v5 : Value} {v6 : Value} {r : Bool} (h : msg_Same a0 a1 r) (σ : Sto) (hs3 : Sl (kP (kI .i64) (kI .i64)) σ v1 a0.2.2.1) (hs4 : Sl (kI .i64) σ v2 a0.2.2.2.1) (hs7 : Sl (kP (kI .i64) (kI .i64)) σ v5 a1.2.2.1) (hs8 : Sl (kI .i64) σ v6 a1.2.2.2.1) :
    Does Tryd.prog 15 [.agg [.int .i64 a0.1, .int .i64 (a0.2.1.getD 0 0), .int .i64 (a0.2.1.getD 1 0), .int .i64 (a0.2.1.getD 2 0), .int .i64 (a0.2.1.getD 3 0), .int .i64 (a0.2.1.getD 4 0), .int .i64 (a0.2.1.getD 5 0), v1, v2, .string a0.2.2.2.2.1, .string a0.2.2.2.2.2].toArray, .agg [.int .i64 a1.1, .int .i64 (a1.2.1.getD 0 0), .int .i64 (a1.2.1.getD 1 0), .int .i64 (a1.2.1.getD 2 0), .int .i64 (a1.2.1.getD 3 0), .int .i64 (a1.2.1.getD 4 0), .int .i64 (a1.2.1.getD 5 0), v5, v6, .string a1.2.2.2.2.1, .string a1.2.2.2.2.2].toArray] σ [] (fun v τ gs => gs = [] ∧ .bool r = v) := by
  refine call_of Tryd.func15 Tryd.ntmps15 rfl rfl (fun cs fs => ?_)
  refine Z 2 rfl ?_
  refine o_box (cs := [.int .i64 a0.1, .int .i64 (a0.2.1.getD 0 0), .int .i64 (a0.2.1.getD 1 0), .int .i64 (a0.2.1.getD 2 0), .int .i64 (a0.2.1.getD 3 0), .int .i64 (a0.2.1.getD 4 0), .int .i64 (a0.2.1.getD 5 0), v1, v2, .string a0.2.2.2.2.1, .string a0.2.2.2.2.2]) rfl rfl rfl rfl rfl (fun b9 => ?_)
  refine o_box (cs := [.int .i64 a1.1, .int .i64 (a1.2.1.getD 0 0), .int .i64 (a1.2.1.getD 1 0), .int .i64 (a1.2.1.getD 2 0), .int .i64 (a1.2.1.getD 3 0), .int .i64 (a1.2.1.getD 4 0), .int .i64 (a1.2.1.getD 5 0), v5, v6, .string a1.2.2.2.2.1, .string a1.2.2.2.2.2]) rfl rfl rfl rfl rfl (fun b10 => ?_)
  refine Z 3 rfl ?_
  refine st_cut (fun ρ τ11 gs => ∃ (s11 : Bool), msg_Same_j1 s11 r ∧ σ.Le τ11 ∧ ρ = [(4, .bool s11)] ∧ gs = []) ?_ (fun hk11 => ?_)
  · rintro ρ11 τ11 gs11 ⟨s11, h, hl11, rfl, rfl⟩
    obtain rfl := Eq.symm h
    exact st_ret (gs' := []) Tryd.func15 rfl (List.Sublist.refl _) hl11 ⟨rfl, rfl⟩
  refine Z 2 rfl ?_
  refine o_load (j := 1) (v := .int .i64 a0.1) rfl rfl rfl z_sc3 rfl rfl rfl ?_
  refine o_fieldAddr rfl rfl rfl z_field26_0 rfl ?_
  refine o_load (j := 0) (v := .int .i64 a1.1) rfl rfl rfl z_sc3 rfl rfl rfl ?_
  refine o_ibin (v := .bool (decide (a0.1 = a1.1))) rfl rfl rfl rfl rfl rfl ?_
  refine o_moveB rfl rfl rfl rfl (fun hc => ?_) (fun hc => ?_)
  · replace h := (if_pos hc).mp h
    refine o_fieldAddr rfl rfl rfl z_field26_1 rfl ?_
    refine o_loadN (j := 1) (vs := [.int .i64 (a0.2.1.getD 0 0), .int .i64 (a0.2.1.getD 1 0), .int .i64 (a0.2.1.getD 2 0), .int .i64 (a0.2.1.getD 3 0), .int .i64 (a0.2.1.getD 4 0), .int .i64 (a0.2.1.getD 5 0)]) rfl rfl rfl z_agg22 rfl rfl rfl ?_
    refine o_fieldAddr rfl rfl rfl z_field26_1 rfl ?_
    refine o_loadN (j := 0) (vs := [.int .i64 (a1.2.1.getD 0 0), .int .i64 (a1.2.1.getD 1 0), .int .i64 (a1.2.1.getD 2 0), .int .i64 (a1.2.1.getD 3 0), .int .i64 (a1.2.1.getD 4 0), .int .i64 (a1.2.1.getD 5 0)]) rfl rfl rfl z_agg22 rfl rfl rfl ?_
    refine o_aggEq (b := (eqN 6 0 a0.2.1 a1.2.1)) (e := (eqN 6 0 a0.2.1 a1.2.1)) rfl rfl rfl z_eqg22 rfl rfl (fun w => by exact eq_arr (xs := a0.2.1) (ys := a1.2.1) Tryd.underlying22 Tryd.underlying3 z_info3 z_cell3) rfl ?_
    refine o_pick rfl rfl rfl rfl rfl ?_
    refine o_moveB rfl rfl rfl rfl (fun hc => ?_) (fun hc => ?_)
    · replace h := (if_pos hc).mp h
      refine o_fieldAddr rfl rfl rfl z_field26_2 rfl ?_
      refine o_load (j := 1) (v := v1) rfl rfl rfl z_sc23 rfl rfl rfl ?_
      refine o_fieldAddr rfl rfl rfl z_field26_2 rfl ?_
      refine o_load (j := 0) (v := v5) rfl rfl rfl z_sc23 rfl rfl rfl ?_
      obtain ⟨r12, hr13, h⟩ := h
      refine st_call (foot := []) rfl rfl rfl rfl rfl rfl (callV_fn z_en72 (slices_Equal_msg_Point_msg_Point_ok hr13 σ hs3 hs7)) ?_
      rintro vτ14 τ14 gsτ14 hl15 ⟨rfl, rfl⟩
      refine o_pick rfl rfl rfl rfl rfl ?_
      refine o_moveB rfl rfl rfl rfl (fun hc => ?_) (fun hc => ?_)
      · replace h := (if_pos hc).mp h
        refine o_fieldAddr rfl rfl rfl z_field26_3 rfl ?_
        refine o_load (j := 1) (v := v2) rfl rfl rfl z_sc24 rfl rfl rfl ?_
        refine o_fieldAddr rfl rfl rfl z_field26_3 rfl ?_
        refine o_load (j := 0) (v := v6) rfl rfl rfl z_sc24 rfl rfl rfl ?_
        obtain ⟨r16, hr17, h⟩ := h
        refine st_call (foot := []) rfl rfl rfl rfl rfl rfl (callV_fn z_en73 (slices_Equal_int_int_ok hr17 τ14 (hs4.up hl15) (hs8.up hl15))) ?_
        rintro vτ18 τ18 gsτ18 hl19 ⟨rfl, rfl⟩
        refine o_pick rfl rfl rfl rfl rfl ?_
        refine o_moveB rfl rfl rfl rfl (fun hc => ?_) (fun hc => ?_)
        · replace h := (if_pos hc).mp h
          refine o_fieldAddr rfl rfl rfl z_field26_4 rfl ?_
          refine o_load (j := 1) (v := .string a0.2.2.2.2.1) rfl rfl rfl z_sc9 rfl rfl rfl ?_
          refine o_fieldAddr rfl rfl rfl z_field26_4 rfl ?_
          refine o_load (j := 0) (v := .string a1.2.2.2.2.1) rfl rfl rfl z_sc9 rfl rfl rfl ?_
          refine Z 2 rfl ?_
          refine o_moveB rfl rfl rfl rfl (fun hc => ?_) (fun hc => ?_)
          · replace h := (if_pos hc).mp h
            refine o_fieldAddr rfl rfl rfl z_field26_5 rfl ?_
            refine o_load (j := 1) (v := .string a0.2.2.2.2.2) rfl rfl rfl z_sc9 rfl rfl rfl ?_
            refine o_fieldAddr rfl rfl rfl z_field26_5 rfl ?_
            refine o_load (j := 0) (v := .string a1.2.2.2.2.2) rfl rfl rfl z_sc9 rfl rfl rfl ?_
            refine Z 4 rfl ?_
            refine st_env (ρ' := [(4, .bool (decide (a0.2.2.2.2.2 = a1.2.2.2.2.2)))]) ⟨rfl, trivial⟩ ?_
            refine st_ord [] [] rfl ?_
            exact hk11 _ _ _ ⟨(decide (a0.2.2.2.2.2 = a1.2.2.2.2.2)), h, (hl15.trans hl19), rfl, rfl⟩
          · replace h := (if_neg (ne_t hc)).mp h
            refine Z 8 rfl ?_
            refine st_env (ρ' := [(4, .bool false)]) ⟨rfl, trivial⟩ ?_
            refine st_ord [] [] rfl ?_
            exact hk11 _ _ _ ⟨false, h, (hl15.trans hl19), rfl, rfl⟩
        · replace h := (if_neg (ne_t hc)).mp h
          refine Z 15 rfl ?_
          refine st_env (ρ' := [(4, .bool false)]) ⟨rfl, trivial⟩ ?_
          refine st_ord [] [] rfl ?_
          exact hk11 _ _ _ ⟨false, h, (hl15.trans hl19), rfl, rfl⟩
      · replace h := (if_neg (ne_t hc)).mp h
        refine Z 22 rfl ?_
        refine st_env (ρ' := [(4, .bool false)]) ⟨rfl, trivial⟩ ?_
        refine st_ord [] [] rfl ?_
        exact hk11 _ _ _ ⟨false, h, hl15, rfl, rfl⟩
    · replace h := (if_neg (ne_t hc)).mp h
      refine Z 29 rfl ?_
      refine st_env (ρ' := [(4, .bool false)]) ⟨rfl, trivial⟩ ?_
      refine st_ord [] [] rfl ?_
      exact hk11 _ _ _ ⟨false, h, (Sto.Le.refl _), rfl, rfl⟩
  · replace h := (if_neg (ne_t hc)).mp h
    refine Z 36 rfl ?_
    refine st_env (ρ' := [(4, .bool false)]) ⟨rfl, trivial⟩ ?_
    refine st_ord [] [] rfl ?_
    exact hk11 _ _ _ ⟨false, h, (Sto.Le.refl _), rfl, rfl⟩
theorem msg_Check_ok {a0 : Int × List Int × List (Int × Int) × List Int × ByteArray × ByteArray} {v1 : Value} {v2 : Value} {r : Int} (h : msg_Check a0 r) (σ : Sto) (hs3 : Sl (kP (kI .i64) (kI .i64)) σ v1 a0.2.2.1) (hs4 : Sl (kI .i64) σ v2 a0.2.2.2.1) :
    Does Tryd.prog 12 [.agg [.int .i64 a0.1, .int .i64 (a0.2.1.getD 0 0), .int .i64 (a0.2.1.getD 1 0), .int .i64 (a0.2.1.getD 2 0), .int .i64 (a0.2.1.getD 3 0), .int .i64 (a0.2.1.getD 4 0), .int .i64 (a0.2.1.getD 5 0), v1, v2, .string a0.2.2.2.2.1, .string a0.2.2.2.2.2].toArray] σ [] (fun v τ gs => gs = [] ∧ .int .i64 r = v) := by
  refine call_of Tryd.func12 Tryd.ntmps12 rfl rfl (fun cs fs => ?_)
  refine Z 2 rfl ?_
  refine o_box (cs := [.int .i64 a0.1, .int .i64 (a0.2.1.getD 0 0), .int .i64 (a0.2.1.getD 1 0), .int .i64 (a0.2.1.getD 2 0), .int .i64 (a0.2.1.getD 3 0), .int .i64 (a0.2.1.getD 4 0), .int .i64 (a0.2.1.getD 5 0), v1, v2, .string a0.2.2.2.2.1, .string a0.2.2.2.2.2]) rfl rfl rfl rfl rfl (fun b5 => ?_)
  refine Z 4 rfl ?_
  refine st_draw 3 (tl [fun τ v => (.agg [.int .i64 a0.1, .int .i64 (a0.2.1.getD 0 0), .int .i64 (a0.2.1.getD 1 0), .int .i64 (a0.2.1.getD 2 0), .int .i64 (a0.2.1.getD 3 0), .int .i64 (a0.2.1.getD 4 0), .int .i64 (a0.2.1.getD 5 0), v1, v2, .string a0.2.2.2.2.1, .string a0.2.2.2.2.2].toArray : Value) = v,
    fun τ v => ∃ (b6 : Nat), (.pointer (some ⟨b6, 0, none⟩) : Value) = v,
    fun τ v => (.int .i64 9 : Value) = v]) (oneG 1 (.cells [.int .i64 0, .int .i64 0, .int .i64 0, .int .i64 0, .int .i64 0, .int .i64 0, .int .i64 0, .slice none 0 0, .slice none 0 0, .string (bstr []), .string (bstr [])].toArray 26 (0, 0))) z_mix rfl (tl_mono ⟨fun _ _ _ _ h => h, ⟨fun _ _ _ hl ⟨b6, hv⟩ => ⟨b6, hv⟩, ⟨fun _ _ _ _ h => h, trivial⟩⟩⟩) (allB_cons (allB_cons (allB_cons allB_nil ?_) ?_) ?_) ?_
  · intro ρ' τ pool rs hl hd hout hk
    refine o_loadN (j := 0) (vs := [.int .i64 a0.1, .int .i64 (a0.2.1.getD 0 0), .int .i64 (a0.2.1.getD 1 0), .int .i64 (a0.2.1.getD 2 0), .int .i64 (a0.2.1.getD 3 0), .int .i64 (a0.2.1.getD 4 0), .int .i64 (a0.2.1.getD 5 0), v1, v2, .string a0.2.2.2.2.1, .string a0.2.2.2.2.2]) rfl rfl rfl z_agg26 ((hout 1 rfl).trans rfl) rfl rfl ?_
    exact st_addNil (hk _ _ (Sto.Le.refl _) rfl)
  · intro ρ' τ pool rs hl hd hout hk
    refine o_alloc rfl rfl rfl z_zero26 (fun b6 => ?_)
    exact hk _ _ (Sto.Le.refl _) ⟨b6, rfl⟩
  · intro ρ' τ pool rs hl hd hout hk
    refine o_assign rfl rfl rfl rfl ?_
    exact st_addNil (hk _ _ (Sto.Le.refl _) rfl)
  intro ρ' τ7 vals hl7 hv hout
  have l0 : Eng.look ρ' 7 = some (.agg [.int .i64 a0.1, .int .i64 (a0.2.1.getD 0 0), .int .i64 (a0.2.1.getD 1 0), .int .i64 (a0.2.1.getD 2 0), .int .i64 (a0.2.1.getD 3 0), .int .i64 (a0.2.1.getD 4 0), .int .i64 (a0.2.1.getD 5 0), v1, v2, .string a0.2.2.2.2.1, .string a0.2.2.2.2.2].toArray) := ((hv 0 (by decide)).1).trans (congrArg some (show vals 0 = .agg [.int .i64 a0.1, .int .i64 (a0.2.1.getD 0 0), .int .i64 (a0.2.1.getD 1 0), .int .i64 (a0.2.1.getD 2 0), .int .i64 (a0.2.1.getD 3 0), .int .i64 (a0.2.1.getD 4 0), .int .i64 (a0.2.1.getD 5 0), v1, v2, .string a0.2.2.2.2.1, .string a0.2.2.2.2.2].toArray from Eq.symm (hv 0 (by decide)).2))
  obtain ⟨l1, b6, t1⟩ := hv 1 (by decide)
  replace l1 : Eng.look ρ' 4 = some (.pointer (some ⟨b6, 0, none⟩)) := l1.trans (congrArg some (Eq.symm t1))
  have l2 : Eng.look ρ' 3 = some (.int .i64 9) := ((hv 2 (by decide)).1).trans (congrArg some (show vals 2 = .int .i64 9 from Eq.symm (hv 2 (by decide)).2))
  refine st_gs [[(b5, .cells [.int .i64 a0.1, .int .i64 (a0.2.1.getD 0 0), .int .i64 (a0.2.1.getD 1 0), .int .i64 (a0.2.1.getD 2 0), .int .i64 (a0.2.1.getD 3 0), .int .i64 (a0.2.1.getD 4 0), .int .i64 (a0.2.1.getD 5 0), v1, v2, .string a0.2.2.2.2.1, .string a0.2.2.2.2.2].toArray 26 (0, 0))], [(b6, .cells [.int .i64 0, .int .i64 0, .int .i64 0, .int .i64 0, .int .i64 0, .int .i64 0, .int .i64 0, .slice none 0 0, .slice none 0 0, .string (bstr []), .string (bstr [])].toArray 26 (0, 0))]] (by rw [oneG_flat (by decide) (Eq.symm t1)]; rfl) ?_
  refine st_env (ρ' := [(7, .agg [.int .i64 a0.1, .int .i64 (a0.2.1.getD 0 0), .int .i64 (a0.2.1.getD 1 0), .int .i64 (a0.2.1.getD 2 0), .int .i64 (a0.2.1.getD 3 0), .int .i64 (a0.2.1.getD 4 0), .int .i64 (a0.2.1.getD 5 0), v1, v2, .string a0.2.2.2.2.1, .string a0.2.2.2.2.2].toArray), (4, .pointer (some ⟨b6, 0, none⟩)), (3, .int .i64 9), (1, .pointer (some ⟨b5, 0, none⟩)), (2, .int .i64 0)]) ⟨l0, l1, l2, (hout 1 rfl).trans rfl, (hout 2 rfl).trans rfl, trivial⟩ ?_
  refine o_store (j := 1) (vs := [.int .i64 a0.1, .int .i64 (a0.2.1.getD 0 0), .int .i64 (a0.2.1.getD 1 0), .int .i64 (a0.2.1.getD 2 0), .int .i64 (a0.2.1.getD 3 0), .int .i64 (a0.2.1.getD 4 0), .int .i64 (a0.2.1.getD 5 0), v1, v2, .string a0.2.2.2.2.1, .string a0.2.2.2.2.2]) (cs' := [.int .i64 a0.1, .int .i64 (a0.2.1.getD 0 0), .int .i64 (a0.2.1.getD 1 0), .int .i64 (a0.2.1.getD 2 0), .int .i64 (a0.2.1.getD 3 0), .int .i64 (a0.2.1.getD 4 0), .int .i64 (a0.2.1.getD 5 0), v1, v2, .string a0.2.2.2.2.1, .string a0.2.2.2.2.2]) rfl rfl rfl z_size26 rfl rfl rfl (ones_cons rfl (ones_cons rfl (ones_cons rfl (ones_cons rfl (ones_cons rfl (ones_cons rfl (ones_cons rfl (ones_cons (hs3.up hl7).one' (ones_cons (hs4.up hl7).one' (ones_cons rfl (ones_cons rfl ones_nil))))))))))) rfl rfl rfl ?_
  refine st_gs [[(b5, .cells [.int .i64 a0.1, .int .i64 (a0.2.1.getD 0 0), .int .i64 (a0.2.1.getD 1 0), .int .i64 (a0.2.1.getD 2 0), .int .i64 (a0.2.1.getD 3 0), .int .i64 (a0.2.1.getD 4 0), .int .i64 (a0.2.1.getD 5 0), v1, v2, .string a0.2.2.2.2.1, .string a0.2.2.2.2.2].toArray 26 (0, 0))], [(b6, .cells [.int .i64 a0.1, .int .i64 (a0.2.1.getD 0 0), .int .i64 (a0.2.1.getD 1 0), .int .i64 (a0.2.1.getD 2 0), .int .i64 (a0.2.1.getD 3 0), .int .i64 (a0.2.1.getD 4 0), .int .i64 (a0.2.1.getD 5 0), v1, v2, .string a0.2.2.2.2.1, .string a0.2.2.2.2.2].toArray 26 (0, 0))]] rfl ?_
  refine Z 4 rfl ?_
  refine st_cut (fun ρ τ8 gs => ∃ (s8 : Int × Int × Int × Int × Int × Int × Int × Int × (List (Int × Int)) × List Int × ByteArray × ByteArray) (v9 : Value) (v11 : Value), msg_Check_j1 a0 s8 r ∧ τ7.Le τ8 ∧ ρ = [(4, .pointer (some ⟨b6, 0, none⟩)), (3, .int .i64 s8.1), (1, .pointer (some ⟨b5, 0, none⟩)), (2, .int .i64 0)] ∧ gs = [[(b5, .cells [.int .i64 a0.1, .int .i64 (a0.2.1.getD 0 0), .int .i64 (a0.2.1.getD 1 0), .int .i64 (a0.2.1.getD 2 0), .int .i64 (a0.2.1.getD 3 0), .int .i64 (a0.2.1.getD 4 0), .int .i64 (a0.2.1.getD 5 0), v1, v2, .string a0.2.2.2.2.1, .string a0.2.2.2.2.2].toArray 26 (0, 0))], [(b6, .cells [.int .i64 s8.2.1, .int .i64 s8.2.2.1, .int .i64 s8.2.2.2.1, .int .i64 s8.2.2.2.2.1, .int .i64 s8.2.2.2.2.2.1, .int .i64 s8.2.2.2.2.2.2.1, .int .i64 s8.2.2.2.2.2.2.2.1, v9, v11, .string s8.2.2.2.2.2.2.2.2.2.2.1, .string s8.2.2.2.2.2.2.2.2.2.2.2].toArray 26 (0, 0))]] ∧ Sl (kP (kI .i64) (kI .i64)) τ8 v9 s8.2.2.2.2.2.2.2.2.1 ∧ Sl (kI .i64) τ8 v11 s8.2.2.2.2.2.2.2.2.2.1) ?_ (fun hk8 => ?_)
  · rintro ρ8 τ8 gs8 ⟨s8, v9, v11, h, hl8, rfl, rfl, hs10, hs12⟩
    refine Z 2 rfl ?_
    refine st_cut (fun ρ τ13 gs => ∃ (s13 : Bool), msg_Check_j2 s8 s13 r ∧ τ8.Le τ13 ∧ ρ = [(3, .int .i64 s8.1), (2, .int .i64 0), (34, .bool s13)] ∧ gs = []) ?_ (fun hk13 => ?_)
    · rintro ρ13 τ13 gs13 ⟨s13, h, hl13, rfl, rfl⟩
      refine st_cond rfl (fun hc => ?_) (fun hc => ?_)
      · replace h := (if_pos hc).mp h
        refine Z 4 rfl ?_
        obtain rfl := Eq.symm h
        exact st_ret (gs' := []) Tryd.func12 rfl (List.Sublist.refl _) ((hl7.trans hl8).trans hl13) ⟨rfl, rfl⟩
      · replace h := (if_neg (ne_t hc)).mp h
        refine Z 6 rfl ?_
        obtain rfl := Eq.symm h
        exact st_ret (gs' := []) Tryd.func12 rfl (List.Sublist.refl _) ((hl7.trans hl8).trans hl13) ⟨rfl, rfl⟩
    refine Z 3 rfl ?_
    refine o_moveB rfl rfl rfl rfl (fun hc => ?_) (fun hc => ?_)
    · replace h := (if_pos hc).mp h
      refine o_loadN (j := 1) (vs := [.int .i64 s8.2.1, .int .i64 s8.2.2.1, .int .i64 s8.2.2.2.1, .int .i64 s8.2.2.2.2.1, .int .i64 s8.2.2.2.2.2.1, .int .i64 s8.2.2.2.2.2.2.1, .int .i64 s8.2.2.2.2.2.2.2.1, v9, v11, .string s8.2.2.2.2.2.2.2.2.2.2.1, .string s8.2.2.2.2.2.2.2.2.2.2.2]) rfl rfl rfl z_agg26 rfl rfl rfl ?_
      refine o_fieldAddr rfl rfl rfl z_field26_0 rfl ?_
      refine o_load (j := 0) (v := .int .i64 a0.1) rfl rfl rfl z_sc3 rfl rfl rfl ?_
      refine o_build (ps := [(0, [.int .i64 a0.1])]) (cs := [.int .i64 a0.1, .int .i64 0, .int .i64 0, .int .i64 0, .int .i64 0, .int .i64 0, .int .i64 0, .slice none 0 0, .slice none 0 0, .string (bstr []), .string (bstr [])]) rfl rfl rfl z_struct26 ⟨rfl, ⟨_, rfl, rfl⟩, trivial⟩ rfl ?_
      obtain ⟨r14, hr15, h⟩ := h
      refine st_call (foot := []) rfl rfl rfl rfl rfl rfl (callV_fn z_en15 (msg_Same_ok hr15 τ8 hs10 hs12 Sl.nil Sl.nil)) ?_
      rintro vτ16 τ16 gsτ16 hl17 ⟨rfl, rfl⟩
      refine Z 3 rfl ?_
      refine st_env (ρ' := [(3, .int .i64 s8.1), (2, .int .i64 0), (34, .bool (!r14))]) ⟨rfl, rfl, rfl, trivial⟩ ?_
      refine st_ord [] [] rfl ?_
      exact hk13 _ _ _ ⟨(!r14), h, hl17, rfl, rfl⟩
    · replace h := (if_neg (ne_t hc)).mp h
      refine Z 8 rfl ?_
      refine st_env (ρ' := [(3, .int .i64 s8.1), (2, .int .i64 0), (34, .bool false)]) ⟨rfl, rfl, rfl, trivial⟩ ?_
      refine st_ord [] [] rfl ?_
      exact hk13 _ _ _ ⟨false, h, (Sto.Le.refl _), rfl, rfl⟩
  refine Z 3 rfl ?_
  refine o_load (j := 0) (v := .int .i64 a0.1) rfl rfl rfl z_sc3 rfl rfl rfl ?_
  obtain ⟨r18, hr19, h⟩ := h
  refine st_call (foot := []) rfl rfl rfl rfl rfl rfl (callV_fn z_en66 (field_Of_ok hr19 τ7)) ?_
  rintro vτ20 τ20 gsτ20 hl21 ⟨v22, rfl, rfl, hs23⟩
  refine o_lenI rfl rfl rfl z_slT118 rfl hs23 ?_
  refine Z 2 rfl ?_
  obtain ⟨e24, hL24, hA24⟩ := h
  refine st_env (ρ' := [(4, .pointer (some ⟨b6, 0, none⟩)), (3, .int .i64 9), (1, .pointer (some ⟨b5, 0, none⟩)), (2, .int .i64 0), (10, v22), (11, .int .i64 (r18.length : Int)), (12, .int .i64 0)]) ⟨rfl, rfl, rfl, rfl, rfl, rfl, rfl, trivial⟩ ?_
  refine st_loop hL24 (fun (s24 : Int × Int × Int × Int × Int × Int × Int × Int × Int × (List (Int × Int)) × List Int × ByteArray × ByteArray) ρ τ24 gs => τ20.Le τ24 ∧ ∃ (v25 : Value) (v27 : Value), ρ = [(4, .pointer (some ⟨b6, 0, none⟩)), (3, .int .i64 s24.1), (1, .pointer (some ⟨b5, 0, none⟩)), (2, .int .i64 0), (10, v22), (11, .int .i64 (r18.length : Int)), (12, .int .i64 s24.2.1)] ∧ gs = [[(b5, .cells [.int .i64 a0.1, .int .i64 (a0.2.1.getD 0 0), .int .i64 (a0.2.1.getD 1 0), .int .i64 (a0.2.1.getD 2 0), .int .i64 (a0.2.1.getD 3 0), .int .i64 (a0.2.1.getD 4 0), .int .i64 (a0.2.1.getD 5 0), v1, v2, .string a0.2.2.2.2.1, .string a0.2.2.2.2.2].toArray 26 (0, 0))], [(b6, .cells [.int .i64 s24.2.2.1, .int .i64 s24.2.2.2.1, .int .i64 s24.2.2.2.2.1, .int .i64 s24.2.2.2.2.2.1, .int .i64 s24.2.2.2.2.2.2.1, .int .i64 s24.2.2.2.2.2.2.2.1, .int .i64 s24.2.2.2.2.2.2.2.2.1, v25, v27, .string s24.2.2.2.2.2.2.2.2.2.2.2.1, .string s24.2.2.2.2.2.2.2.2.2.2.2.2].toArray 26 (0, 0))]] ∧ Sl (kP (kI .i64) (kI .i64)) τ24 v25 s24.2.2.2.2.2.2.2.2.2.1 ∧ Sl (kI .i64) τ24 v27 s24.2.2.2.2.2.2.2.2.2.2.1) ⟨Sto.Le.refl _, _, _, rfl, rfl, (hs3.up (hl7.trans hl21)), (hs4.up (hl7.trans hl21))⟩ ?_
  rintro s24 o24 h he24 ρ24 τ24 gs24 ⟨hl24, v25, v27, rfl, rfl, hs26, hs28⟩ hn24
  refine Z 5 rfl ?_
  refine st_cond rfl (fun hc => ?_) (fun hc => ?_)
  · replace h := (if_pos hc).mp h
    refine Z 5 rfl ?_
    obtain ⟨q29, hf30, h⟩ := h
    refine o_index rfl rfl rfl z_slT118 rfl rfl (hs23.up hl24) rfl hf30 (fun b31 of32 vs hc33 hrep => ?_)
    obtain ⟨_, _, rfl, rfl, ⟨_, _, rfl, rfl, ⟨_, _, rfl, rfl, ⟨_, _, rfl, rfl, ⟨_, _, rfl, rfl, ⟨_, _, rfl, rfl, rfl⟩⟩⟩⟩⟩⟩ := hrep
    refine o_loadIN (vs := [.string q29.1, .int .i64 q29.2.1, .int .i64 q29.2.2.1, .int .i64 q29.2.2.2.1, .int .i64 q29.2.2.2.2.1, .int .i64 q29.2.2.2.2.2.1, .int .i64 q29.2.2.2.2.2.2]) rfl rfl rfl z_agg121 rfl rfl (celn_part 0 rfl hc33) ?_
    refine o_alloc rfl rfl rfl z_zero121 (fun b34 => ?_)
    refine o_store (j := 0) (vs := [.string q29.1, .int .i64 q29.2.1, .int .i64 q29.2.2.1, .int .i64 q29.2.2.2.1, .int .i64 q29.2.2.2.2.1, .int .i64 q29.2.2.2.2.2.1, .int .i64 q29.2.2.2.2.2.2]) (cs' := [.string q29.1, .int .i64 q29.2.1, .int .i64 q29.2.2.1, .int .i64 q29.2.2.2.1, .int .i64 q29.2.2.2.2.1, .int .i64 q29.2.2.2.2.2.1, .int .i64 q29.2.2.2.2.2.2]) rfl rfl rfl z_size121 rfl rfl rfl (ones_cons rfl (ones_cons rfl (ones_cons rfl (ones_cons rfl (ones_cons rfl (ones_cons rfl (ones_cons rfl ones_nil))))))) rfl rfl rfl ?_
    refine st_gs [[(b34, .cells [.string q29.1, .int .i64 q29.2.1, .int .i64 q29.2.2.1, .int .i64 q29.2.2.2.1, .int .i64 q29.2.2.2.2.1, .int .i64 q29.2.2.2.2.2.1, .int .i64 q29.2.2.2.2.2.2].toArray 121 (0, 0))], [(b5, .cells [.int .i64 a0.1, .int .i64 (a0.2.1.getD 0 0), .int .i64 (a0.2.1.getD 1 0), .int .i64 (a0.2.1.getD 2 0), .int .i64 (a0.2.1.getD 3 0), .int .i64 (a0.2.1.getD 4 0), .int .i64 (a0.2.1.getD 5 0), v1, v2, .string a0.2.2.2.2.1, .string a0.2.2.2.2.2].toArray 26 (0, 0))], [(b6, .cells [.int .i64 s24.2.2.1, .int .i64 s24.2.2.2.1, .int .i64 s24.2.2.2.2.1, .int .i64 s24.2.2.2.2.2.1, .int .i64 s24.2.2.2.2.2.2.1, .int .i64 s24.2.2.2.2.2.2.2.1, .int .i64 s24.2.2.2.2.2.2.2.2.1, v25, v27, .string s24.2.2.2.2.2.2.2.2.2.2.2.1, .string s24.2.2.2.2.2.2.2.2.2.2.2.2].toArray 26 (0, 0))]] rfl ?_
    refine Z 4 rfl ?_
    refine o_loadN (j := 1) (vs := [.int .i64 a0.1, .int .i64 (a0.2.1.getD 0 0), .int .i64 (a0.2.1.getD 1 0), .int .i64 (a0.2.1.getD 2 0), .int .i64 (a0.2.1.getD 3 0), .int .i64 (a0.2.1.getD 4 0), .int .i64 (a0.2.1.getD 5 0), v1, v2, .string a0.2.2.2.2.1, .string a0.2.2.2.2.2]) rfl rfl rfl z_agg26 rfl rfl rfl ?_
    refine o_loadN (j := 0) (vs := [.string q29.1, .int .i64 q29.2.1, .int .i64 q29.2.2.1, .int .i64 q29.2.2.2.1, .int .i64 q29.2.2.2.2.1, .int .i64 q29.2.2.2.2.2.1, .int .i64 q29.2.2.2.2.2.2]) rfl rfl rfl z_agg121 rfl rfl rfl ?_
    obtain ⟨r35, hr36, h⟩ := h
    refine st_call (foot := []) rfl rfl rfl rfl rfl rfl (callV_fn z_en67 (msg_wrong_ok hr36 τ24 (hs3.up ((hl7.trans hl21).trans hl24)) (hs4.up ((hl7.trans hl21).trans hl24)))) ?_
    rintro vτ37 τ37 gsτ37 hl38 ⟨rfl, rfl⟩
    refine Z 7 rfl ?_
    refine st_cond rfl (fun hc => ?_) (fun hc => ?_)
    · replace h := (if_pos hc).mp h
      refine st_exit rfl ?_
      obtain rfl := he24 _ h
      replace h := hA24
      refine st_env (ρ' := [(4, .pointer (some ⟨b6, 0, none⟩)), (3, .int .i64 r35), (1, .pointer (some ⟨b5, 0, none⟩)), (2, .int .i64 0)]) ⟨rfl, rfl, rfl, rfl, trivial⟩ ?_
      refine st_ord [1, 1] [[(b5, .cells [.int .i64 a0.1, .int .i64 (a0.2.1.getD 0 0), .int .i64 (a0.2.1.getD 1 0), .int .i64 (a0.2.1.getD 2 0), .int .i64 (a0.2.1.getD 3 0), .int .i64 (a0.2.1.getD 4 0), .int .i64 (a0.2.1.getD 5 0), v1, v2, .string a0.2.2.2.2.1, .string a0.2.2.2.2.2].toArray 26 (0, 0))], [(b6, .cells [.int .i64 s24.2.2.1, .int .i64 s24.2.2.2.1, .int .i64 s24.2.2.2.2.1, .int .i64 s24.2.2.2.2.2.1, .int .i64 s24.2.2.2.2.2.2.1, .int .i64 s24.2.2.2.2.2.2.2.1, .int .i64 s24.2.2.2.2.2.2.2.2.1, v25, v27, .string s24.2.2.2.2.2.2.2.2.2.2.2.1, .string s24.2.2.2.2.2.2.2.2.2.2.2.2].toArray 26 (0, 0))]] rfl ?_
      exact hk8 _ _ _ ⟨(r35, s24.2.2.1, s24.2.2.2.1, s24.2.2.2.2.1, s24.2.2.2.2.2.1, s24.2.2.2.2.2.2.1, s24.2.2.2.2.2.2.2.1, s24.2.2.2.2.2.2.2.2.1, s24.2.2.2.2.2.2.2.2.2.1, s24.2.2.2.2.2.2.2.2.2.2.1, s24.2.2.2.2.2.2.2.2.2.2.2.1, s24.2.2.2.2.2.2.2.2.2.2.2.2), _, _, h, ((hl21.trans hl24).trans hl38), rfl, rfl, (hs26.up hl38), (hs28.up hl38)⟩
    · replace h := (if_neg (ne_t hc)).mp h
      refine Z 2 rfl ?_
      refine o_loadN (j := 2) (vs := [.int .i64 s24.2.2.1, .int .i64 s24.2.2.2.1, .int .i64 s24.2.2.2.2.1, .int .i64 s24.2.2.2.2.2.1, .int .i64 s24.2.2.2.2.2.2.1, .int .i64 s24.2.2.2.2.2.2.2.1, .int .i64 s24.2.2.2.2.2.2.2.2.1, v25, v27, .string s24.2.2.2.2.2.2.2.2.2.2.2.1, .string s24.2.2.2.2.2.2.2.2.2.2.2.2]) rfl rfl rfl z_agg26 rfl rfl rfl ?_
      refine o_loadN (j := 0) (vs := [.string q29.1, .int .i64 q29.2.1, .int .i64 q29.2.2.1, .int .i64 q29.2.2.2.1, .int .i64 q29.2.2.2.2.1, .int .i64 q29.2.2.2.2.2.1, .int .i64 q29.2.2.2.2.2.2]) rfl rfl rfl z_agg121 rfl rfl rfl ?_
      obtain ⟨r39, hr40, h⟩ := h
      refine st_call (foot := []) rfl rfl rfl rfl rfl rfl (callV_fn z_en68 (msg_without_ok hr40 τ37 (hs26.up hl38) (hs28.up hl38))) ?_
      rintro vτ41 τ41 gsτ41 hl42 ⟨v43, v44, rfl, rfl, hs45, hs46⟩
      refine o_store (j := 2) (vs := [.int .i64 r39.1, .int .i64 (r39.2.1.getD 0 0), .int .i64 (r39.2.1.getD 1 0), .int .i64 (r39.2.1.getD 2 0), .int .i64 (r39.2.1.getD 3 0), .int .i64 (r39.2.1.getD 4 0), .int .i64 (r39.2.1.getD 5 0), v43, v44, .string r39.2.2.2.2.1, .string r39.2.2.2.2.2]) (cs' := [.int .i64 r39.1, .int .i64 (r39.2.1.getD 0 0), .int .i64 (r39.2.1.getD 1 0), .int .i64 (r39.2.1.getD 2 0), .int .i64 (r39.2.1.getD 3 0), .int .i64 (r39.2.1.getD 4 0), .int .i64 (r39.2.1.getD 5 0), v43, v44, .string r39.2.2.2.2.1, .string r39.2.2.2.2.2]) rfl rfl rfl z_size26 rfl rfl rfl (ones_cons rfl (ones_cons rfl (ones_cons rfl (ones_cons rfl (ones_cons rfl (ones_cons rfl (ones_cons rfl (ones_cons hs45.one' (ones_cons hs46.one' (ones_cons rfl (ones_cons rfl ones_nil))))))))))) rfl rfl rfl ?_
      refine st_gs [[(b34, .cells [.string q29.1, .int .i64 q29.2.1, .int .i64 q29.2.2.1, .int .i64 q29.2.2.2.1, .int .i64 q29.2.2.2.2.1, .int .i64 q29.2.2.2.2.2.1, .int .i64 q29.2.2.2.2.2.2].toArray 121 (0, 0))], [(b5, .cells [.int .i64 a0.1, .int .i64 (a0.2.1.getD 0 0), .int .i64 (a0.2.1.getD 1 0), .int .i64 (a0.2.1.getD 2 0), .int .i64 (a0.2.1.getD 3 0), .int .i64 (a0.2.1.getD 4 0), .int .i64 (a0.2.1.getD 5 0), v1, v2, .string a0.2.2.2.2.1, .string a0.2.2.2.2.2].toArray 26 (0, 0))], [(b6, .cells [.int .i64 r39.1, .int .i64 (r39.2.1.getD 0 0), .int .i64 (r39.2.1.getD 1 0), .int .i64 (r39.2.1.getD 2 0), .int .i64 (r39.2.1.getD 3 0), .int .i64 (r39.2.1.getD 4 0), .int .i64 (r39.2.1.getD 5 0), v43, v44, .string r39.2.2.2.2.1, .string r39.2.2.2.2.2].toArray 26 (0, 0))]] rfl ?_
      refine Z 6 rfl ?_
      refine st_env (ρ' := [(4, .pointer (some ⟨b6, 0, none⟩)), (3, .int .i64 r35), (1, .pointer (some ⟨b5, 0, none⟩)), (2, .int .i64 0), (10, v22), (11, .int .i64 (r18.length : Int)), (12, .int .i64 (IntKind.i64.wrap (s24.2.1 + 1)))]) ⟨rfl, rfl, rfl, rfl, rfl, rfl, rfl, trivial⟩ ?_
      refine st_ord [1, 1] [[(b5, .cells [.int .i64 a0.1, .int .i64 (a0.2.1.getD 0 0), .int .i64 (a0.2.1.getD 1 0), .int .i64 (a0.2.1.getD 2 0), .int .i64 (a0.2.1.getD 3 0), .int .i64 (a0.2.1.getD 4 0), .int .i64 (a0.2.1.getD 5 0), v1, v2, .string a0.2.2.2.2.1, .string a0.2.2.2.2.2].toArray 26 (0, 0))], [(b6, .cells [.int .i64 r39.1, .int .i64 (r39.2.1.getD 0 0), .int .i64 (r39.2.1.getD 1 0), .int .i64 (r39.2.1.getD 2 0), .int .i64 (r39.2.1.getD 3 0), .int .i64 (r39.2.1.getD 4 0), .int .i64 (r39.2.1.getD 5 0), v43, v44, .string r39.2.2.2.2.1, .string r39.2.2.2.2.2].toArray 26 (0, 0))]] rfl ?_
      exact hn24 _ _ _ _ h ⟨((hl24.trans hl38).trans hl42), _, _, rfl, rfl, hs45, hs46⟩
  · replace h := (if_neg (ne_t hc)).mp h
    refine st_exit rfl ?_
    obtain rfl := he24 _ h
    replace h := hA24
    refine st_env (ρ' := [(4, .pointer (some ⟨b6, 0, none⟩)), (3, .int .i64 s24.1), (1, .pointer (some ⟨b5, 0, none⟩)), (2, .int .i64 0)]) ⟨rfl, rfl, rfl, rfl, trivial⟩ ?_
    exact hk8 _ _ _ ⟨(s24.1, s24.2.2.1, s24.2.2.2.1, s24.2.2.2.2.1, s24.2.2.2.2.2.1, s24.2.2.2.2.2.2.1, s24.2.2.2.2.2.2.2.1, s24.2.2.2.2.2.2.2.2.1, s24.2.2.2.2.2.2.2.2.2.1, s24.2.2.2.2.2.2.2.2.2.2.1, s24.2.2.2.2.2.2.2.2.2.2.2.1, s24.2.2.2.2.2.2.2.2.2.2.2.2), _, _, h, (hl21.trans hl24), rfl, rfl, hs26, hs28⟩
theorem field_Word_ok {a0 : Int} {r : ByteArray} (h : field_Word a0 r) (σ : Sto)  :
    Does Tryd.prog 69 [.int .i64 a0] σ [] (fun v τ gs => gs = [] ∧ .string r = v) := by
  refine call_of Tryd.func69 Tryd.ntmps69 rfl rfl (fun cs fs => ?_)
  refine Z 2 rfl ?_
  refine o_assign rfl rfl rfl (ev_str z_str19) ?_
  refine Z 12 rfl ?_
  refine st_cond rfl (fun hc => ?_) (fun hc => ?_)
  · replace h := (if_pos hc).mp h
    refine Z 2 rfl ?_
    refine o_assign rfl rfl rfl (ev_str z_str20) ?_
    refine st_end ?_
    obtain rfl := Eq.symm h
    exact st_ret (gs' := []) Tryd.func69 rfl (List.Sublist.refl _) (Sto.Le.refl _) ⟨rfl, rfl⟩
  · replace h := (if_neg (ne_t hc)).mp h
    refine Z 5 rfl ?_
    refine st_cond rfl (fun hc => ?_) (fun hc => ?_)
    · replace h := (if_pos hc).mp h
      refine Z 2 rfl ?_
      refine o_assign rfl rfl rfl (ev_str z_str21) ?_
      refine st_end ?_
      obtain rfl := Eq.symm h
      exact st_ret (gs' := []) Tryd.func69 rfl (List.Sublist.refl _) (Sto.Le.refl _) ⟨rfl, rfl⟩
    · replace h := (if_neg (ne_t hc)).mp h
      refine Z 5 rfl ?_
      refine st_cond rfl (fun hc => ?_) (fun hc => ?_)
      · replace h := (if_pos hc).mp h
        refine Z 2 rfl ?_
        refine o_assign rfl rfl rfl (ev_str z_str22) ?_
        refine st_end ?_
        obtain rfl := Eq.symm h
        exact st_ret (gs' := []) Tryd.func69 rfl (List.Sublist.refl _) (Sto.Le.refl _) ⟨rfl, rfl⟩
      · replace h := (if_neg (ne_t hc)).mp h
        refine Z 5 rfl ?_
        refine st_cond rfl (fun hc => ?_) (fun hc => ?_)
        · replace h := (if_pos hc).mp h
          refine Z 2 rfl ?_
          refine o_assign rfl rfl rfl (ev_str z_str23) ?_
          refine st_end ?_
          obtain rfl := Eq.symm h
          exact st_ret (gs' := []) Tryd.func69 rfl (List.Sublist.refl _) (Sto.Le.refl _) ⟨rfl, rfl⟩
        · replace h := (if_neg (ne_t hc)).mp h
          refine Z 5 rfl ?_
          refine st_cond rfl (fun hc => ?_) (fun hc => ?_)
          · replace h := (if_pos hc).mp h
            refine Z 2 rfl ?_
            refine o_assign rfl rfl rfl (ev_str z_str24) ?_
            refine st_end ?_
            obtain rfl := Eq.symm h
            exact st_ret (gs' := []) Tryd.func69 rfl (List.Sublist.refl _) (Sto.Le.refl _) ⟨rfl, rfl⟩
          · replace h := (if_neg (ne_t hc)).mp h
            refine Z 4 rfl ?_
            refine o_assign rfl rfl rfl (ev_str z_str19) ?_
            refine st_end ?_
            obtain rfl := Eq.symm h
            exact st_ret (gs' := []) Tryd.func69 rfl (List.Sublist.refl _) (Sto.Le.refl _) ⟨rfl, rfl⟩
theorem field_All_1_ok {c0 : Int} {c1 : Int} {bc0 : Nat} {bc1 : Nat} {σ0 : Sto} (hc0_0 : Cel σ0 ⟨bc0, 0, none⟩ (.int .i64 c0)) (hc1_0 : Cel σ0 ⟨bc1, 0, none⟩ (.int .i64 c1)) :
    IterV Tryd.prog (fun _ x vx => vx = [.agg [.string x.1, .int .i64 x.2.1, .int .i64 x.2.2.1, .int .i64 x.2.2.2.1, .int .i64 x.2.2.2.2.1, .int .i64 x.2.2.2.2.2.1, .int .i64 x.2.2.2.2.2.2].toArray]) (.func (.func 110) #[] [.pointer (some ⟨bc0, 0, none⟩), .pointer (some ⟨bc1, 0, none⟩)].toArray) σ0 [] (fun (_ : Unit) _ f => f = []) (field_All_1 c0 c1) := by
  intro S Y I y hyc hyo hIm hY s s' o hR σ g hle hIg
  obtain ⟨r, hr0⟩ : ∃ r, r = (s', o) := ⟨_, rfl⟩
  rw [← hr0] at hR
  have h := hR
  refine callV_of (caps := [.pointer (some ⟨bc0, 0, none⟩), .pointer (some ⟨bc1, 0, none⟩)]) z_en110 ?_
  refine call_of Tryd.func110 Tryd.ntmps110 rfl rfl (fun cs fs => ?_)
  refine st_ord [0] [g] rfl ?_
  refine Z 5 rfl ?_
  refine o_loadI (v := .int .i64 c0) rfl rfl rfl z_sc3 rfl (Cel.up hc0_0 hle) ?_
  obtain ⟨r1, hr2, h⟩ := h
  refine st_call (foot := []) rfl rfl rfl rfl rfl rfl (callV_fn z_en66 (field_Of_ok hr2 σ)) ?_
  rintro vτ3 τ3 gsτ3 hl4 ⟨v5, rfl, rfl, hs6⟩
  refine o_lenI rfl rfl rfl z_slT118 rfl hs6 ?_
  refine Z 2 rfl ?_
  obtain ⟨e7, hL7, hA7⟩ := h
  refine st_env (ρ' := [(0, y), (2, .pointer (some ⟨bc1, 0, none⟩)), (7, v5), (8, .int .i64 (r1.length : Int)), (9, .int .i64 0)]) ⟨rfl, rfl, rfl, rfl, rfl, trivial⟩ ?_
  refine st_loop hL7 (fun (s7 : S × Int) ρ τ7 gs => τ3.Le τ7 ∧ ∃ (g8 : Grp), ρ = [(0, y), (2, .pointer (some ⟨bc1, 0, none⟩)), (7, v5), (8, .int .i64 (r1.length : Int)), (9, .int .i64 s7.2)] ∧ gs = [g8] ∧ I s7.1 τ7 g8) ⟨Sto.Le.refl _, g, rfl, rfl, (hIm _ _ _ _ hl4 hIg)⟩ ?_
  rintro s7 o7 h he7 ρ7 τ7 gs7 ⟨hl7, g8, rfl, rfl, hI9⟩ hn7
  refine Z 5 rfl ?_
  refine st_cond rfl (fun hc => ?_) (fun hc => ?_)
  · replace h := (if_pos hc).mp h
    refine Z 2 rfl ?_
    refine st_cut (fun ρ τ10 gs => ∃ (s10 : S) (g11 : Grp), field_All_1_j2 S Y s7 s10 o7 ∧ τ7.Le τ10 ∧ ρ = [(0, y), (2, .pointer (some ⟨bc1, 0, none⟩)), (7, v5), (8, .int .i64 (r1.length : Int)), (9, .int .i64 s7.2)] ∧ gs = [g11] ∧ I s10 τ10 g11) ?_ (fun hk10 => ?_)
    · rintro ρ10 τ10 gs10 ⟨s10, g11, h, hl10, rfl, rfl, hI12⟩
      refine Z 4 rfl ?_
      refine st_env (ρ' := [(0, y), (2, .pointer (some ⟨bc1, 0, none⟩)), (7, v5), (8, .int .i64 (r1.length : Int)), (9, .int .i64 (IntKind.i64.wrap (s7.2 + 1)))]) ⟨rfl, rfl, rfl, rfl, rfl, trivial⟩ ?_
      exact hn7 _ _ _ _ h ⟨(hl7.trans hl10), g11, rfl, rfl, hI12⟩
    refine Z 3 rfl ?_
    obtain ⟨q13, hf14, h⟩ := h
    refine o_index rfl rfl rfl z_slT118 rfl rfl (hs6.up hl7) rfl hf14 (fun b15 of16 vs hc17 hrep => ?_)
    obtain ⟨_, _, rfl, rfl, ⟨_, _, rfl, rfl, ⟨_, _, rfl, rfl, ⟨_, _, rfl, rfl, ⟨_, _, rfl, rfl, ⟨_, _, rfl, rfl, rfl⟩⟩⟩⟩⟩⟩ := hrep
    refine o_loadIN (vs := [.string q13.1, .int .i64 q13.2.1, .int .i64 q13.2.2.1, .int .i64 q13.2.2.2.1, .int .i64 q13.2.2.2.2.1, .int .i64 q13.2.2.2.2.2.1, .int .i64 q13.2.2.2.2.2.2]) rfl rfl rfl z_agg121 rfl rfl (celn_part 0 rfl hc17) ?_
    refine o_alloc rfl rfl rfl z_zero121 (fun b18 => ?_)
    refine o_store (j := 0) (vs := [.string q13.1, .int .i64 q13.2.1, .int .i64 q13.2.2.1, .int .i64 q13.2.2.2.1, .int .i64 q13.2.2.2.2.1, .int .i64 q13.2.2.2.2.2.1, .int .i64 q13.2.2.2.2.2.2]) (cs' := [.string q13.1, .int .i64 q13.2.1, .int .i64 q13.2.2.1, .int .i64 q13.2.2.2.1, .int .i64 q13.2.2.2.2.1, .int .i64 q13.2.2.2.2.2.1, .int .i64 q13.2.2.2.2.2.2]) rfl rfl rfl z_size121 rfl rfl rfl (ones_cons rfl (ones_cons rfl (ones_cons rfl (ones_cons rfl (ones_cons rfl (ones_cons rfl (ones_cons rfl ones_nil))))))) rfl rfl rfl ?_
    refine st_gs [[(b18, .cells [.string q13.1, .int .i64 q13.2.1, .int .i64 q13.2.2.1, .int .i64 q13.2.2.2.1, .int .i64 q13.2.2.2.2.1, .int .i64 q13.2.2.2.2.2.1, .int .i64 q13.2.2.2.2.2.2].toArray 121 (0, 0))], g8] rfl ?_
    refine Z 5 rfl ?_
    refine o_load (j := 0) (v := .int .i64 q13.2.2.2.2.2.1) rfl rfl rfl z_sc3 rfl rfl rfl ?_
    refine o_loadI (v := .int .i64 c1) rfl rfl rfl z_sc3 rfl (Cel.up hc1_0 ((hle.trans hl4).trans hl7)) ?_
    refine Z 2 rfl ?_
    refine st_cond rfl (fun hc => ?_) (fun hc => ?_)
    · replace h := (if_pos hc).mp h
      refine st_exit rfl ?_
      refine st_env (ρ' := [(0, y), (2, .pointer (some ⟨bc1, 0, none⟩)), (7, v5), (8, .int .i64 (r1.length : Int)), (9, .int .i64 s7.2)]) ⟨rfl, rfl, rfl, rfl, rfl, trivial⟩ ?_
      refine st_ord [1] [g8] rfl ?_
      exact hk10 _ _ _ ⟨s7.1, g8, h, (Sto.Le.refl _), rfl, rfl, hI9⟩
    · replace h := (if_neg (ne_t hc)).mp h
      refine Z 4 rfl ?_
      refine o_loadN (j := 0) (vs := [.string q13.1, .int .i64 q13.2.1, .int .i64 q13.2.2.1, .int .i64 q13.2.2.2.1, .int .i64 q13.2.2.2.2.1, .int .i64 q13.2.2.2.2.2.1, .int .i64 q13.2.2.2.2.2.2]) rfl rfl rfl z_agg121 rfl rfl rfl ?_
      obtain ⟨y19, u20, hy21, h⟩ := h
      refine st_ord [1, 0] [g8, [(b18, .cells [.string q13.1, .int .i64 q13.2.1, .int .i64 q13.2.2.1, .int .i64 q13.2.2.2.1, .int .i64 q13.2.2.2.2.1, .int .i64 q13.2.2.2.2.2.1, .int .i64 q13.2.2.2.2.2.2].toArray 121 (0, 0))]] rfl ?_
      refine st_call (foot := [g8]) rfl rfl rfl rfl rfl rfl (hY q13 s7.1 _ _ _ _ _ (hle.trans (hl4.trans hl7)) hy21 rfl hI9) ?_
      rintro vτ22 τ22 gsτ22 hl23 ⟨rfl, g24, rfl, hI25⟩
      refine Z 2 rfl ?_
      refine st_cond rfl (fun hc => ?_) (fun hc => ?_)
      · replace h := (if_pos hc).mp h
        refine Z 2 rfl ?_
        refine st_ord [0] [g24] rfl ?_
        obtain rfl := he7 _ h
        replace h := hA7
        obtain rfl := Eq.symm h
        cases hr0
        exact st_fin (gs' := [g24, []]) Tryd.func110 rfl (by simp) ((hl4.trans hl7).trans hl23) ⟨g24, _, rfl, hI25, rfl⟩
      · replace h := (if_neg (ne_t hc)).mp h
        refine Z 2 rfl ?_
        refine st_env (ρ' := [(0, y), (2, .pointer (some ⟨bc1, 0, none⟩)), (7, v5), (8, .int .i64 (r1.length : Int)), (9, .int .i64 s7.2)]) ⟨rfl, rfl, rfl, rfl, rfl, trivial⟩ ?_
        refine st_ord [0] [g24] rfl ?_
        exact hk10 _ _ _ ⟨u20, g24, h, hl23, rfl, rfl, hI25⟩
  · replace h := (if_neg (ne_t hc)).mp h
    refine Z 2 rfl ?_
    obtain rfl := he7 _ h
    replace h := hA7
    obtain rfl := Eq.symm h
    cases hr0
    exact st_fin (gs' := [g8, []]) Tryd.func110 rfl (by simp) (hl4.trans hl7) ⟨g8, _, rfl, hI9, rfl⟩
theorem field_All_ok {a0 : Int} {a1 : Int} {r : (((S : Type) → ((ByteArray × Int × Int × Int × Int × Int × Int) → S → Bool × S → Prop) → S → S × Unit → Prop))} (h : field_All a0 a1 r) (σ : Sto)  :
    Does Tryd.prog 70 [.int .i64 a0, .int .i64 a1] σ [] (fun v τ gs => ∃ (f9 : Nat) (q10 : Array Value), gs = [] ∧ .func (.func f9) #[] q10 = v ∧ IterV Tryd.prog (fun _ x vx => vx = [.agg [.string x.1, .int .i64 x.2.1, .int .i64 x.2.2.1, .int .i64 x.2.2.2.1, .int .i64 x.2.2.2.2.1, .int .i64 x.2.2.2.2.2.1, .int .i64 x.2.2.2.2.2.2].toArray]) (.func (.func f9) #[] q10) τ [] (fun (_ : Unit) _ f => f = []) r) := by
  refine call_of Tryd.func70 Tryd.ntmps70 rfl rfl (fun cs fs => ?_)
  refine Z 2 rfl ?_
  refine o_box (cs := [.int .i64 a0]) rfl rfl rfl rfl rfl (fun b1 => ?_)
  refine o_box (cs := [.int .i64 a1]) rfl rfl rfl rfl rfl (fun b2 => ?_)
  refine Z 4 rfl ?_
  refine st_ord [1, 0] [[(b1, .cells [.int .i64 a0].toArray 3 (0, 0))], [(b2, .cells [.int .i64 a1].toArray 3 (0, 0))]] rfl ?_
  refine st_freeze (fun τ3 hl4 hg5 => ?_)
  refine st_freeze (fun τ6 hl7 hg8 => ?_)
  refine Z 3 rfl ?_
  obtain rfl := Eq.symm h
  exact st_ret (gs' := []) Tryd.func70 rfl (List.Sublist.refl _) (hl4.trans hl7) ⟨_, _, rfl, rfl, (field_All_1_ok (Cel.up (cel_of hg5 rfl) hl7) (cel_of hg8 rfl))⟩
theorem strconv_Itoa_ok {a0 : Int} {r : ByteArray} (h : strconv_Itoa a0 r) (σ : Sto) (hT : Tab Tryd.prog σ) :
    Does Tryd.prog 93 [.int .i64 a0] σ [] (fun v τ gs => gs = [] ∧ .string r = v) := by
  obtain ⟨hk, rfl⟩ := h
  rw [itoa_lib]
  exact does_grow fun w hw => Tryd.strconv_Itoa a0 (i64_lo hk) (i64_hi hk) w (hT w hw)
theorem say_Number_ok {a0 : Int} {r : ByteArray} (h : say_Number a0 r) (σ : Sto) (hT : Tab Tryd.prog σ) :
    Does Tryd.prog 77 [.int .i64 a0] σ [] (fun v τ gs => gs = [] ∧ .string r = v) := by
  refine call_of Tryd.func77 Tryd.ntmps77 rfl rfl (fun cs fs => ?_)
  refine Z 2 rfl ?_
  refine o_assign rfl rfl rfl (ev_str z_str19) ?_
  refine Z 4 rfl ?_
  obtain ⟨r1, hr2, h⟩ := h
  refine st_call (foot := []) rfl rfl rfl rfl rfl rfl (callV_fn z_en93 (strconv_Itoa_ok hr2 σ hT)) ?_
  rintro vτ3 τ3 gsτ3 hl4 ⟨rfl, rfl⟩
  refine Z 2 rfl ?_
  obtain rfl := Eq.symm h
  exact st_ret (gs' := []) Tryd.func77 rfl (List.Sublist.refl _) hl4 ⟨rfl, rfl⟩
theorem strings_Join_ok {a0 : List ByteArray} {a1 : ByteArray} {v1 : Value} {r : ByteArray} (h : strings_Join a0 a1 r) (σ : Sto) (hs2 : Sl kS σ v1 a0) :
    Does Tryd.prog 111 [v1, .string a1] σ [] (fun v τ gs => gs = [] ∧ .string r = v) := by
  obtain ⟨h1, h2, rfl⟩ := h
  exact join_does Tryd.strings_Join_none Tryd.strings_Join hs2 h1 h2
theorem say_hex_ok {a0 : ByteArray} {r : ByteArray} (h : say_hex a0 r) (σ : Sto)  :
    Does Tryd.prog 112 [.string a0] σ [] (fun v τ gs => gs = [] ∧ .string r = v) := by
  refine call_of Tryd.func112 Tryd.ntmps112 rfl rfl (fun cs fs => ?_)
  refine Z 2 rfl ?_
  refine o_assign rfl rfl rfl (ev_str z_str19) ?_
  refine Z 5 rfl ?_
  refine o_sbin (v := .bool (decide (a0 = (bstr [])))) rfl rfl rfl rfl (ev_str z_str19) rfl ?_
  refine st_end ?_
  refine st_cond rfl (fun hc => ?_) (fun hc => ?_)
  · replace h := (if_pos hc).mp h
    refine Z 2 rfl ?_
    refine o_assign rfl rfl rfl (ev_str z_str28) ?_
    refine st_end ?_
    obtain rfl := Eq.symm h
    exact st_ret (gs' := []) Tryd.func112 rfl (List.Sublist.refl _) (Sto.Le.refl _) ⟨rfl, rfl⟩
  · replace h := (if_neg (ne_t hc)).mp h
    refine Z 6 rfl ?_
    refine st_cut (fun ρ τ1 gs => ∃ (s1 : List Int) (v2 : Value) (g3 : Grp), say_hex_j1 s1 r ∧ σ.Le τ1 ∧ ρ = [(2, .string (bstr [])), (3, v2)] ∧ gs = [g3] ∧ Ow (kI .u8) 5 τ1 v2 s1 g3) ?_ (fun hk1 => ?_)
    · rintro ρ1 τ1 gs1 ⟨s1, v2, g3, h, hl1, rfl, rfl, ho4⟩
      refine Z 3 rfl ?_
      refine st_freeze (fun τ5 hl6 hg7 => ?_)
      have hs8 := ho4.freeze hl6 hg7
      refine o_bstr (xs := s1) rfl rfl rfl Tryd.underlying67 Tryd.underlying5 Tryd.underlying9 rfl hs8 ?_
      refine Z 2 rfl ?_
      obtain rfl := Eq.symm h
      exact st_ret (gs' := []) Tryd.func112 rfl (List.Sublist.refl _) (hl1.trans hl6) ⟨rfl, rfl⟩
    refine Z 3 rfl ?_
    obtain ⟨hf14, h⟩ := h
    refine o_bytes rfl rfl rfl Tryd.underlying9 Tryd.underlying67 Tryd.underlying5 rfl hf14 (fun v10 τ11 hl12 hs13 => ?_)
    refine o_lenI rfl rfl rfl z_slT67 rfl hs13 ?_
    refine Z 2 rfl ?_
    obtain ⟨e15, hL15, hA15⟩ := h
    refine st_env (ρ' := [(2, .string (bstr [])), (3, .slice none 0 0), (9, v10), (10, .int .i64 ((bints a0).length : Int)), (11, .int .i64 0)]) ⟨rfl, rfl, rfl, rfl, rfl, trivial⟩ ?_
    refine st_addNil ?_
    refine st_loop hL15 (fun (s15 : List Int × Int) ρ τ15 gs => τ11.Le τ15 ∧ ∃ (v16 : Value) (g17 : Grp), ρ = [(2, .string (bstr [])), (3, v16), (9, v10), (10, .int .i64 ((bints a0).length : Int)), (11, .int .i64 s15.2)] ∧ gs = [g17] ∧ Ow (kI .u8) 5 τ15 v16 s15.1 g17) ⟨Sto.Le.refl _, _, _, rfl, rfl, Ow.nil⟩ ?_
    rintro s15 o15 h he15 ρ15 τ15 gs15 ⟨hl15, v16, g17, rfl, rfl, ho18⟩ hn15
    refine Z 5 rfl ?_
    refine st_cond rfl (fun hc => ?_) (fun hc => ?_)
    · replace h := (if_pos hc).mp h
      refine Z 5 rfl ?_
      obtain ⟨q19, hf20, h⟩ := h
      refine o_index rfl rfl rfl z_slT67 rfl rfl (hs13.up hl15) rfl hf20 (fun b21 of22 vs hc23 hrep => ?_)
      obtain rfl := hrep
      refine o_loadI (v := .int .u8 q19) rfl rfl rfl z_sc5 rfl (hc23 0 _ rfl) ?_
      refine Z 2 rfl ?_
      obtain ⟨q24, hf25, q26, hf27, hf38, hf39, h⟩ := h
      refine st_draw41 (gs := []) (F0 := [g17]) 9 1 (tlP [none, none, none, none, none, none, none, none, some (0, 0)]) (tlP [none, none, none, none, none, none, none, none, none]) (tlNN [[none, some 23]]) (tl [fun τ v => (v16 : Value) = v,
    fun τ v => (.int .u8 q19 : Value) = v,
    fun τ v => (.int .u8 (ishr .u8 q19 4) : Value) = v,
    fun τ v => (.int .u8 q24 : Value) = v,
    fun τ v => (.int .u8 q19 : Value) = v,
    fun τ v => (.int .u8 (iand .u8 q19 15) : Value) = v,
    fun τ v => (.int .u8 q26 : Value) = v,
    fun τ v => ∃ (v28 : Value), (v28 : Value) = v ∧ Sl (kI .u8) τ v28 [q24, q26],
    fun _ _ => True]) (tlII [[fun τ u F => F = [g17],
    fun τ u F => ∃ (v40 : Value) (g41 : Grp), F = [g41] ∧ v40 = u ∧ Ow (kI .u8) 5 τ v40 (s15.1 ++ [q24, q26]) g41]]) z_mix ?_ (tl_mono ⟨fun _ _ _ _ h => h, ⟨fun _ _ _ _ h => h, ⟨fun _ _ _ _ h => h, ⟨fun _ _ _ _ h => h, ⟨fun _ _ _ _ h => h, ⟨fun _ _ _ _ h => h, ⟨fun _ _ _ _ h => h, ⟨fun _ _ _ hl ⟨v28, hv, hs34⟩ => ⟨v28, hv, hs34.up hl⟩, ⟨fun _ _ _ _ _ => trivial, trivial⟩⟩⟩⟩⟩⟩⟩⟩⟩) (tlII_mono ⟨⟨fun _ _ _ _ hl h => h, ⟨fun _ _ _ _ hl h => (let ⟨v40, g41, hF, hU, ho42⟩ := h; ⟨v40, g41, hF, hU, ho42.up hl⟩), trivial⟩⟩, trivial⟩) ?_ ?_ ?_ (allB_cons (allB_cons (allB_cons (allB_cons (allB_cons (allB_cons (allB_cons (allB_cons (allB_cons allB_nil ?_) ?_) ?_) ?_) ?_) ?_) ?_) ?_) ?_) ?_
      · exact rfl
      · exact rfl
      · exact rfl
      · exact rfl
      · intro ρ' τ pool rs hl hd hout hw hk
        refine o_move rfl rfl rfl ((hout 3 rfl).trans rfl) ?_
        exact hk _ _ (Sto.Le.refl _) rfl
      · intro ρ' τ pool rs hl hd hout hw hk
        refine o_move rfl rfl rfl ((hout 5 rfl).trans rfl) ?_
        exact hk _ _ (Sto.Le.refl _) rfl
      · intro ρ' τ pool rs hl hd hout hw hk
        obtain ⟨_, e1, rfl⟩ := hd 1 rfl _ rfl
        refine o_shr rfl rfl rfl e1 rfl (by decide) ?_
        exact hk _ _ (Sto.Le.refl _) rfl
      · intro ρ' τ pool rs hl hd hout hw hk
        obtain ⟨_, e2, rfl⟩ := hd 2 rfl _ rfl
        refine o_indexS rfl rfl rfl Tryd.underlying9 (ev_str z_str29) e2 hf25 ?_
        exact hk _ _ (Sto.Le.refl _) rfl
      · intro ρ' τ pool rs hl hd hout hw hk
        refine o_move rfl rfl rfl ((hout 5 rfl).trans rfl) ?_
        exact hk _ _ (Sto.Le.refl _) rfl
      · intro ρ' τ pool rs hl hd hout hw hk
        obtain ⟨_, e4, rfl⟩ := hd 4 rfl _ rfl
        refine o_ibin (v := .int .u8 (iand .u8 q19 15)) rfl rfl rfl e4 rfl rfl ?_
        exact hk _ _ (Sto.Le.refl _) rfl
      · intro ρ' τ pool rs hl hd hout hw hk
        obtain ⟨_, e5, rfl⟩ := hd 5 rfl _ rfl
        refine o_indexS rfl rfl rfl Tryd.underlying9 (ev_str z_str29) e5 hf27 ?_
        exact hk _ _ (Sto.Le.refl _) rfl
      · intro ρ' τ pool rs hl hd hout hw hk
        obtain ⟨_, e3, rfl⟩ := hd 3 rfl _ rfl
        obtain ⟨_, e6, rfl⟩ := hd 6 rfl _ rfl
        refine o_lit (dk := (kI .u8)) (xs := [q24, q26]) (ps := [(0, [.int .u8 q24]), (1, [.int .u8 q26])]) (cs := [.int .u8 q24, .int .u8 q26]) rfl rfl rfl z_slT67 z_zero5 ⟨rfl, ⟨_, e3, rfl⟩, ⟨rfl, ⟨_, e6, rfl⟩, trivial⟩⟩ rfl rfl rfl rfl (Kd.Many.cons (d := (kI .u8)) (x := q24) (a := [.int .u8 q24]) rfl (Kd.Many.cons (d := (kI .u8)) (x := q26) (a := [.int .u8 q26]) rfl Kd.Many.nil)) (fun v28 g29 ho30 => ?_)
        refine st_freeze (fun τ31 hl32 hg33 => ?_)
        have hs34 := ho30.freeze hl32 hg33
        exact hk _ _ hl32 ⟨v28, rfl, hs34⟩
      · intro ρ' τ u Fv pool rs hl hI hu hd hout hw hk
        obtain ⟨_, e0, rfl⟩ := hd 0 rfl _ rfl
        obtain ⟨_, e7, v28, rfl, hs34⟩ := hd 7 rfl _ rfl
        have hI0 := hI
        obtain rfl := hI
        refine st_gs [g17, pool] rfl ?_
        refine o_append (dk := (kI .u8)) (xs := s15.1) (ys := [q24, q26]) rfl rfl rfl rfl z_slT67 e0 (ho18.up hl) e7 (Sl.src hs34) hf38 hf39 (fun v35 g36 ho37 => ?_)
        exact hk _ _ [g36] (Sto.Le.refl _) trivial (by exact ⟨v35, g36, rfl, rfl, ho37⟩)
      intro ρ' τ43 vals u Fv hl43 hI hu hv hout
      obtain ⟨v40, g41, rfl, rfl, ho42⟩ := hI
      refine st_gs [g41] rfl ?_
      refine st_env (ρ' := [(2, .string (bstr [])), (9, v10), (10, .int .i64 ((bints a0).length : Int)), (11, .int .i64 s15.2), (23, v40)]) ⟨(hout 2 rfl).trans rfl, (hout 9 rfl).trans rfl, (hout 10 rfl).trans rfl, (hout 11 rfl).trans rfl, (by exact hu _ rfl), trivial⟩ ?_
      refine Z 7 rfl ?_
      refine st_env (ρ' := [(2, .string (bstr [])), (3, v40), (9, v10), (10, .int .i64 ((bints a0).length : Int)), (11, .int .i64 (IntKind.i64.wrap (s15.2 + 1)))]) ⟨rfl, rfl, rfl, rfl, rfl, trivial⟩ ?_
      exact hn15 _ _ _ _ h ⟨(hl15.trans hl43), _, _, rfl, rfl, ho42⟩
    · replace h := (if_neg (ne_t hc)).mp h
      refine st_exit rfl ?_
      obtain rfl := he15 _ h
      replace h := hA15
      refine st_env (ρ' := [(2, .string (bstr [])), (3, v16)]) ⟨rfl, rfl, trivial⟩ ?_
      exact hk1 _ _ _ ⟨s15.1, _, _, h, (hl12.trans hl15), rfl, rfl, ho18⟩
theorem say_value_ok {a0 : Int × List Int × List (Int × Int) × List Int × ByteArray × ByteArray} {a1 : ByteArray × Int × Int × Int × Int × Int × Int} {v1 : Value} {v2 : Value} {r : ByteArray} (h : say_value a0 a1 r) (σ : Sto) (hs3 : Sl (kP (kI .i64) (kI .i64)) σ v1 a0.2.2.1) (hs4 : Sl (kI .i64) σ v2 a0.2.2.2.1) (hT : Tab Tryd.prog σ) :
    Does Tryd.prog 71 [.agg [.int .i64 a0.1, .int .i64 (a0.2.1.getD 0 0), .int .i64 (a0.2.1.getD 1 0), .int .i64 (a0.2.1.getD 2 0), .int .i64 (a0.2.1.getD 3 0), .int .i64 (a0.2.1.getD 4 0), .int .i64 (a0.2.1.getD 5 0), v1, v2, .string a0.2.2.2.2.1, .string a0.2.2.2.2.2].toArray, .agg [.string a1.1, .int .i64 a1.2.1, .int .i64 a1.2.2.1, .int .i64 a1.2.2.2.1, .int .i64 a1.2.2.2.2.1, .int .i64 a1.2.2.2.2.2.1, .int .i64 a1.2.2.2.2.2.2].toArray] σ [] (fun v τ gs => gs = [] ∧ .string r = v) := by
  refine call_of Tryd.func71 Tryd.ntmps71 rfl rfl (fun cs fs => ?_)
  refine Z 2 rfl ?_
  refine o_box (cs := [.int .i64 a0.1, .int .i64 (a0.2.1.getD 0 0), .int .i64 (a0.2.1.getD 1 0), .int .i64 (a0.2.1.getD 2 0), .int .i64 (a0.2.1.getD 3 0), .int .i64 (a0.2.1.getD 4 0), .int .i64 (a0.2.1.getD 5 0), v1, v2, .string a0.2.2.2.2.1, .string a0.2.2.2.2.2]) rfl rfl rfl rfl rfl (fun b5 => ?_)
  refine o_box (cs := [.string a1.1, .int .i64 a1.2.1, .int .i64 a1.2.2.1, .int .i64 a1.2.2.2.1, .int .i64 a1.2.2.2.2.1, .int .i64 a1.2.2.2.2.2.1, .int .i64 a1.2.2.2.2.2.2]) rfl rfl rfl rfl rfl (fun b6 => ?_)
  refine o_assign rfl rfl rfl (ev_str z_str19) ?_
  refine Z 9 rfl ?_
  refine o_load (j := 0) (v := .int .i64 a1.2.1) rfl rfl rfl z_sc3 rfl rfl rfl ?_
  refine Z 7 rfl ?_
  refine st_cond rfl (fun hc => ?_) (fun hc => ?_)
  · replace h := (if_pos hc).mp h
    refine st_seq ?_
    refine st_cut (fun ρ τ7 gs => ∃ (s7 : List ByteArray) (v8 : Value) (g9 : Grp), say_value_j1 s7 r ∧ σ.Le τ7 ∧ ρ = [(2, .pointer (some ⟨b5, 0, none⟩)), (3, .pointer (some ⟨b6, 0, none⟩)), (4, .string (bstr [])), (5, v8)] ∧ gs = [[(b5, .cells [.int .i64 a0.1, .int .i64 (a0.2.1.getD 0 0), .int .i64 (a0.2.1.getD 1 0), .int .i64 (a0.2.1.getD 2 0), .int .i64 (a0.2.1.getD 3 0), .int .i64 (a0.2.1.getD 4 0), .int .i64 (a0.2.1.getD 5 0), v1, v2, .string a0.2.2.2.2.1, .string a0.2.2.2.2.2].toArray 26 (0, 0))], [(b6, .cells [.string a1.1, .int .i64 a1.2.1, .int .i64 a1.2.2.1, .int .i64 a1.2.2.2.1, .int .i64 a1.2.2.2.2.1, .int .i64 a1.2.2.2.2.2.1, .int .i64 a1.2.2.2.2.2.2].toArray 121 (0, 0))], g9] ∧ Ow kS 9 τ7 v8 s7 g9) ?_ (fun hk7 => ?_)
    · rintro ρ7 τ7 gs7 ⟨s7, v8, g9, h, hl7, rfl, rfl, ho10⟩
      refine Z 3 rfl ?_
      obtain ⟨r16, hr17, h⟩ := h
      refine st_ord [2, 0, 0] [g9, [(b5, .cells [.int .i64 a0.1, .int .i64 (a0.2.1.getD 0 0), .int .i64 (a0.2.1.getD 1 0), .int .i64 (a0.2.1.getD 2 0), .int .i64 (a0.2.1.getD 3 0), .int .i64 (a0.2.1.getD 4 0), .int .i64 (a0.2.1.getD 5 0), v1, v2, .string a0.2.2.2.2.1, .string a0.2.2.2.2.2].toArray 26 (0, 0))], [(b6, .cells [.string a1.1, .int .i64 a1.2.1, .int .i64 a1.2.2.1, .int .i64 a1.2.2.2.1, .int .i64 a1.2.2.2.2.1, .int .i64 a1.2.2.2.2.2.1, .int .i64 a1.2.2.2.2.2.2].toArray 121 (0, 0))]] rfl ?_
      refine st_freeze (fun τ11 hl12 hg13 => ?_)
      have hs14 := ho10.freeze hl12 hg13
      refine st_call (foot := []) rfl rfl rfl rfl (evs_cons rfl (evs_cons (ev_str z_str27) rfl)) rfl (callV_fn z_en111 (strings_Join_ok hr17 τ11 hs14)) ?_
      rintro vτ18 τ18 gsτ18 hl19 ⟨rfl, rfl⟩
      refine Z 2 rfl ?_
      refine st_ord [] [] rfl ?_
      obtain rfl := Eq.symm h
      exact st_ret (gs' := []) Tryd.func71 rfl (List.Sublist.refl _) ((hl7.trans hl12).trans hl19) ⟨rfl, rfl⟩
    refine Z 3 rfl ?_
    refine o_load (j := 1) (v := v1) rfl rfl rfl z_sc23 rfl rfl rfl ?_
    refine o_lenI rfl rfl rfl z_slT23 rfl hs3 ?_
    refine Z 2 rfl ?_
    obtain ⟨e20, hL20, hA20⟩ := h
    refine st_env (ρ' := [(2, .pointer (some ⟨b5, 0, none⟩)), (3, .pointer (some ⟨b6, 0, none⟩)), (4, .string (bstr [])), (5, .slice none 0 0), (15, v1), (16, .int .i64 (a0.2.2.1.length : Int)), (17, .int .i64 0)]) ⟨rfl, rfl, rfl, rfl, rfl, rfl, rfl, trivial⟩ ?_
    refine st_addNil ?_
    refine st_ord [2, 1, 0] [[(b5, .cells [.int .i64 a0.1, .int .i64 (a0.2.1.getD 0 0), .int .i64 (a0.2.1.getD 1 0), .int .i64 (a0.2.1.getD 2 0), .int .i64 (a0.2.1.getD 3 0), .int .i64 (a0.2.1.getD 4 0), .int .i64 (a0.2.1.getD 5 0), v1, v2, .string a0.2.2.2.2.1, .string a0.2.2.2.2.2].toArray 26 (0, 0))], [(b6, .cells [.string a1.1, .int .i64 a1.2.1, .int .i64 a1.2.2.1, .int .i64 a1.2.2.2.1, .int .i64 a1.2.2.2.2.1, .int .i64 a1.2.2.2.2.2.1, .int .i64 a1.2.2.2.2.2.2].toArray 121 (0, 0))], []] rfl ?_
    refine st_loop hL20 (fun (s20 : List ByteArray × Int) ρ τ20 gs => σ.Le τ20 ∧ ∃ (v21 : Value) (g22 : Grp), ρ = [(2, .pointer (some ⟨b5, 0, none⟩)), (3, .pointer (some ⟨b6, 0, none⟩)), (4, .string (bstr [])), (5, v21), (15, v1), (16, .int .i64 (a0.2.2.1.length : Int)), (17, .int .i64 s20.2)] ∧ gs = [[(b5, .cells [.int .i64 a0.1, .int .i64 (a0.2.1.getD 0 0), .int .i64 (a0.2.1.getD 1 0), .int .i64 (a0.2.1.getD 2 0), .int .i64 (a0.2.1.getD 3 0), .int .i64 (a0.2.1.getD 4 0), .int .i64 (a0.2.1.getD 5 0), v1, v2, .string a0.2.2.2.2.1, .string a0.2.2.2.2.2].toArray 26 (0, 0))], [(b6, .cells [.string a1.1, .int .i64 a1.2.1, .int .i64 a1.2.2.1, .int .i64 a1.2.2.2.1, .int .i64 a1.2.2.2.2.1, .int .i64 a1.2.2.2.2.2.1, .int .i64 a1.2.2.2.2.2.2].toArray 121 (0, 0))], g22] ∧ Ow kS 9 τ20 v21 s20.1 g22) ⟨Sto.Le.refl _, _, _, rfl, rfl, Ow.nil⟩ ?_
    rintro s20 o20 h he20 ρ20 τ20 gs20 ⟨hl20, v21, g22, rfl, rfl, ho23⟩ hn20
    refine Z 5 rfl ?_
    refine st_cond rfl (fun hc => ?_) (fun hc => ?_)
    · replace h := (if_pos hc).mp h
      refine Z 5 rfl ?_
      obtain ⟨q24, hf25, h⟩ := h
      refine o_index rfl rfl rfl z_slT23 rfl rfl (hs3.up hl20) rfl hf25 (fun b26 of27 vs hc28 hrep => ?_)
      obtain ⟨_, _, rfl, rfl, rfl⟩ := hrep
      refine o_loadIN (vs := [.int .i64 q24.1, .int .i64 q24.2]) rfl rfl rfl z_agg46 rfl rfl (celn_part 0 rfl hc28) ?_
      refine o_alloc rfl rfl rfl z_zero46 (fun b29 => ?_)
      refine o_store (j := 0) (vs := [.int .i64 q24.1, .int .i64 q24.2]) (cs' := [.int .i64 q24.1, .int .i64 q24.2]) rfl rfl rfl z_size46 rfl rfl rfl (ones_cons rfl (ones_cons rfl ones_nil)) rfl rfl rfl ?_
      refine st_gs [[(b29, .cells [.int .i64 q24.1, .int .i64 q24.2].toArray 46 (0, 0))], [(b5, .cells [.int .i64 a0.1, .int .i64 (a0.2.1.getD 0 0), .int .i64 (a0.2.1.getD 1 0), .int .i64 (a0.2.1.getD 2 0), .int .i64 (a0.2.1.getD 3 0), .int .i64 (a0.2.1.getD 4 0), .int .i64 (a0.2.1.getD 5 0), v1, v2, .string a0.2.2.2.2.1, .string a0.2.2.2.2.2].toArray 26 (0, 0))], [(b6, .cells [.string a1.1, .int .i64 a1.2.1, .int .i64 a1.2.2.1, .int .i64 a1.2.2.2.1, .int .i64 a1.2.2.2.2.1, .int .i64 a1.2.2.2.2.2.1, .int .i64 a1.2.2.2.2.2.2].toArray 121 (0, 0))], g22] rfl ?_
      refine st_end ?_
      obtain ⟨r30, hr31, hf34, r35, hr36, hf39, hf50, hf51, h⟩ := h
      refine st_draw41 (gs := [[(b29, .cells [.int .i64 q24.1, .int .i64 q24.2].toArray 46 (0, 0))], [(b5, .cells [.int .i64 a0.1, .int .i64 (a0.2.1.getD 0 0), .int .i64 (a0.2.1.getD 1 0), .int .i64 (a0.2.1.getD 2 0), .int .i64 (a0.2.1.getD 3 0), .int .i64 (a0.2.1.getD 4 0), .int .i64 (a0.2.1.getD 5 0), v1, v2, .string a0.2.2.2.2.1, .string a0.2.2.2.2.2].toArray 26 (0, 0))], [(b6, .cells [.string a1.1, .int .i64 a1.2.1, .int .i64 a1.2.2.1, .int .i64 a1.2.2.2.1, .int .i64 a1.2.2.2.2.1, .int .i64 a1.2.2.2.2.2.1, .int .i64 a1.2.2.2.2.2.2].toArray 121 (0, 0))]]) (F0 := [g22]) 11 1 (tlP [none, none, none, none, none, none, none, none, none, none, some (0, 0)]) (tlP [none, none, none, none, none, none, none, none, none, none, none]) (tlNN [[none, some 31]]) (tl [fun τ v => (v21 : Value) = v,
    fun τ v => (.pointer (some ⟨b29, 0, none⟩) : Value) = v,
    fun τ v => (.int .i64 q24.1 : Value) = v,
    fun τ v => (.string r30 : Value) = v,
    fun τ v => (.string (r30 ++ (bstr [44])) : Value) = v,
    fun τ v => (.pointer (some ⟨b29, 1, none⟩) : Value) = v,
    fun τ v => (.int .i64 q24.2 : Value) = v,
    fun τ v => (.string r35 : Value) = v,
    fun τ v => (.string ((r30 ++ (bstr [44])) ++ r35) : Value) = v,
    fun τ v => ∃ (v40 : Value), (v40 : Value) = v ∧ Sl kS τ v40 [((r30 ++ (bstr [44])) ++ r35)],
    fun _ _ => True]) (tlII [[fun τ u F => F = [g22],
    fun τ u F => ∃ (v52 : Value) (g53 : Grp), F = [g53] ∧ v52 = u ∧ Ow kS 9 τ v52 (s20.1 ++ [((r30 ++ (bstr [44])) ++ r35)]) g53]]) z_mix ?_ (tl_mono ⟨fun _ _ _ _ h => h, ⟨fun _ _ _ _ h => h, ⟨fun _ _ _ _ h => h, ⟨fun _ _ _ _ h => h, ⟨fun _ _ _ _ h => h, ⟨fun _ _ _ _ h => h, ⟨fun _ _ _ _ h => h, ⟨fun _ _ _ _ h => h, ⟨fun _ _ _ _ h => h, ⟨fun _ _ _ hl ⟨v40, hv, hs46⟩ => ⟨v40, hv, hs46.up hl⟩, ⟨fun _ _ _ _ _ => trivial, trivial⟩⟩⟩⟩⟩⟩⟩⟩⟩⟩⟩) (tlII_mono ⟨⟨fun _ _ _ _ hl h => h, ⟨fun _ _ _ _ hl h => (let ⟨v52, g53, hF, hU, ho54⟩ := h; ⟨v52, g53, hF, hU, ho54.up hl⟩), trivial⟩⟩, trivial⟩) ?_ ?_ ?_ (allB_cons (allB_cons (allB_cons (allB_cons (allB_cons (allB_cons (allB_cons (allB_cons (allB_cons (allB_cons (allB_cons allB_nil ?_) ?_) ?_) ?_) ?_) ?_) ?_) ?_) ?_) ?_) ?_) ?_
      · exact rfl
      · exact rfl
      · exact rfl
      · exact rfl
      · intro ρ' τ pool rs hl hd hout hw hk
        refine o_move rfl rfl rfl ((hout 5 rfl).trans rfl) ?_
        exact hk _ _ (Sto.Le.refl _) rfl
      · intro ρ' τ pool rs hl hd hout hw hk
        refine o_fieldAddr rfl rfl rfl z_field46_0 ((hout 7 rfl).trans rfl) ?_
        exact hk _ _ (Sto.Le.refl _) rfl
      · intro ρ' τ pool rs hl hd hout hw hk
        obtain ⟨_, e1, rfl⟩ := hd 1 rfl _ rfl
        refine o_load (j := 0) (v := .int .i64 q24.1) rfl rfl rfl z_sc3 e1 rfl rfl ?_
        exact hk _ _ (Sto.Le.refl _) rfl
      · intro ρ' τ pool rs hl hd hout hw hk
        obtain ⟨_, e2, rfl⟩ := hd 2 rfl _ rfl
        refine st_call (foot := []) rfl rfl rfl rfl (evs_cons e2 rfl) rfl (callV_fn z_en77 (say_Number_ok hr31 τ (hT.up (hl20.trans hl)))) ?_
        rintro vτ32 τ32 gsτ32 hl33 ⟨rfl, rfl⟩
        exact hk _ _ hl33 rfl
      · intro ρ' τ pool rs hl hd hout hw hk
        obtain ⟨_, e3, rfl⟩ := hd 3 rfl _ rfl
        refine o_sadd rfl rfl rfl e3 (ev_str z_str26) hf34 ?_
        exact hk _ _ (Sto.Le.refl _) rfl
      · intro ρ' τ pool rs hl hd hout hw hk
        refine o_fieldAddr rfl rfl rfl z_field46_1 ((hout 7 rfl).trans rfl) ?_
        exact hk _ _ (Sto.Le.refl _) rfl
      · intro ρ' τ pool rs hl hd hout hw hk
        obtain ⟨_, e5, rfl⟩ := hd 5 rfl _ rfl
        refine o_load (j := 0) (v := .int .i64 q24.2) rfl rfl rfl z_sc3 e5 rfl rfl ?_
        exact hk _ _ (Sto.Le.refl _) rfl
      · intro ρ' τ pool rs hl hd hout hw hk
        obtain ⟨_, e6, rfl⟩ := hd 6 rfl _ rfl
        refine st_call (foot := []) rfl rfl rfl rfl (evs_cons e6 rfl) rfl (callV_fn z_en77 (say_Number_ok hr36 τ (hT.up (hl20.trans hl)))) ?_
        rintro vτ37 τ37 gsτ37 hl38 ⟨rfl, rfl⟩
        exact hk _ _ hl38 rfl
      · intro ρ' τ pool rs hl hd hout hw hk
        obtain ⟨_, e4, rfl⟩ := hd 4 rfl _ rfl
        obtain ⟨_, e7, rfl⟩ := hd 7 rfl _ rfl
        refine o_sadd rfl rfl rfl e4 e7 hf39 ?_
        exact hk _ _ (Sto.Le.refl _) rfl
      · intro ρ' τ pool rs hl hd hout hw hk
        obtain ⟨_, e8, rfl⟩ := hd 8 rfl _ rfl
        refine o_lit (dk := kS) (xs := [((r30 ++ (bstr [44])) ++ r35)]) (ps := [(0, [.string ((r30 ++ (bstr [44])) ++ r35)])]) (cs := [.string ((r30 ++ (bstr [44])) ++ r35)]) rfl rfl rfl z_slT68 z_zero9 ⟨rfl, ⟨_, e8, rfl⟩, trivial⟩ rfl rfl rfl rfl (Kd.Many.cons (d := kS) (x := ((r30 ++ (bstr [44])) ++ r35)) (a := [.string ((r30 ++ (bstr [44])) ++ r35)]) rfl Kd.Many.nil) (fun v40 g41 ho42 => ?_)
        refine st_freeze (fun τ43 hl44 hg45 => ?_)
        have hs46 := ho42.freeze hl44 hg45
        exact hk _ _ hl44 ⟨v40, rfl, hs46⟩
      · intro ρ' τ u Fv pool rs hl hI hu hd hout hw hk
        obtain ⟨_, e0, rfl⟩ := hd 0 rfl _ rfl
        obtain ⟨_, e9, v40, rfl, hs46⟩ := hd 9 rfl _ rfl
        have hI0 := hI
        obtain rfl := hI
        refine st_gs [[(b29, .cells [.int .i64 q24.1, .int .i64 q24.2].toArray 46 (0, 0))], [(b5, .cells [.int .i64 a0.1, .int .i64 (a0.2.1.getD 0 0), .int .i64 (a0.2.1.getD 1 0), .int .i64 (a0.2.1.getD 2 0), .int .i64 (a0.2.1.getD 3 0), .int .i64 (a0.2.1.getD 4 0), .int .i64 (a0.2.1.getD 5 0), v1, v2, .string a0.2.2.2.2.1, .string a0.2.2.2.2.2].toArray 26 (0, 0))], [(b6, .cells [.string a1.1, .int .i64 a1.2.1, .int .i64 a1.2.2.1, .int .i64 a1.2.2.2.1, .int .i64 a1.2.2.2.2.1, .int .i64 a1.2.2.2.2.2.1, .int .i64 a1.2.2.2.2.2.2].toArray 121 (0, 0))], g22, pool] rfl ?_
        refine st_ord [3, 0, 0, 0, 0] [g22, [(b29, .cells [.int .i64 q24.1, .int .i64 q24.2].toArray 46 (0, 0))], [(b5, .cells [.int .i64 a0.1, .int .i64 (a0.2.1.getD 0 0), .int .i64 (a0.2.1.getD 1 0), .int .i64 (a0.2.1.getD 2 0), .int .i64 (a0.2.1.getD 3 0), .int .i64 (a0.2.1.getD 4 0), .int .i64 (a0.2.1.getD 5 0), v1, v2, .string a0.2.2.2.2.1, .string a0.2.2.2.2.2].toArray 26 (0, 0))], [(b6, .cells [.string a1.1, .int .i64 a1.2.1, .int .i64 a1.2.2.1, .int .i64 a1.2.2.2.1, .int .i64 a1.2.2.2.2.1, .int .i64 a1.2.2.2.2.2.1, .int .i64 a1.2.2.2.2.2.2].toArray 121 (0, 0))], pool] rfl ?_
        refine o_append (dk := kS) (xs := s20.1) (ys := [((r30 ++ (bstr [44])) ++ r35)]) rfl rfl rfl rfl z_slT68 e0 (ho23.up hl) e9 (Sl.src hs46) hf50 hf51 (fun v47 g48 ho49 => ?_)
        refine st_ord [1, 1, 1, 0, 0] [[(b29, .cells [.int .i64 q24.1, .int .i64 q24.2].toArray 46 (0, 0))], [(b5, .cells [.int .i64 a0.1, .int .i64 (a0.2.1.getD 0 0), .int .i64 (a0.2.1.getD 1 0), .int .i64 (a0.2.1.getD 2 0), .int .i64 (a0.2.1.getD 3 0), .int .i64 (a0.2.1.getD 4 0), .int .i64 (a0.2.1.getD 5 0), v1, v2, .string a0.2.2.2.2.1, .string a0.2.2.2.2.2].toArray 26 (0, 0))], [(b6, .cells [.string a1.1, .int .i64 a1.2.1, .int .i64 a1.2.2.1, .int .i64 a1.2.2.2.1, .int .i64 a1.2.2.2.2.1, .int .i64 a1.2.2.2.2.2.1, .int .i64 a1.2.2.2.2.2.2].toArray 121 (0, 0))], g48, pool] rfl ?_
        exact hk _ _ [g48] (Sto.Le.refl _) trivial (by exact ⟨v47, g48, rfl, rfl, ho49⟩)
      intro ρ' τ55 vals u Fv hl55 hI hu hv hout
      obtain ⟨v52, g53, rfl, rfl, ho54⟩ := hI
      refine st_gs [[(b29, .cells [.int .i64 q24.1, .int .i64 q24.2].toArray 46 (0, 0))], [(b5, .cells [.int .i64 a0.1, .int .i64 (a0.2.1.getD 0 0), .int .i64 (a0.2.1.getD 1 0), .int .i64 (a0.2.1.getD 2 0), .int .i64 (a0.2.1.getD 3 0), .int .i64 (a0.2.1.getD 4 0), .int .i64 (a0.2.1.getD 5 0), v1, v2, .string a0.2.2.2.2.1, .string a0.2.2.2.2.2].toArray 26 (0, 0))], [(b6, .cells [.string a1.1, .int .i64 a1.2.1, .int .i64 a1.2.2.1, .int .i64 a1.2.2.2.1, .int .i64 a1.2.2.2.2.1, .int .i64 a1.2.2.2.2.2.1, .int .i64 a1.2.2.2.2.2.2].toArray 121 (0, 0))], g53] rfl ?_
      refine st_env (ρ' := [(2, .pointer (some ⟨b5, 0, none⟩)), (3, .pointer (some ⟨b6, 0, none⟩)), (4, .string (bstr [])), (15, v1), (16, .int .i64 (a0.2.2.1.length : Int)), (17, .int .i64 s20.2), (31, v52)]) ⟨(hout 2 rfl).trans rfl, (hout 3 rfl).trans rfl, (hout 4 rfl).trans rfl, (hout 15 rfl).trans rfl, (hout 16 rfl).trans rfl, (hout 17 rfl).trans rfl, (by exact hu _ rfl), trivial⟩ ?_
      refine Z 7 rfl ?_
      refine st_env (ρ' := [(2, .pointer (some ⟨b5, 0, none⟩)), (3, .pointer (some ⟨b6, 0, none⟩)), (4, .string (bstr [])), (5, v52), (15, v1), (16, .int .i64 (a0.2.2.1.length : Int)), (17, .int .i64 (IntKind.i64.wrap (s20.2 + 1)))]) ⟨rfl, rfl, rfl, rfl, rfl, rfl, rfl, trivial⟩ ?_
      refine st_ord [1, 1, 1] [[(b5, .cells [.int .i64 a0.1, .int .i64 (a0.2.1.getD 0 0), .int .i64 (a0.2.1.getD 1 0), .int .i64 (a0.2.1.getD 2 0), .int .i64 (a0.2.1.getD 3 0), .int .i64 (a0.2.1.getD 4 0), .int .i64 (a0.2.1.getD 5 0), v1, v2, .string a0.2.2.2.2.1, .string a0.2.2.2.2.2].toArray 26 (0, 0))], [(b6, .cells [.string a1.1, .int .i64 a1.2.1, .int .i64 a1.2.2.1, .int .i64 a1.2.2.2.1, .int .i64 a1.2.2.2.2.1, .int .i64 a1.2.2.2.2.2.1, .int .i64 a1.2.2.2.2.2.2].toArray 121 (0, 0))], g53] rfl ?_
      exact hn20 _ _ _ _ h ⟨(hl20.trans hl55), _, _, rfl, rfl, ho54⟩
    · replace h := (if_neg (ne_t hc)).mp h
      refine st_exit rfl ?_
      obtain rfl := he20 _ h
      replace h := hA20
      refine st_env (ρ' := [(2, .pointer (some ⟨b5, 0, none⟩)), (3, .pointer (some ⟨b6, 0, none⟩)), (4, .string (bstr [])), (5, v21)]) ⟨rfl, rfl, rfl, rfl, trivial⟩ ?_
      exact hk7 _ _ _ ⟨s20.1, _, _, h, hl20, rfl, rfl, ho23⟩
  · replace h := (if_neg (ne_t hc)).mp h
    refine Z 5 rfl ?_
    refine st_cond rfl (fun hc => ?_) (fun hc => ?_)
    · replace h := (if_pos hc).mp h
      refine st_seq ?_
      refine st_cut (fun ρ τ57 gs => ∃ (s57 : List ByteArray) (v58 : Value) (g59 : Grp), say_value_j3 s57 r ∧ σ.Le τ57 ∧ ρ = [(2, .pointer (some ⟨b5, 0, none⟩)), (3, .pointer (some ⟨b6, 0, none⟩)), (4, .string (bstr [])), (5, v58)] ∧ gs = [[(b5, .cells [.int .i64 a0.1, .int .i64 (a0.2.1.getD 0 0), .int .i64 (a0.2.1.getD 1 0), .int .i64 (a0.2.1.getD 2 0), .int .i64 (a0.2.1.getD 3 0), .int .i64 (a0.2.1.getD 4 0), .int .i64 (a0.2.1.getD 5 0), v1, v2, .string a0.2.2.2.2.1, .string a0.2.2.2.2.2].toArray 26 (0, 0))], [(b6, .cells [.string a1.1, .int .i64 a1.2.1, .int .i64 a1.2.2.1, .int .i64 a1.2.2.2.1, .int .i64 a1.2.2.2.2.1, .int .i64 a1.2.2.2.2.2.1, .int .i64 a1.2.2.2.2.2.2].toArray 121 (0, 0))], g59] ∧ Ow kS 9 τ57 v58 s57 g59) ?_ (fun hk57 => ?_)
      · rintro ρ57 τ57 gs57 ⟨s57, v58, g59, h, hl57, rfl, rfl, ho60⟩
        refine Z 3 rfl ?_
        obtain ⟨r66, hr67, h⟩ := h
        refine st_ord [2, 0, 0] [g59, [(b5, .cells [.int .i64 a0.1, .int .i64 (a0.2.1.getD 0 0), .int .i64 (a0.2.1.getD 1 0), .int .i64 (a0.2.1.getD 2 0), .int .i64 (a0.2.1.getD 3 0), .int .i64 (a0.2.1.getD 4 0), .int .i64 (a0.2.1.getD 5 0), v1, v2, .string a0.2.2.2.2.1, .string a0.2.2.2.2.2].toArray 26 (0, 0))], [(b6, .cells [.string a1.1, .int .i64 a1.2.1, .int .i64 a1.2.2.1, .int .i64 a1.2.2.2.1, .int .i64 a1.2.2.2.2.1, .int .i64 a1.2.2.2.2.2.1, .int .i64 a1.2.2.2.2.2.2].toArray 121 (0, 0))]] rfl ?_
        refine st_freeze (fun τ61 hl62 hg63 => ?_)
        have hs64 := ho60.freeze hl62 hg63
        refine st_call (foot := []) rfl rfl rfl rfl (evs_cons rfl (evs_cons (ev_str z_str26) rfl)) rfl (callV_fn z_en111 (strings_Join_ok hr67 τ61 hs64)) ?_
        rintro vτ68 τ68 gsτ68 hl69 ⟨rfl, rfl⟩
        refine Z 2 rfl ?_
        refine st_ord [] [] rfl ?_
        obtain rfl := Eq.symm h
        exact st_ret (gs' := []) Tryd.func71 rfl (List.Sublist.refl _) ((hl57.trans hl62).trans hl69) ⟨rfl, rfl⟩
      refine Z 3 rfl ?_
      refine o_load (j := 1) (v := v2) rfl rfl rfl z_sc24 rfl rfl rfl ?_
      refine o_lenI rfl rfl rfl z_slT24 rfl hs4 ?_
      refine Z 2 rfl ?_
      obtain ⟨e70, hL70, hA70⟩ := h
      refine st_env (ρ' := [(2, .pointer (some ⟨b5, 0, none⟩)), (3, .pointer (some ⟨b6, 0, none⟩)), (4, .string (bstr [])), (5, .slice none 0 0), (38, v2), (39, .int .i64 (a0.2.2.2.1.length : Int)), (40, .int .i64 0)]) ⟨rfl, rfl, rfl, rfl, rfl, rfl, rfl, trivial⟩ ?_
      refine st_addNil ?_
      refine st_ord [2, 1, 0] [[(b5, .cells [.int .i64 a0.1, .int .i64 (a0.2.1.getD 0 0), .int .i64 (a0.2.1.getD 1 0), .int .i64 (a0.2.1.getD 2 0), .int .i64 (a0.2.1.getD 3 0), .int .i64 (a0.2.1.getD 4 0), .int .i64 (a0.2.1.getD 5 0), v1, v2, .string a0.2.2.2.2.1, .string a0.2.2.2.2.2].toArray 26 (0, 0))], [(b6, .cells [.string a1.1, .int .i64 a1.2.1, .int .i64 a1.2.2.1, .int .i64 a1.2.2.2.1, .int .i64 a1.2.2.2.2.1, .int .i64 a1.2.2.2.2.2.1, .int .i64 a1.2.2.2.2.2.2].toArray 121 (0, 0))], []] rfl ?_
      refine st_loop hL70 (fun (s70 : List ByteArray × Int) ρ τ70 gs => σ.Le τ70 ∧ ∃ (v71 : Value) (g72 : Grp), ρ = [(2, .pointer (some ⟨b5, 0, none⟩)), (3, .pointer (some ⟨b6, 0, none⟩)), (4, .string (bstr [])), (5, v71), (38, v2), (39, .int .i64 (a0.2.2.2.1.length : Int)), (40, .int .i64 s70.2)] ∧ gs = [[(b5, .cells [.int .i64 a0.1, .int .i64 (a0.2.1.getD 0 0), .int .i64 (a0.2.1.getD 1 0), .int .i64 (a0.2.1.getD 2 0), .int .i64 (a0.2.1.getD 3 0), .int .i64 (a0.2.1.getD 4 0), .int .i64 (a0.2.1.getD 5 0), v1, v2, .string a0.2.2.2.2.1, .string a0.2.2.2.2.2].toArray 26 (0, 0))], [(b6, .cells [.string a1.1, .int .i64 a1.2.1, .int .i64 a1.2.2.1, .int .i64 a1.2.2.2.1, .int .i64 a1.2.2.2.2.1, .int .i64 a1.2.2.2.2.2.1, .int .i64 a1.2.2.2.2.2.2].toArray 121 (0, 0))], g72] ∧ Ow kS 9 τ70 v71 s70.1 g72) ⟨Sto.Le.refl _, _, _, rfl, rfl, Ow.nil⟩ ?_
      rintro s70 o70 h he70 ρ70 τ70 gs70 ⟨hl70, v71, g72, rfl, rfl, ho73⟩ hn70
      refine Z 5 rfl ?_
      refine st_cond rfl (fun hc => ?_) (fun hc => ?_)
      · replace h := (if_pos hc).mp h
        refine Z 5 rfl ?_
        obtain ⟨q74, hf75, h⟩ := h
        refine o_index rfl rfl rfl z_slT24 rfl rfl (hs4.up hl70) rfl hf75 (fun b76 of77 vs hc78 hrep => ?_)
        obtain rfl := hrep
        refine o_loadI (v := .int .i64 q74) rfl rfl rfl z_sc3 rfl (hc78 0 _ rfl) ?_
        refine Z 5 rfl ?_
        obtain ⟨r79, hr80, h⟩ := h
        refine st_call (foot := []) rfl rfl rfl rfl rfl rfl (callV_fn z_en77 (say_Number_ok hr80 τ70 (hT.up hl70))) ?_
        rintro vτ81 τ81 gsτ81 hl82 ⟨rfl, rfl⟩
        refine o_lit (dk := kS) (xs := [r79]) (ps := [(0, [.string r79])]) (cs := [.string r79]) rfl rfl rfl z_slT68 z_zero9 ⟨rfl, ⟨_, rfl, rfl⟩, trivial⟩ rfl rfl rfl rfl (Kd.Many.cons (d := kS) (x := r79) (a := [.string r79]) rfl Kd.Many.nil) (fun v83 g84 ho85 => ?_)
        obtain ⟨hf89, hf90, h⟩ := h
        refine st_ord [3, 0, 0, 0] [g72, g84, [(b5, .cells [.int .i64 a0.1, .int .i64 (a0.2.1.getD 0 0), .int .i64 (a0.2.1.getD 1 0), .int .i64 (a0.2.1.getD 2 0), .int .i64 (a0.2.1.getD 3 0), .int .i64 (a0.2.1.getD 4 0), .int .i64 (a0.2.1.getD 5 0), v1, v2, .string a0.2.2.2.2.1, .string a0.2.2.2.2.2].toArray 26 (0, 0))], [(b6, .cells [.string a1.1, .int .i64 a1.2.1, .int .i64 a1.2.2.1, .int .i64 a1.2.2.2.1, .int .i64 a1.2.2.2.2.1, .int .i64 a1.2.2.2.2.2.1, .int .i64 a1.2.2.2.2.2.2].toArray 121 (0, 0))]] rfl ?_
        refine o_append (dk := kS) (xs := s70.1) (ys := [r79]) rfl rfl rfl rfl z_slT68 rfl (ho73.up hl82) rfl (Ow.src (j := 1) ho85 rfl) hf89 hf90 (fun v86 g87 ho88 => ?_)
        refine Z 7 rfl ?_
        refine st_env (ρ' := [(2, .pointer (some ⟨b5, 0, none⟩)), (3, .pointer (some ⟨b6, 0, none⟩)), (4, .string (bstr [])), (5, v86), (38, v2), (39, .int .i64 (a0.2.2.2.1.length : Int)), (40, .int .i64 (IntKind.i64.wrap (s70.2 + 1)))]) ⟨rfl, rfl, rfl, rfl, rfl, rfl, rfl, trivial⟩ ?_
        refine st_ord [2, 2, 0] [[(b5, .cells [.int .i64 a0.1, .int .i64 (a0.2.1.getD 0 0), .int .i64 (a0.2.1.getD 1 0), .int .i64 (a0.2.1.getD 2 0), .int .i64 (a0.2.1.getD 3 0), .int .i64 (a0.2.1.getD 4 0), .int .i64 (a0.2.1.getD 5 0), v1, v2, .string a0.2.2.2.2.1, .string a0.2.2.2.2.2].toArray 26 (0, 0))], [(b6, .cells [.string a1.1, .int .i64 a1.2.1, .int .i64 a1.2.2.1, .int .i64 a1.2.2.2.1, .int .i64 a1.2.2.2.2.1, .int .i64 a1.2.2.2.2.2.1, .int .i64 a1.2.2.2.2.2.2].toArray 121 (0, 0))], g87] rfl ?_
        exact hn70 _ _ _ _ h ⟨(hl70.trans hl82), _, _, rfl, rfl, ho88⟩
      · replace h := (if_neg (ne_t hc)).mp h
        refine st_exit rfl ?_
        obtain rfl := he70 _ h
        replace h := hA70
        refine st_env (ρ' := [(2, .pointer (some ⟨b5, 0, none⟩)), (3, .pointer (some ⟨b6, 0, none⟩)), (4, .string (bstr [])), (5, v71)]) ⟨rfl, rfl, rfl, rfl, trivial⟩ ?_
        exact hk57 _ _ _ ⟨s70.1, _, _, h, hl70, rfl, rfl, ho73⟩
    · replace h := (if_neg (ne_t hc)).mp h
      refine Z 5 rfl ?_
      refine st_cond rfl (fun hc => ?_) (fun hc => ?_)
      · replace h := (if_pos hc).mp h
        refine Z 3 rfl ?_
        refine o_load (j := 1) (v := .string a0.2.2.2.2.1) rfl rfl rfl z_sc9 rfl rfl rfl ?_
        obtain ⟨r92, hr93, h⟩ := h
        refine st_call (foot := []) rfl rfl rfl rfl rfl rfl (callV_fn z_en112 (say_hex_ok hr93 σ)) ?_
        rintro vτ94 τ94 gsτ94 hl95 ⟨rfl, rfl⟩
        refine Z 2 rfl ?_
        refine st_ord [] [] rfl ?_
        obtain rfl := Eq.symm h
        exact st_ret (gs' := []) Tryd.func71 rfl (List.Sublist.refl _) hl95 ⟨rfl, rfl⟩
      · replace h := (if_neg (ne_t hc)).mp h
        refine Z 5 rfl ?_
        refine st_cond rfl (fun hc => ?_) (fun hc => ?_)
        · replace h := (if_pos hc).mp h
          refine Z 3 rfl ?_
          refine o_load (j := 1) (v := .string a0.2.2.2.2.2) rfl rfl rfl z_sc9 rfl rfl rfl ?_
          obtain ⟨r96, hr97, h⟩ := h
          refine st_call (foot := []) rfl rfl rfl rfl rfl rfl (callV_fn z_en112 (say_hex_ok hr97 σ)) ?_
          rintro vτ98 τ98 gsτ98 hl99 ⟨rfl, rfl⟩
          refine Z 2 rfl ?_
          refine st_ord [] [] rfl ?_
          obtain rfl := Eq.symm h
          exact st_ret (gs' := []) Tryd.func71 rfl (List.Sublist.refl _) hl99 ⟨rfl, rfl⟩
        · replace h := (if_neg (ne_t hc)).mp h
          refine Z 5 rfl ?_
          refine o_load (j := 0) (v := .int .i64 a1.2.2.1) rfl rfl rfl z_sc3 rfl rfl rfl ?_
          refine o_fieldAddr rfl rfl rfl z_field26_1 rfl ?_
          obtain ⟨hf100, hf101, h⟩ := h
          refine o_indexA rfl rfl rfl z_arr22 rfl rfl hf100 hf101 ?_
          refine o_loadV (j := 1) (a1.2.2.1.toNat) (f := (Value.int .i64)) (zz := 0) (l := 6) (xs := a0.2.1) [.int .i64 a0.1] [v1, v2, .string a0.2.2.2.2.1, .string a0.2.2.2.2.2] rfl rfl rfl z_sc3 rfl rfl (by simp only [List.length_cons, List.length_nil]; omega) (by omega) ?_
          obtain ⟨r102, hr103, h⟩ := h
          refine st_call (foot := []) rfl rfl rfl rfl rfl rfl (callV_fn z_en77 (say_Number_ok hr103 σ hT)) ?_
          rintro vτ104 τ104 gsτ104 hl105 ⟨rfl, rfl⟩
          refine Z 2 rfl ?_
          refine st_ord [] [] rfl ?_
          obtain rfl := Eq.symm h
          exact st_ret (gs' := []) Tryd.func71 rfl (List.Sublist.refl _) hl105 ⟨rfl, rfl⟩
theorem say_Line_ok {a0 : Int × List Int × List (Int × Int) × List Int × ByteArray × ByteArray} {v1 : Value} {v2 : Value} {r : ByteArray} (h : say_Line a0 r) (σ : Sto) (hs3 : Sl (kP (kI .i64) (kI .i64)) σ v1 a0.2.2.1) (hs4 : Sl (kI .i64) σ v2 a0.2.2.2.1) (hT : Tab Tryd.prog σ) :
    Does Tryd.prog 14 [.agg [.int .i64 a0.1, .int .i64 (a0.2.1.getD 0 0), .int .i64 (a0.2.1.getD 1 0), .int .i64 (a0.2.1.getD 2 0), .int .i64 (a0.2.1.getD 3 0), .int .i64 (a0.2.1.getD 4 0), .int .i64 (a0.2.1.getD 5 0), v1, v2, .string a0.2.2.2.2.1, .string a0.2.2.2.2.2].toArray] σ [] (fun v τ gs => gs = [] ∧ .string r = v) := by
  refine call_of Tryd.func14 Tryd.ntmps14 rfl rfl (fun cs fs => ?_)
  refine Z 2 rfl ?_
  refine o_box (cs := [.int .i64 a0.1, .int .i64 (a0.2.1.getD 0 0), .int .i64 (a0.2.1.getD 1 0), .int .i64 (a0.2.1.getD 2 0), .int .i64 (a0.2.1.getD 3 0), .int .i64 (a0.2.1.getD 4 0), .int .i64 (a0.2.1.getD 5 0), v1, v2, .string a0.2.2.2.2.1, .string a0.2.2.2.2.2]) rfl rfl rfl rfl rfl (fun b5 => ?_)
  refine o_assign rfl rfl rfl (ev_str z_str19) ?_
  refine Z 4 rfl ?_
  refine o_loadN (j := 0) (vs := [.int .i64 a0.1, .int .i64 (a0.2.1.getD 0 0), .int .i64 (a0.2.1.getD 1 0), .int .i64 (a0.2.1.getD 2 0), .int .i64 (a0.2.1.getD 3 0), .int .i64 (a0.2.1.getD 4 0), .int .i64 (a0.2.1.getD 5 0), v1, v2, .string a0.2.2.2.2.1, .string a0.2.2.2.2.2]) rfl rfl rfl z_agg26 rfl rfl rfl ?_
  obtain ⟨r6, hr7, h⟩ := h
  refine st_call (foot := []) rfl rfl rfl rfl rfl rfl (callV_fn z_en12 (msg_Check_ok hr7 σ hs3 hs4)) ?_
  rintro vτ8 τ8 gsτ8 hl9 ⟨rfl, rfl⟩
  refine Z 2 rfl ?_
  refine st_cond rfl (fun hc => ?_) (fun hc => ?_)
  · replace h := (if_pos hc).mp h
    refine Z 2 rfl ?_
    refine o_assign rfl rfl rfl (ev_str z_str19) ?_
    refine st_end ?_
    refine st_ord [] [] rfl ?_
    obtain rfl := Eq.symm h
    exact st_ret (gs' := []) Tryd.func14 rfl (List.Sublist.refl _) hl9 ⟨rfl, rfl⟩
  · replace h := (if_neg (ne_t hc)).mp h
    refine Z 4 rfl ?_
    refine o_load (j := 0) (v := .int .i64 a0.1) rfl rfl rfl z_sc3 rfl rfl rfl ?_
    obtain ⟨r10, hr11, h⟩ := h
    refine st_call (foot := []) rfl rfl rfl rfl rfl rfl (callV_fn z_en69 (field_Word_ok hr11 τ8)) ?_
    rintro vτ12 τ12 gsτ12 hl13 ⟨rfl, rfl⟩
    refine o_alloc rfl rfl rfl z_zero9 (fun b14 => ?_)
    refine o_store (j := 0) (vs := [.string r10]) (cs' := [.string r10]) rfl rfl rfl z_size9 rfl rfl rfl (ones_cons rfl ones_nil) rfl rfl rfl ?_
    refine st_gs [[(b14, .cells [.string r10].toArray 9 (0, 0))], [(b5, .cells [.int .i64 a0.1, .int .i64 (a0.2.1.getD 0 0), .int .i64 (a0.2.1.getD 1 0), .int .i64 (a0.2.1.getD 2 0), .int .i64 (a0.2.1.getD 3 0), .int .i64 (a0.2.1.getD 4 0), .int .i64 (a0.2.1.getD 5 0), v1, v2, .string a0.2.2.2.2.1, .string a0.2.2.2.2.2].toArray 26 (0, 0))]] rfl ?_
    refine Z 5 rfl ?_
    refine o_load (j := 1) (v := .int .i64 a0.1) rfl rfl rfl z_sc3 rfl rfl rfl ?_
    obtain ⟨r15, hr16, h⟩ := h
    refine st_call (foot := []) rfl rfl rfl rfl rfl rfl (callV_fn z_en70 (field_All_ok hr16 τ12)) ?_
    rintro vτ17 τ17 gsτ17 hl18 ⟨f19, q20, rfl, rfl, hit21⟩
    refine Z 2 rfl ?_
    obtain ⟨t22, w22, hR22, hA22⟩ := h
    refine st_env (ρ' := [(1, .pointer (some ⟨b5, 0, none⟩)), (2, .string (bstr [])), (3, .pointer (some ⟨b14, 0, none⟩)), (13, .func (.func f19) #[] q20)]) ⟨rfl, rfl, rfl, rfl, trivial⟩ ?_
    refine st_ord [1, 0] [[(b5, .cells [.int .i64 a0.1, .int .i64 (a0.2.1.getD 0 0), .int .i64 (a0.2.1.getD 1 0), .int .i64 (a0.2.1.getD 2 0), .int .i64 (a0.2.1.getD 3 0), .int .i64 (a0.2.1.getD 4 0), .int .i64 (a0.2.1.getD 5 0), v1, v2, .string a0.2.2.2.2.1, .string a0.2.2.2.2.2].toArray 26 (0, 0))], [(b14, .cells [.string r10].toArray 9 (0, 0))]] rfl ?_
    refine st_addNil ?_
    refine st_range (B := say_Line_l1 a0) (s0 := r10) ranges_fctx rfl hit21 (Sto.Le.refl _) hR22 rfl (fun _ _ _ h => by cases h; rfl) (fun (s22 : ByteArray) τ22 gs => τ17.Le τ22 ∧ gs = [[(b5, .cells [.int .i64 a0.1, .int .i64 (a0.2.1.getD 0 0), .int .i64 (a0.2.1.getD 1 0), .int .i64 (a0.2.1.getD 2 0), .int .i64 (a0.2.1.getD 3 0), .int .i64 (a0.2.1.getD 4 0), .int .i64 (a0.2.1.getD 5 0), v1, v2, .string a0.2.2.2.2.1, .string a0.2.2.2.2.2].toArray 26 (0, 0))], [(b14, .cells [.string s22].toArray 9 (0, 0))]]) (fun _ _ _ _ => False) (fun _ _ _ _ hl ⟨hb, hg⟩ => ⟨hb.trans hl, hg⟩) (fun _ _ _ _ _ _ h => h.elim) ⟨Sto.Le.refl _, rfl⟩ ?_ ?_ ?_
    · rintro x22 s22 o22 τ22 gs22 vx22 hl22 h rfl ⟨hb22, rfl⟩ l22 rc22 caller22 cs22 fs22
      refine st_region ?_
      refine o_alloc rfl rfl rfl z_zero121 (fun b23 => ?_)
      refine o_store (j := 0) (vs := [.string x22.1, .int .i64 x22.2.1, .int .i64 x22.2.2.1, .int .i64 x22.2.2.2.1, .int .i64 x22.2.2.2.2.1, .int .i64 x22.2.2.2.2.2.1, .int .i64 x22.2.2.2.2.2.2]) (cs' := [.string x22.1, .int .i64 x22.2.1, .int .i64 x22.2.2.1, .int .i64 x22.2.2.2.1, .int .i64 x22.2.2.2.2.1, .int .i64 x22.2.2.2.2.2.1, .int .i64 x22.2.2.2.2.2.2]) rfl rfl rfl z_size121 rfl rfl rfl (ones_cons rfl (ones_cons rfl (ones_cons rfl (ones_cons rfl (ones_cons rfl (ones_cons rfl (ones_cons rfl ones_nil))))))) rfl rfl rfl ?_
      refine st_gs [[(b23, .cells [.string x22.1, .int .i64 x22.2.1, .int .i64 x22.2.2.1, .int .i64 x22.2.2.2.1, .int .i64 x22.2.2.2.2.1, .int .i64 x22.2.2.2.2.2.1, .int .i64 x22.2.2.2.2.2.2].toArray 121 (0, 0))], [(b5, .cells [.int .i64 a0.1, .int .i64 (a0.2.1.getD 0 0), .int .i64 (a0.2.1.getD 1 0), .int .i64 (a0.2.1.getD 2 0), .int .i64 (a0.2.1.getD 3 0), .int .i64 (a0.2.1.getD 4 0), .int .i64 (a0.2.1.getD 5 0), v1, v2, .string a0.2.2.2.2.1, .string a0.2.2.2.2.2].toArray 26 (0, 0))], [(b14, .cells [.string s22].toArray 9 (0, 0))]] rfl ?_
      refine st_end ?_
      refine st_begin ?_
      refine st_block ?_
      obtain ⟨hf24, hf25, r26, hr27, hf30, hf31, h⟩ := h
      refine st_draw 10 (tl [fun τ v => (.string s22 : Value) = v,
    fun τ v => (.pointer (some ⟨b23, 0, none⟩) : Value) = v,
    fun τ v => (.string x22.1 : Value) = v,
    fun τ v => (.string ((bstr [32]) ++ x22.1) : Value) = v,
    fun τ v => (.string (((bstr [32]) ++ x22.1) ++ (bstr [32])) : Value) = v,
    fun τ v => (.agg [.int .i64 a0.1, .int .i64 (a0.2.1.getD 0 0), .int .i64 (a0.2.1.getD 1 0), .int .i64 (a0.2.1.getD 2 0), .int .i64 (a0.2.1.getD 3 0), .int .i64 (a0.2.1.getD 4 0), .int .i64 (a0.2.1.getD 5 0), v1, v2, .string a0.2.2.2.2.1, .string a0.2.2.2.2.2].toArray : Value) = v,
    fun τ v => (.agg [.string x22.1, .int .i64 x22.2.1, .int .i64 x22.2.2.1, .int .i64 x22.2.2.2.1, .int .i64 x22.2.2.2.2.1, .int .i64 x22.2.2.2.2.2.1, .int .i64 x22.2.2.2.2.2.2].toArray : Value) = v,
    fun τ v => (.string r26 : Value) = v,
    fun τ v => (.string ((((bstr [32]) ++ x22.1) ++ (bstr [32])) ++ r26) : Value) = v,
    fun τ v => (.string (s22 ++ ((((bstr [32]) ++ x22.1) ++ (bstr [32])) ++ r26)) : Value) = v]) (fun _ _ => []) z_mix rfl (tl_mono ⟨fun _ _ _ _ h => h, ⟨fun _ _ _ _ h => h, ⟨fun _ _ _ _ h => h, ⟨fun _ _ _ _ h => h, ⟨fun _ _ _ _ h => h, ⟨fun _ _ _ _ h => h, ⟨fun _ _ _ _ h => h, ⟨fun _ _ _ _ h => h, ⟨fun _ _ _ _ h => h, ⟨fun _ _ _ _ h => h, trivial⟩⟩⟩⟩⟩⟩⟩⟩⟩⟩) (allB_cons (allB_cons (allB_cons (allB_cons (allB_cons (allB_cons (allB_cons (allB_cons (allB_cons (allB_cons allB_nil ?_) ?_) ?_) ?_) ?_) ?_) ?_) ?_) ?_) ?_) ?_
      · intro ρ' τ pool rs hl hd hout hk
        refine o_load (j := 2) (v := .string s22) rfl rfl rfl z_sc9 ((hout 3 rfl).trans rfl) rfl rfl ?_
        exact st_addNil (hk _ _ (Sto.Le.refl _) rfl)
      · intro ρ' τ pool rs hl hd hout hk
        refine o_fieldAddr rfl rfl rfl z_field121_0 ((hout 4 rfl).trans rfl) ?_
        exact st_addNil (hk _ _ (Sto.Le.refl _) rfl)
      · intro ρ' τ pool rs hl hd hout hk
        obtain ⟨_, e1, rfl⟩ := hd 1 rfl
        refine o_load (j := 0) (v := .string x22.1) rfl rfl rfl z_sc9 e1 rfl rfl ?_
        exact st_addNil (hk _ _ (Sto.Le.refl _) rfl)
      · intro ρ' τ pool rs hl hd hout hk
        obtain ⟨_, e2, rfl⟩ := hd 2 rfl
        refine o_sadd rfl rfl rfl (ev_str z_str25) e2 hf24 ?_
        exact st_addNil (hk _ _ (Sto.Le.refl _) rfl)
      · intro ρ' τ pool rs hl hd hout hk
        obtain ⟨_, e3, rfl⟩ := hd 3 rfl
        refine o_sadd rfl rfl rfl e3 (ev_str z_str25) hf25 ?_
        exact st_addNil (hk _ _ (Sto.Le.refl _) rfl)
      · intro ρ' τ pool rs hl hd hout hk
        refine o_loadN (j := 1) (vs := [.int .i64 a0.1, .int .i64 (a0.2.1.getD 0 0), .int .i64 (a0.2.1.getD 1 0), .int .i64 (a0.2.1.getD 2 0), .int .i64 (a0.2.1.getD 3 0), .int .i64 (a0.2.1.getD 4 0), .int .i64 (a0.2.1.getD 5 0), v1, v2, .string a0.2.2.2.2.1, .string a0.2.2.2.2.2]) rfl rfl rfl z_agg26 ((hout 1 rfl).trans rfl) rfl rfl ?_
        exact st_addNil (hk _ _ (Sto.Le.refl _) rfl)
      · intro ρ' τ pool rs hl hd hout hk
        refine o_loadN (j := 0) (vs := [.string x22.1, .int .i64 x22.2.1, .int .i64 x22.2.2.1, .int .i64 x22.2.2.2.1, .int .i64 x22.2.2.2.2.1, .int .i64 x22.2.2.2.2.2.1, .int .i64 x22.2.2.2.2.2.2]) rfl rfl rfl z_agg121 ((hout 4 rfl).trans rfl) rfl rfl ?_
        exact st_addNil (hk _ _ (Sto.Le.refl _) rfl)
      · intro ρ' τ pool rs hl hd hout hk
        obtain ⟨_, e5, rfl⟩ := hd 5 rfl
        obtain ⟨_, e6, rfl⟩ := hd 6 rfl
        refine st_call (foot := []) rfl rfl rfl rfl (evs_cons e5 (evs_cons e6 rfl)) rfl (callV_fn z_en71 (say_value_ok hr27 τ (hs3.up ((((hl9.trans hl13).trans hl18).trans hl22).trans hl)) (hs4.up ((((hl9.trans hl13).trans hl18).trans hl22).trans hl)) (hT.up ((((hl9.trans hl13).trans hl18).trans hl22).trans hl)))) ?_
        rintro vτ28 τ28 gsτ28 hl29 ⟨rfl, rfl⟩
        exact st_addNil (hk _ _ hl29 rfl)
      · intro ρ' τ pool rs hl hd hout hk
        obtain ⟨_, e4, rfl⟩ := hd 4 rfl
        obtain ⟨_, e7, rfl⟩ := hd 7 rfl
        refine o_sadd rfl rfl rfl e4 e7 hf30 ?_
        exact st_addNil (hk _ _ (Sto.Le.refl _) rfl)
      · intro ρ' τ pool rs hl hd hout hk
        obtain ⟨_, e0, rfl⟩ := hd 0 rfl
        obtain ⟨_, e8, rfl⟩ := hd 8 rfl
        refine o_sadd rfl rfl rfl e0 e8 hf31 ?_
        exact st_addNil (hk _ _ (Sto.Le.refl _) rfl)
      intro ρ' τ32 vals hl32 hv hout
      have l9 : Eng.look ρ' 24 = some (.string (s22 ++ ((((bstr [32]) ++ x22.1) ++ (bstr [32])) ++ r26))) := ((hv 9 (by decide)).1).trans (congrArg some (show vals 9 = .string (s22 ++ ((((bstr [32]) ++ x22.1) ++ (bstr [32])) ++ r26)) from Eq.symm (hv 9 (by decide)).2))
      refine st_ord [0, 0, 0] [[(b23, .cells [.string x22.1, .int .i64 x22.2.1, .int .i64 x22.2.2.1, .int .i64 x22.2.2.2.1, .int .i64 x22.2.2.2.2.1, .int .i64 x22.2.2.2.2.2.1, .int .i64 x22.2.2.2.2.2.2].toArray 121 (0, 0))], [(b5, .cells [.int .i64 a0.1, .int .i64 (a0.2.1.getD 0 0), .int .i64 (a0.2.1.getD 1 0), .int .i64 (a0.2.1.getD 2 0), .int .i64 (a0.2.1.getD 3 0), .int .i64 (a0.2.1.getD 4 0), .int .i64 (a0.2.1.getD 5 0), v1, v2, .string a0.2.2.2.2.1, .string a0.2.2.2.2.2].toArray 26 (0, 0))], [(b14, .cells [.string s22].toArray 9 (0, 0))]] rfl ?_
      refine st_env (ρ' := [(24, .string (s22 ++ ((((bstr [32]) ++ x22.1) ++ (bstr [32])) ++ r26))), (1, .pointer (some ⟨b5, 0, none⟩)), (2, .string (bstr [])), (3, .pointer (some ⟨b14, 0, none⟩)), (14, .agg [.string x22.1, .int .i64 x22.2.1, .int .i64 x22.2.2.1, .int .i64 x22.2.2.2.1, .int .i64 x22.2.2.2.2.1, .int .i64 x22.2.2.2.2.2.1, .int .i64 x22.2.2.2.2.2.2].toArray), (4, .pointer (some ⟨b23, 0, none⟩))]) ⟨l9, (hout 1 rfl).trans rfl, (hout 2 rfl).trans rfl, (hout 3 rfl).trans rfl, (hout 14 rfl).trans rfl, (hout 4 rfl).trans rfl, trivial⟩ ?_
      refine o_store (j := 2) (vs := [.string (s22 ++ ((((bstr [32]) ++ x22.1) ++ (bstr [32])) ++ r26))]) (cs' := [.string (s22 ++ ((((bstr [32]) ++ x22.1) ++ (bstr [32])) ++ r26))]) rfl rfl rfl z_size9 rfl rfl rfl (ones_cons rfl ones_nil) rfl rfl rfl ?_
      refine st_gs [[(b23, .cells [.string x22.1, .int .i64 x22.2.1, .int .i64 x22.2.2.1, .int .i64 x22.2.2.2.1, .int .i64 x22.2.2.2.2.1, .int .i64 x22.2.2.2.2.2.1, .int .i64 x22.2.2.2.2.2.2].toArray 121 (0, 0))], [(b5, .cells [.int .i64 a0.1, .int .i64 (a0.2.1.getD 0 0), .int .i64 (a0.2.1.getD 1 0), .int .i64 (a0.2.1.getD 2 0), .int .i64 (a0.2.1.getD 3 0), .int .i64 (a0.2.1.getD 4 0), .int .i64 (a0.2.1.getD 5 0), v1, v2, .string a0.2.2.2.2.1, .string a0.2.2.2.2.2].toArray 26 (0, 0))], [(b14, .cells [.string (s22 ++ ((((bstr [32]) ++ x22.1) ++ (bstr [32])) ++ r26))].toArray 9 (0, 0))]] rfl ?_
      refine Z 2 rfl ?_
      refine st_ord [1, 1] [[(b5, .cells [.int .i64 a0.1, .int .i64 (a0.2.1.getD 0 0), .int .i64 (a0.2.1.getD 1 0), .int .i64 (a0.2.1.getD 2 0), .int .i64 (a0.2.1.getD 3 0), .int .i64 (a0.2.1.getD 4 0), .int .i64 (a0.2.1.getD 5 0), v1, v2, .string a0.2.2.2.2.1, .string a0.2.2.2.2.2].toArray 26 (0, 0))], [(b14, .cells [.string (s22 ++ ((((bstr [32]) ++ x22.1) ++ (bstr [32])) ++ r26))].toArray 9 (0, 0))]] rfl ?_
      exact st_rend (List.Sublist.refl _) hl32 ⟨_, h, (hl22.trans hl32), rfl⟩
    · rintro p33 τ34 gs22 f22 ht hl35 ⟨hb, rfl⟩ rfl
      subst ht
      replace h := hA22
      refine st_ord [1, 1] [[(b5, .cells [.int .i64 a0.1, .int .i64 (a0.2.1.getD 0 0), .int .i64 (a0.2.1.getD 1 0), .int .i64 (a0.2.1.getD 2 0), .int .i64 (a0.2.1.getD 3 0), .int .i64 (a0.2.1.getD 4 0), .int .i64 (a0.2.1.getD 5 0), v1, v2, .string a0.2.2.2.2.1, .string a0.2.2.2.2.2].toArray 26 (0, 0))], [(b14, .cells [.string p33].toArray 9 (0, 0))]] rfl ?_
      refine Z 3 rfl ?_
      refine o_load (j := 1) (v := .string p33) rfl rfl rfl z_sc9 rfl rfl rfl ?_
      refine Z 2 rfl ?_
      refine st_ord [] [] rfl ?_
      obtain rfl := Eq.symm h
      exact st_ret (gs' := []) Tryd.func14 rfl (List.Sublist.refl _) (((hl9.trans hl13).trans hl18).trans hl35) ⟨rfl, rfl⟩
    · exact fun _ _ _ _ _ _ _ h => h.elim
theorem law20_known_ok  {r : Bool} (h : law20_known r) (σ : Sto) (hT : Tab Tryd.prog σ) :
    Does Tryd.prog 13 [] σ [] (fun v τ gs => gs = [] ∧ .bool r = v) := by
  refine call_of Tryd.func13 Tryd.ntmps13 rfl rfl (fun cs fs => ?_)
  refine Z 6 rfl ?_
  refine o_buildA (ps := [(0, [.int .i64 300]), (1, [.int .i64 2]), (2, [.int .i64 9])]) (cs := [.int .i64 300, .int .i64 2, .int .i64 9, .int .i64 0, .int .i64 0, .int .i64 0]) rfl rfl rfl z_arrz22 ⟨rfl, ⟨_, rfl, rfl⟩, ⟨rfl, ⟨_, rfl, rfl⟩, ⟨rfl, ⟨_, rfl, rfl⟩, trivial⟩⟩⟩ rfl ?_
  refine o_build (ps := [(0, [.int .i64 2]), (1, [.int .i64 300, .int .i64 2, .int .i64 9, .int .i64 0, .int .i64 0, .int .i64 0])]) (cs := [.int .i64 2, .int .i64 300, .int .i64 2, .int .i64 9, .int .i64 0, .int .i64 0, .int .i64 0, .slice none 0 0, .slice none 0 0, .string (bstr []), .string (bstr [])]) rfl rfl rfl z_struct26 ⟨rfl, ⟨_, rfl, rfl⟩, ⟨rfl, ⟨_, rfl, rfl⟩, trivial⟩⟩ rfl ?_
  obtain ⟨r1, hr2, h⟩ := h
  refine st_call (foot := []) rfl rfl rfl rfl rfl rfl (callV_fn z_en14 (say_Line_ok hr2 σ Sl.nil Sl.nil hT)) ?_
  rintro vτ3 τ3 gsτ3 hl4 ⟨rfl, rfl⟩
  refine Z 4 rfl ?_
  refine o_buildA (ps := [(0, [.int .i64 1]), (1, [.int .i64 2]), (2, [.int .i64 3]), (3, [.int .i64 0]), (4, [.int .i64 1])]) (cs := [.int .i64 1, .int .i64 2, .int .i64 3, .int .i64 0, .int .i64 1, .int .i64 0]) rfl rfl rfl z_arrz22 ⟨rfl, ⟨_, rfl, rfl⟩, ⟨rfl, ⟨_, rfl, rfl⟩, ⟨rfl, ⟨_, rfl, rfl⟩, ⟨rfl, ⟨_, rfl, rfl⟩, ⟨rfl, ⟨_, rfl, rfl⟩, trivial⟩⟩⟩⟩⟩ rfl ?_
  refine o_build (ps := [(0, [.int .i64 5]), (1, [.int .i64 1, .int .i64 2, .int .i64 3, .int .i64 0, .int .i64 1, .int .i64 0]), (4, [.string (bstr [104, 105])])]) (cs := [.int .i64 5, .int .i64 1, .int .i64 2, .int .i64 3, .int .i64 0, .int .i64 1, .int .i64 0, .slice none 0 0, .slice none 0 0, .string (bstr [104, 105]), .string (bstr [])]) rfl rfl rfl z_struct26 ⟨rfl, ⟨_, rfl, rfl⟩, ⟨rfl, ⟨_, rfl, rfl⟩, ⟨rfl, ⟨_, (ev_str z_str30), rfl⟩, trivial⟩⟩⟩ rfl ?_
  obtain ⟨r5, hr6, h⟩ := h
  refine st_call (foot := []) rfl rfl rfl rfl rfl rfl (callV_fn z_en14 (say_Line_ok hr6 τ3 Sl.nil Sl.nil (hT.up hl4))) ?_
  rintro vτ7 τ7 gsτ7 hl8 ⟨rfl, rfl⟩
  refine Z 3 rfl ?_
  refine st_cut (fun ρ τ9 gs => ∃ (s9 : Bool), law20_known_j1 s9 r ∧ τ7.Le τ9 ∧ ρ = [(0, .bool s9)] ∧ gs = []) ?_ (fun hk9 => ?_)
  · rintro ρ9 τ9 gs9 ⟨s9, h, hl9, rfl, rfl⟩
    obtain rfl := Eq.symm h
    exact st_ret (gs' := []) Tryd.func13 rfl (List.Sublist.refl _) ((hl4.trans hl8).trans hl9) ⟨rfl, rfl⟩
  refine Z 2 rfl ?_
  refine o_sbin (v := .bool (decide (r1 = (bstr [104, 111, 108, 100, 32, 114, 111, 98, 111, 116, 32, 51, 48, 48, 32, 114, 101, 97, 115, 111, 110, 32, 50, 32, 122, 111, 110, 101, 32, 57])))) rfl rfl rfl rfl (ev_str z_str31) rfl ?_
  refine o_moveB rfl rfl rfl rfl (fun hc => ?_) (fun hc => ?_)
  · replace h := (if_pos hc).mp h
    refine o_move rfl rfl rfl rfl ?_
    refine o_sbin (v := .bool (decide (r5 = (bstr [102, 97, 117, 108, 116, 32, 114, 111, 98, 111, 116, 32, 49, 32, 99, 111, 100, 101, 32, 50, 32, 115, 101, 118, 101, 114, 105, 116, 121, 32, 51, 32, 112, 97, 114, 116, 32, 48, 32, 116, 105, 109, 101, 115, 32, 49, 32, 116, 101, 120, 116, 32, 54, 56, 54, 57])))) rfl rfl rfl rfl (ev_str z_str32) rfl ?_
    refine Z 3 rfl ?_
    refine st_env (ρ' := [(0, .bool (decide (r5 = (bstr [102, 97, 117, 108, 116, 32, 114, 111, 98, 111, 116, 32, 49, 32, 99, 111, 100, 101, 32, 50, 32, 115, 101, 118, 101, 114, 105, 116, 121, 32, 51, 32, 112, 97, 114, 116, 32, 48, 32, 116, 105, 109, 101, 115, 32, 49, 32, 116, 101, 120, 116, 32, 54, 56, 54, 57]))))]) ⟨rfl, trivial⟩ ?_
    exact hk9 _ _ _ ⟨(decide (r5 = (bstr [102, 97, 117, 108, 116, 32, 114, 111, 98, 111, 116, 32, 49, 32, 99, 111, 100, 101, 32, 50, 32, 115, 101, 118, 101, 114, 105, 116, 121, 32, 51, 32, 112, 97, 114, 116, 32, 48, 32, 116, 105, 109, 101, 115, 32, 49, 32, 116, 101, 120, 116, 32, 54, 56, 54, 57]))), h, (Sto.Le.refl _), rfl, rfl⟩
  · replace h := (if_neg (ne_t hc)).mp h
    refine Z 5 rfl ?_
    refine st_env (ρ' := [(0, .bool false)]) ⟨rfl, trivial⟩ ?_
    exact hk9 _ _ _ ⟨false, h, (Sto.Le.refl _), rfl, rfl⟩
theorem slices_Clone_msg_Point_msg_Point_ok {a0 : List (Int × Int)} {v1 : Value} {r : (List (Int × Int))} (h : slices_Clone_msg_Point_msg_Point a0 r) (σ : Sto) (hs2 : Sl (kP (kI .i64) (kI .i64)) σ v1 a0) :
    Does Tryd.prog 74 [v1] σ [] (fun v τ gs => ∃ (v18 : Value), gs = [] ∧ v18 = v ∧ Sl (kP (kI .i64) (kI .i64)) τ v18 r) := by
  refine call_of Tryd.func74 Tryd.ntmps74 rfl rfl (fun cs fs => ?_)
  refine Z 8 rfl ?_
  refine o_slNil rfl rfl rfl Tryd.underlying23 rfl hs2 rfl (fun b3 hb4 => ?_)
  replace h := h b3 hb4
  refine st_end ?_
  refine st_cond rfl (fun hc => ?_) (fun hc => ?_)
  · replace h := (if_pos hc).mp h
    refine Z 4 rfl ?_
    obtain rfl := Eq.symm h
    exact st_ret (gs' := []) Tryd.func74 rfl (List.Sublist.refl _) (Sto.Le.refl _) ⟨_, rfl, rfl, Sl.nil⟩
  · replace h := (if_neg (ne_t hc)).mp h
    refine Z 3 rfl ?_
    refine o_lit (dk := (kP (kI .i64) (kI .i64))) (xs := ([] : List (Int × Int))) (ps := []) (cs := []) rfl rfl rfl z_slT23 z_zero46 trivial rfl rfl rfl rfl Kd.Many.nil (fun v5 g6 ho7 => ?_)
    refine o_move rfl rfl rfl rfl ?_
    obtain ⟨hf11, hf12, h⟩ := h
    refine o_append (dk := (kP (kI .i64) (kI .i64))) (xs := ([] : List (Int × Int))) (ys := a0) rfl rfl rfl rfl z_slT23 rfl ho7 rfl (Sl.src hs2) hf11 hf12 (fun v8 g9 ho10 => ?_)
    refine Z 2 rfl ?_
    refine st_freeze (fun τ13 hl14 hg15 => ?_)
    have hs16 := ho10.freeze hl14 hg15
    obtain rfl := Eq.symm h
    exact st_ret (gs' := []) Tryd.func74 rfl (List.Sublist.refl _) hl14 ⟨_, rfl, rfl, hs16⟩
theorem slices_Clone_int_int_ok {a0 : List Int} {v1 : Value} {r : List Int} (h : slices_Clone_int_int a0 r) (σ : Sto) (hs2 : Sl (kI .i64) σ v1 a0) :
    Does Tryd.prog 75 [v1] σ [] (fun v τ gs => ∃ (v18 : Value), gs = [] ∧ v18 = v ∧ Sl (kI .i64) τ v18 r) := by
  refine call_of Tryd.func75 Tryd.ntmps75 rfl rfl (fun cs fs => ?_)
  refine Z 8 rfl ?_
  refine o_slNil rfl rfl rfl Tryd.underlying24 rfl hs2 rfl (fun b3 hb4 => ?_)
  replace h := h b3 hb4
  refine st_end ?_
  refine st_cond rfl (fun hc => ?_) (fun hc => ?_)
  · replace h := (if_pos hc).mp h
    refine Z 4 rfl ?_
    obtain rfl := Eq.symm h
    exact st_ret (gs' := []) Tryd.func75 rfl (List.Sublist.refl _) (Sto.Le.refl _) ⟨_, rfl, rfl, Sl.nil⟩
  · replace h := (if_neg (ne_t hc)).mp h
    refine Z 3 rfl ?_
    refine o_lit (dk := (kI .i64)) (xs := ([] : List Int)) (ps := []) (cs := []) rfl rfl rfl z_slT24 z_zero3 trivial rfl rfl rfl rfl Kd.Many.nil (fun v5 g6 ho7 => ?_)
    refine o_move rfl rfl rfl rfl ?_
    obtain ⟨hf11, hf12, h⟩ := h
    refine o_append (dk := (kI .i64)) (xs := ([] : List Int)) (ys := a0) rfl rfl rfl rfl z_slT24 rfl ho7 rfl (Sl.src hs2) hf11 hf12 (fun v8 g9 ho10 => ?_)
    refine Z 2 rfl ?_
    refine st_freeze (fun τ13 hl14 hg15 => ?_)
    have hs16 := ho10.freeze hl14 hg15
    obtain rfl := Eq.symm h
    exact st_ret (gs' := []) Tryd.func75 rfl (List.Sublist.refl _) hl14 ⟨_, rfl, rfl, hs16⟩
theorem msg_Copy_ok {a0 : Int × List Int × List (Int × Int) × List Int × ByteArray × ByteArray} {v1 : Value} {v2 : Value} {r : (Int × List Int × List (Int × Int) × List Int × ByteArray × ByteArray)} (h : msg_Copy a0 r) (σ : Sto) (hs3 : Sl (kP (kI .i64) (kI .i64)) σ v1 a0.2.2.1) (hs4 : Sl (kI .i64) σ v2 a0.2.2.2.1) :
    Does Tryd.prog 16 [.agg [.int .i64 a0.1, .int .i64 (a0.2.1.getD 0 0), .int .i64 (a0.2.1.getD 1 0), .int .i64 (a0.2.1.getD 2 0), .int .i64 (a0.2.1.getD 3 0), .int .i64 (a0.2.1.getD 4 0), .int .i64 (a0.2.1.getD 5 0), v1, v2, .string a0.2.2.2.2.1, .string a0.2.2.2.2.2].toArray] σ [] (fun v τ gs => ∃ (v20 : Value) (v21 : Value), gs = [] ∧ .agg [.int .i64 r.1, .int .i64 (r.2.1.getD 0 0), .int .i64 (r.2.1.getD 1 0), .int .i64 (r.2.1.getD 2 0), .int .i64 (r.2.1.getD 3 0), .int .i64 (r.2.1.getD 4 0), .int .i64 (r.2.1.getD 5 0), v20, v21, .string r.2.2.2.2.1, .string r.2.2.2.2.2].toArray = v ∧ Sl (kP (kI .i64) (kI .i64)) τ v20 r.2.2.1 ∧ Sl (kI .i64) τ v21 r.2.2.2.1) := by
  refine call_of Tryd.func16 Tryd.ntmps16 rfl rfl (fun cs fs => ?_)
  refine Z 2 rfl ?_
  refine o_box (cs := [.int .i64 a0.1, .int .i64 (a0.2.1.getD 0 0), .int .i64 (a0.2.1.getD 1 0), .int .i64 (a0.2.1.getD 2 0), .int .i64 (a0.2.1.getD 3 0), .int .i64 (a0.2.1.getD 4 0), .int .i64 (a0.2.1.getD 5 0), v1, v2, .string a0.2.2.2.2.1, .string a0.2.2.2.2.2]) rfl rfl rfl rfl rfl (fun b5 => ?_)
  refine o_alloc rfl rfl rfl z_zero26 (fun b6 => ?_)
  refine Z 2 rfl ?_
  obtain ⟨r7, hr8, r13, hr14, h⟩ := h
  refine st_draw 7 (tl [fun τ v => (.pointer (some ⟨b5, 7, none⟩) : Value) = v,
    fun τ v => (v1 : Value) = v,
    fun τ v => ∃ (v11 : Value), (v11 : Value) = v ∧ Sl (kP (kI .i64) (kI .i64)) τ v11 r7,
    fun τ v => (.pointer (some ⟨b5, 8, none⟩) : Value) = v,
    fun τ v => (v2 : Value) = v,
    fun τ v => ∃ (v17 : Value), (v17 : Value) = v ∧ Sl (kI .i64) τ v17 r13,
    fun τ v => (.pointer (some ⟨b5, 7, none⟩) : Value) = v]) (fun _ _ => []) z_mix rfl (tl_mono ⟨fun _ _ _ _ h => h, ⟨fun _ _ _ _ h => h, ⟨fun _ _ _ hl ⟨v11, hv, hs12⟩ => ⟨v11, hv, hs12.up hl⟩, ⟨fun _ _ _ _ h => h, ⟨fun _ _ _ _ h => h, ⟨fun _ _ _ hl ⟨v17, hv, hs18⟩ => ⟨v17, hv, hs18.up hl⟩, ⟨fun _ _ _ _ h => h, trivial⟩⟩⟩⟩⟩⟩⟩) (allB_cons (allB_cons (allB_cons (allB_cons (allB_cons (allB_cons (allB_cons allB_nil ?_) ?_) ?_) ?_) ?_) ?_) ?_) ?_
  · intro ρ' τ pool rs hl hd hout hk
    refine o_fieldAddr rfl rfl rfl z_field26_2 ((hout 1 rfl).trans rfl) ?_
    exact st_addNil (hk _ _ (Sto.Le.refl _) rfl)
  · intro ρ' τ pool rs hl hd hout hk
    obtain ⟨_, e0, rfl⟩ := hd 0 rfl
    refine o_load (j := 1) (v := v1) rfl rfl rfl z_sc23 e0 rfl rfl ?_
    exact st_addNil (hk _ _ (Sto.Le.refl _) rfl)
  · intro ρ' τ pool rs hl hd hout hk
    obtain ⟨_, e1, rfl⟩ := hd 1 rfl
    refine st_call (foot := []) rfl rfl rfl rfl (evs_cons e1 rfl) rfl (callV_fn z_en74 (slices_Clone_msg_Point_msg_Point_ok hr8 τ (hs3.up hl))) ?_
    rintro vτ9 τ9 gsτ9 hl10 ⟨v11, rfl, rfl, hs12⟩
    exact st_addNil (hk _ _ hl10 ⟨v11, rfl, hs12⟩)
  · intro ρ' τ pool rs hl hd hout hk
    refine o_fieldAddr rfl rfl rfl z_field26_3 ((hout 1 rfl).trans rfl) ?_
    exact st_addNil (hk _ _ (Sto.Le.refl _) rfl)
  · intro ρ' τ pool rs hl hd hout hk
    obtain ⟨_, e3, rfl⟩ := hd 3 rfl
    refine o_load (j := 1) (v := v2) rfl rfl rfl z_sc24 e3 rfl rfl ?_
    exact st_addNil (hk _ _ (Sto.Le.refl _) rfl)
  · intro ρ' τ pool rs hl hd hout hk
    obtain ⟨_, e4, rfl⟩ := hd 4 rfl
    refine st_call (foot := []) rfl rfl rfl rfl (evs_cons e4 rfl) rfl (callV_fn z_en75 (slices_Clone_int_int_ok hr14 τ (hs4.up hl))) ?_
    rintro vτ15 τ15 gsτ15 hl16 ⟨v17, rfl, rfl, hs18⟩
    exact st_addNil (hk _ _ hl16 ⟨v17, rfl, hs18⟩)
  · intro ρ' τ pool rs hl hd hout hk
    refine o_fieldAddr rfl rfl rfl z_field26_2 ((hout 1 rfl).trans rfl) ?_
    exact st_addNil (hk _ _ (Sto.Le.refl _) rfl)
  intro ρ' τ19 vals hl19 hv hout
  obtain ⟨l2, v11, t2, hs12⟩ := hv 2 (by decide)
  replace l2 : Eng.look ρ' 5 = some (v11) := l2.trans (congrArg some (Eq.symm t2))
  obtain ⟨l5, v17, t5, hs18⟩ := hv 5 (by decide)
  replace l5 : Eng.look ρ' 8 = some (v17) := l5.trans (congrArg some (Eq.symm t5))
  have l6 : Eng.look ρ' 9 = some (.pointer (some ⟨b5, 7, none⟩)) := ((hv 6 (by decide)).1).trans (congrArg some (show vals 6 = .pointer (some ⟨b5, 7, none⟩) from Eq.symm (hv 6 (by decide)).2))
  refine st_ord [0, 0] [[(b6, .cells [.int .i64 0, .int .i64 0, .int .i64 0, .int .i64 0, .int .i64 0, .int .i64 0, .int .i64 0, .slice none 0 0, .slice none 0 0, .string (bstr []), .string (bstr [])].toArray 26 (0, 0))], [(b5, .cells [.int .i64 a0.1, .int .i64 (a0.2.1.getD 0 0), .int .i64 (a0.2.1.getD 1 0), .int .i64 (a0.2.1.getD 2 0), .int .i64 (a0.2.1.getD 3 0), .int .i64 (a0.2.1.getD 4 0), .int .i64 (a0.2.1.getD 5 0), v1, v2, .string a0.2.2.2.2.1, .string a0.2.2.2.2.2].toArray 26 (0, 0))]] rfl ?_
  refine st_env (ρ' := [(5, v11), (8, v17), (9, .pointer (some ⟨b5, 7, none⟩)), (1, .pointer (some ⟨b5, 0, none⟩)), (2, .pointer (some ⟨b6, 0, none⟩))]) ⟨l2, l5, l6, (hout 1 rfl).trans rfl, (hout 2 rfl).trans rfl, trivial⟩ ?_
  refine o_store (j := 1) (vs := [v11]) (cs' := [.int .i64 a0.1, .int .i64 (a0.2.1.getD 0 0), .int .i64 (a0.2.1.getD 1 0), .int .i64 (a0.2.1.getD 2 0), .int .i64 (a0.2.1.getD 3 0), .int .i64 (a0.2.1.getD 4 0), .int .i64 (a0.2.1.getD 5 0), v11, v2, .string a0.2.2.2.2.1, .string a0.2.2.2.2.2]) rfl rfl rfl z_size23 rfl rfl (oneL_sl hs12) (ones_cons hs12.one' ones_nil) rfl rfl rfl ?_
  refine st_gs [[(b6, .cells [.int .i64 0, .int .i64 0, .int .i64 0, .int .i64 0, .int .i64 0, .int .i64 0, .int .i64 0, .slice none 0 0, .slice none 0 0, .string (bstr []), .string (bstr [])].toArray 26 (0, 0))], [(b5, .cells [.int .i64 a0.1, .int .i64 (a0.2.1.getD 0 0), .int .i64 (a0.2.1.getD 1 0), .int .i64 (a0.2.1.getD 2 0), .int .i64 (a0.2.1.getD 3 0), .int .i64 (a0.2.1.getD 4 0), .int .i64 (a0.2.1.getD 5 0), v11, v2, .string a0.2.2.2.2.1, .string a0.2.2.2.2.2].toArray 26 (0, 0))]] rfl ?_
  refine o_fieldAddr rfl rfl rfl z_field26_3 rfl ?_
  refine o_store (j := 1) (vs := [v17]) (cs' := [.int .i64 a0.1, .int .i64 (a0.2.1.getD 0 0), .int .i64 (a0.2.1.getD 1 0), .int .i64 (a0.2.1.getD 2 0), .int .i64 (a0.2.1.getD 3 0), .int .i64 (a0.2.1.getD 4 0), .int .i64 (a0.2.1.getD 5 0), v11, v17, .string a0.2.2.2.2.1, .string a0.2.2.2.2.2]) rfl rfl rfl z_size24 rfl rfl (oneL_sl hs18) (ones_cons hs18.one' ones_nil) rfl rfl rfl ?_
  refine st_gs [[(b6, .cells [.int .i64 0, .int .i64 0, .int .i64 0, .int .i64 0, .int .i64 0, .int .i64 0, .int .i64 0, .slice none 0 0, .slice none 0 0, .string (bstr []), .string (bstr [])].toArray 26 (0, 0))], [(b5, .cells [.int .i64 a0.1, .int .i64 (a0.2.1.getD 0 0), .int .i64 (a0.2.1.getD 1 0), .int .i64 (a0.2.1.getD 2 0), .int .i64 (a0.2.1.getD 3 0), .int .i64 (a0.2.1.getD 4 0), .int .i64 (a0.2.1.getD 5 0), v11, v17, .string a0.2.2.2.2.1, .string a0.2.2.2.2.2].toArray 26 (0, 0))]] rfl ?_
  refine Z 3 rfl ?_
  refine o_loadN (j := 1) (vs := [.int .i64 a0.1, .int .i64 (a0.2.1.getD 0 0), .int .i64 (a0.2.1.getD 1 0), .int .i64 (a0.2.1.getD 2 0), .int .i64 (a0.2.1.getD 3 0), .int .i64 (a0.2.1.getD 4 0), .int .i64 (a0.2.1.getD 5 0), v11, v17, .string a0.2.2.2.2.1, .string a0.2.2.2.2.2]) rfl rfl rfl z_agg26 rfl rfl rfl ?_
  refine o_store (j := 0) (vs := [.int .i64 a0.1, .int .i64 (a0.2.1.getD 0 0), .int .i64 (a0.2.1.getD 1 0), .int .i64 (a0.2.1.getD 2 0), .int .i64 (a0.2.1.getD 3 0), .int .i64 (a0.2.1.getD 4 0), .int .i64 (a0.2.1.getD 5 0), v11, v17, .string a0.2.2.2.2.1, .string a0.2.2.2.2.2]) (cs' := [.int .i64 a0.1, .int .i64 (a0.2.1.getD 0 0), .int .i64 (a0.2.1.getD 1 0), .int .i64 (a0.2.1.getD 2 0), .int .i64 (a0.2.1.getD 3 0), .int .i64 (a0.2.1.getD 4 0), .int .i64 (a0.2.1.getD 5 0), v11, v17, .string a0.2.2.2.2.1, .string a0.2.2.2.2.2]) rfl rfl rfl z_size26 rfl rfl rfl (ones_cons rfl (ones_cons rfl (ones_cons rfl (ones_cons rfl (ones_cons rfl (ones_cons rfl (ones_cons rfl (ones_cons hs12.one' (ones_cons hs18.one' (ones_cons rfl (ones_cons rfl ones_nil))))))))))) rfl rfl rfl ?_
  refine st_gs [[(b6, .cells [.int .i64 a0.1, .int .i64 (a0.2.1.getD 0 0), .int .i64 (a0.2.1.getD 1 0), .int .i64 (a0.2.1.getD 2 0), .int .i64 (a0.2.1.getD 3 0), .int .i64 (a0.2.1.getD 4 0), .int .i64 (a0.2.1.getD 5 0), v11, v17, .string a0.2.2.2.2.1, .string a0.2.2.2.2.2].toArray 26 (0, 0))], [(b5, .cells [.int .i64 a0.1, .int .i64 (a0.2.1.getD 0 0), .int .i64 (a0.2.1.getD 1 0), .int .i64 (a0.2.1.getD 2 0), .int .i64 (a0.2.1.getD 3 0), .int .i64 (a0.2.1.getD 4 0), .int .i64 (a0.2.1.getD 5 0), v11, v17, .string a0.2.2.2.2.1, .string a0.2.2.2.2.2].toArray 26 (0, 0))]] rfl ?_
  refine st_end ?_
  obtain rfl := Eq.symm h
  exact st_retC (gs' := []) [.agg [.int .i64 a0.1, .int .i64 (a0.2.1.getD 0 0), .int .i64 (a0.2.1.getD 1 0), .int .i64 (a0.2.1.getD 2 0), .int .i64 (a0.2.1.getD 3 0), .int .i64 (a0.2.1.getD 4 0), .int .i64 (a0.2.1.getD 5 0), v11, v17, .string a0.2.2.2.2.1, .string a0.2.2.2.2.2].toArray] Tryd.func16 ⟨⟨_, _, _, _, rfl, mem_flat 0 rfl, fun w hw => cellOfN (vs := [.int .i64 a0.1, .int .i64 (a0.2.1.getD 0 0), .int .i64 (a0.2.1.getD 1 0), .int .i64 (a0.2.1.getD 2 0), .int .i64 (a0.2.1.getD 3 0), .int .i64 (a0.2.1.getD 4 0), .int .i64 (a0.2.1.getD 5 0), v11, v17, .string a0.2.2.2.2.1, .string a0.2.2.2.2.2]) z_agg26 rfl w hw⟩, trivial⟩ (by simp) hl19 ⟨_, _, rfl, rfl, hs12, hs18⟩
theorem law20_SayTwins_ok {a0 : Int × List Int × List (Int × Int) × List Int × ByteArray × ByteArray} {a1 : Int × List Int × List (Int × Int) × List Int × ByteArray × ByteArray} {v1 : Value} {v2 : Value} {v5 : Value} {v6 : Value} {r : Bool} (h : law20_SayTwins a0 a1 r) (σ : Sto) (hs3 : Sl (kP (kI .i64) (kI .i64)) σ v1 a0.2.2.1) (hs4 : Sl (kI .i64) σ v2 a0.2.2.2.1) (hs7 : Sl (kP (kI .i64) (kI .i64)) σ v5 a1.2.2.1) (hs8 : Sl (kI .i64) σ v6 a1.2.2.2.1) (hT : Tab Tryd.prog σ) :
    Does Tryd.prog 3 [.agg [.int .i64 a0.1, .int .i64 (a0.2.1.getD 0 0), .int .i64 (a0.2.1.getD 1 0), .int .i64 (a0.2.1.getD 2 0), .int .i64 (a0.2.1.getD 3 0), .int .i64 (a0.2.1.getD 4 0), .int .i64 (a0.2.1.getD 5 0), v1, v2, .string a0.2.2.2.2.1, .string a0.2.2.2.2.2].toArray, .agg [.int .i64 a1.1, .int .i64 (a1.2.1.getD 0 0), .int .i64 (a1.2.1.getD 1 0), .int .i64 (a1.2.1.getD 2 0), .int .i64 (a1.2.1.getD 3 0), .int .i64 (a1.2.1.getD 4 0), .int .i64 (a1.2.1.getD 5 0), v5, v6, .string a1.2.2.2.2.1, .string a1.2.2.2.2.2].toArray] σ [] (fun v τ gs => gs = [] ∧ .bool r = v) := by
  refine call_of Tryd.func3 Tryd.ntmps3 rfl rfl (fun cs fs => ?_)
  refine Z 2 rfl ?_
  refine o_box (cs := [.int .i64 a0.1, .int .i64 (a0.2.1.getD 0 0), .int .i64 (a0.2.1.getD 1 0), .int .i64 (a0.2.1.getD 2 0), .int .i64 (a0.2.1.getD 3 0), .int .i64 (a0.2.1.getD 4 0), .int .i64 (a0.2.1.getD 5 0), v1, v2, .string a0.2.2.2.2.1, .string a0.2.2.2.2.2]) rfl rfl rfl rfl rfl (fun b9 => ?_)
  refine o_box (cs := [.int .i64 a1.1, .int .i64 (a1.2.1.getD 0 0), .int .i64 (a1.2.1.getD 1 0), .int .i64 (a1.2.1.getD 2 0), .int .i64 (a1.2.1.getD 3 0), .int .i64 (a1.2.1.getD 4 0), .int .i64 (a1.2.1.getD 5 0), v5, v6, .string a1.2.2.2.2.1, .string a1.2.2.2.2.2]) rfl rfl rfl rfl rfl (fun b10 => ?_)
  refine Z 3 rfl ?_
  obtain ⟨r11, hr12, r19, hr20, h⟩ := h
  refine st_draw41 (gs := [[(b10, .cells [.int .i64 a1.1, .int .i64 (a1.2.1.getD 0 0), .int .i64 (a1.2.1.getD 1 0), .int .i64 (a1.2.1.getD 2 0), .int .i64 (a1.2.1.getD 3 0), .int .i64 (a1.2.1.getD 4 0), .int .i64 (a1.2.1.getD 5 0), v5, v6, .string a1.2.2.2.2.1, .string a1.2.2.2.2.2].toArray 26 (0, 0))]]) (F0 := [[(b9, .cells [.int .i64 a0.1, .int .i64 (a0.2.1.getD 0 0), .int .i64 (a0.2.1.getD 1 0), .int .i64 (a0.2.1.getD 2 0), .int .i64 (a0.2.1.getD 3 0), .int .i64 (a0.2.1.getD 4 0), .int .i64 (a0.2.1.getD 5 0), v1, v2, .string a0.2.2.2.2.1, .string a0.2.2.2.2.2].toArray 26 (0, 0))]]) 5 2 (tlP [some (0, 0), none, none, none, some (0, 1)]) (tlP [none, none, none, none, none]) (tlNN [[none, some 5, none]]) (tl [fun τ v => (.agg [.int .i64 a0.1, .int .i64 (a0.2.1.getD 0 0), .int .i64 (a0.2.1.getD 1 0), .int .i64 (a0.2.1.getD 2 0), .int .i64 (a0.2.1.getD 3 0), .int .i64 (a0.2.1.getD 4 0), .int .i64 (a0.2.1.getD 5 0), v1, v2, .string a0.2.2.2.2.1, .string a0.2.2.2.2.2].toArray : Value) = v,
    fun τ v => ∃ (v15 : Value) (v16 : Value), (.agg [.int .i64 r11.1, .int .i64 (r11.2.1.getD 0 0), .int .i64 (r11.2.1.getD 1 0), .int .i64 (r11.2.1.getD 2 0), .int .i64 (r11.2.1.getD 3 0), .int .i64 (r11.2.1.getD 4 0), .int .i64 (r11.2.1.getD 5 0), v15, v16, .string r11.2.2.2.2.1, .string r11.2.2.2.2.2].toArray : Value) = v ∧ Sl (kP (kI .i64) (kI .i64)) τ v15 r11.2.2.1 ∧ Sl (kI .i64) τ v16 r11.2.2.2.1,
    fun τ v => (.agg [.int .i64 a1.1, .int .i64 (a1.2.1.getD 0 0), .int .i64 (a1.2.1.getD 1 0), .int .i64 (a1.2.1.getD 2 0), .int .i64 (a1.2.1.getD 3 0), .int .i64 (a1.2.1.getD 4 0), .int .i64 (a1.2.1.getD 5 0), v5, v6, .string a1.2.2.2.2.1, .string a1.2.2.2.2.2].toArray : Value) = v,
    fun τ v => ∃ (v23 : Value) (v24 : Value), (.agg [.int .i64 r19.1, .int .i64 (r19.2.1.getD 0 0), .int .i64 (r19.2.1.getD 1 0), .int .i64 (r19.2.1.getD 2 0), .int .i64 (r19.2.1.getD 3 0), .int .i64 (r19.2.1.getD 4 0), .int .i64 (r19.2.1.getD 5 0), v23, v24, .string r19.2.2.2.2.1, .string r19.2.2.2.2.2].toArray : Value) = v ∧ Sl (kP (kI .i64) (kI .i64)) τ v23 r19.2.2.1 ∧ Sl (kI .i64) τ v24 r19.2.2.2.1,
    fun _ _ => True]) (tlII [[fun τ u F => F = [[(b9, .cells [.int .i64 a0.1, .int .i64 (a0.2.1.getD 0 0), .int .i64 (a0.2.1.getD 1 0), .int .i64 (a0.2.1.getD 2 0), .int .i64 (a0.2.1.getD 3 0), .int .i64 (a0.2.1.getD 4 0), .int .i64 (a0.2.1.getD 5 0), v1, v2, .string a0.2.2.2.2.1, .string a0.2.2.2.2.2].toArray 26 (0, 0))]],
    fun τ u F => F = [[(b9, .cells [.int .i64 a0.1, .int .i64 (a0.2.1.getD 0 0), .int .i64 (a0.2.1.getD 1 0), .int .i64 (a0.2.1.getD 2 0), .int .i64 (a0.2.1.getD 3 0), .int .i64 (a0.2.1.getD 4 0), .int .i64 (a0.2.1.getD 5 0), v1, v2, .string a0.2.2.2.2.1, .string a0.2.2.2.2.2].toArray 26 (0, 0))]],
    fun τ u F => ∃ (v27 : Value) (v29 : Value), F = [[(b9, .cells [.int .i64 r11.1, .int .i64 (r11.2.1.getD 0 0), .int .i64 (r11.2.1.getD 1 0), .int .i64 (r11.2.1.getD 2 0), .int .i64 (r11.2.1.getD 3 0), .int .i64 (r11.2.1.getD 4 0), .int .i64 (r11.2.1.getD 5 0), v27, v29, .string r11.2.2.2.2.1, .string r11.2.2.2.2.2].toArray 26 (0, 0))]] ∧ Sl (kP (kI .i64) (kI .i64)) τ v27 r11.2.2.1 ∧ Sl (kI .i64) τ v29 r11.2.2.2.1]]) z_mix ?_ (tl_mono ⟨fun _ _ _ _ h => h, ⟨fun _ _ _ hl ⟨v15, v16, hv, hs17, hs18⟩ => ⟨v15, v16, hv, hs17.up hl, hs18.up hl⟩, ⟨fun _ _ _ _ h => h, ⟨fun _ _ _ hl ⟨v23, v24, hv, hs25, hs26⟩ => ⟨v23, v24, hv, hs25.up hl, hs26.up hl⟩, ⟨fun _ _ _ _ _ => trivial, trivial⟩⟩⟩⟩⟩) (tlII_mono ⟨⟨fun _ _ _ _ hl h => h, ⟨fun _ _ _ _ hl h => h, ⟨fun _ _ _ _ hl h => (let ⟨v27, v29, hF, hs28, hs30⟩ := h; ⟨v27, v29, hF, hs28.up hl, hs30.up hl⟩), trivial⟩⟩⟩, trivial⟩) ?_ ?_ ?_ (allB_cons (allB_cons (allB_cons (allB_cons (allB_cons allB_nil ?_) ?_) ?_) ?_) ?_) ?_
  · exact rfl
  · exact rfl
  · exact rfl
  · exact rfl
  · intro ρ' τ u Fv pool rs hl hI hu hd hout hw hk
    have hI0 := hI
    obtain rfl := hI
    refine st_gs [[(b10, .cells [.int .i64 a1.1, .int .i64 (a1.2.1.getD 0 0), .int .i64 (a1.2.1.getD 1 0), .int .i64 (a1.2.1.getD 2 0), .int .i64 (a1.2.1.getD 3 0), .int .i64 (a1.2.1.getD 4 0), .int .i64 (a1.2.1.getD 5 0), v5, v6, .string a1.2.2.2.2.1, .string a1.2.2.2.2.2].toArray 26 (0, 0))], [(b9, .cells [.int .i64 a0.1, .int .i64 (a0.2.1.getD 0 0), .int .i64 (a0.2.1.getD 1 0), .int .i64 (a0.2.1.getD 2 0), .int .i64 (a0.2.1.getD 3 0), .int .i64 (a0.2.1.getD 4 0), .int .i64 (a0.2.1.getD 5 0), v1, v2, .string a0.2.2.2.2.1, .string a0.2.2.2.2.2].toArray 26 (0, 0))], pool] rfl ?_
    refine o_loadN (j := 1) (vs := [.int .i64 a0.1, .int .i64 (a0.2.1.getD 0 0), .int .i64 (a0.2.1.getD 1 0), .int .i64 (a0.2.1.getD 2 0), .int .i64 (a0.2.1.getD 3 0), .int .i64 (a0.2.1.getD 4 0), .int .i64 (a0.2.1.getD 5 0), v1, v2, .string a0.2.2.2.2.1, .string a0.2.2.2.2.2]) rfl rfl rfl z_agg26 ((hout 2 rfl).trans rfl) rfl rfl ?_
    exact hk _ _ [[(b9, .cells [.int .i64 a0.1, .int .i64 (a0.2.1.getD 0 0), .int .i64 (a0.2.1.getD 1 0), .int .i64 (a0.2.1.getD 2 0), .int .i64 (a0.2.1.getD 3 0), .int .i64 (a0.2.1.getD 4 0), .int .i64 (a0.2.1.getD 5 0), v1, v2, .string a0.2.2.2.2.1, .string a0.2.2.2.2.2].toArray 26 (0, 0))]] (Sto.Le.refl _) rfl (by exact hI0)
  · intro ρ' τ pool rs hl hd hout hw hk
    obtain ⟨_, e0, rfl⟩ := hd 0 rfl _ rfl
    refine st_call (foot := []) rfl rfl rfl rfl (evs_cons e0 rfl) rfl (callV_fn z_en11 (law17_Cut_ok hr12 τ (hs3.up hl) (hs4.up hl))) ?_
    rintro vτ13 τ13 gsτ13 hl14 ⟨v15, v16, rfl, rfl, hs17, hs18⟩
    exact hk _ _ hl14 ⟨v15, v16, rfl, hs17, hs18⟩
  · intro ρ' τ pool rs hl hd hout hw hk
    refine o_loadN (j := 0) (vs := [.int .i64 a1.1, .int .i64 (a1.2.1.getD 0 0), .int .i64 (a1.2.1.getD 1 0), .int .i64 (a1.2.1.getD 2 0), .int .i64 (a1.2.1.getD 3 0), .int .i64 (a1.2.1.getD 4 0), .int .i64 (a1.2.1.getD 5 0), v5, v6, .string a1.2.2.2.2.1, .string a1.2.2.2.2.2]) rfl rfl rfl z_agg26 ((hout 3 rfl).trans rfl) rfl rfl ?_
    exact hk _ _ (Sto.Le.refl _) rfl
  · intro ρ' τ pool rs hl hd hout hw hk
    obtain ⟨_, e2, rfl⟩ := hd 2 rfl _ rfl
    refine st_call (foot := []) rfl rfl rfl rfl (evs_cons e2 rfl) rfl (callV_fn z_en11 (law17_Cut_ok hr20 τ (hs7.up hl) (hs8.up hl))) ?_
    rintro vτ21 τ21 gsτ21 hl22 ⟨v23, v24, rfl, rfl, hs25, hs26⟩
    exact hk _ _ hl22 ⟨v23, v24, rfl, hs25, hs26⟩
  · intro ρ' τ u Fv pool rs hl hI hu hd hout hw hk
    obtain ⟨_, e1, v15, v16, rfl, hs17, hs18⟩ := hd 1 rfl _ rfl
    have hI0 := hI
    obtain rfl := hI
    refine st_gs [[(b10, .cells [.int .i64 a1.1, .int .i64 (a1.2.1.getD 0 0), .int .i64 (a1.2.1.getD 1 0), .int .i64 (a1.2.1.getD 2 0), .int .i64 (a1.2.1.getD 3 0), .int .i64 (a1.2.1.getD 4 0), .int .i64 (a1.2.1.getD 5 0), v5, v6, .string a1.2.2.2.2.1, .string a1.2.2.2.2.2].toArray 26 (0, 0))], [(b9, .cells [.int .i64 a0.1, .int .i64 (a0.2.1.getD 0 0), .int .i64 (a0.2.1.getD 1 0), .int .i64 (a0.2.1.getD 2 0), .int .i64 (a0.2.1.getD 3 0), .int .i64 (a0.2.1.getD 4 0), .int .i64 (a0.2.1.getD 5 0), v1, v2, .string a0.2.2.2.2.1, .string a0.2.2.2.2.2].toArray 26 (0, 0))], pool] rfl ?_
    refine o_store (j := 1) (vs := [.int .i64 r11.1, .int .i64 (r11.2.1.getD 0 0), .int .i64 (r11.2.1.getD 1 0), .int .i64 (r11.2.1.getD 2 0), .int .i64 (r11.2.1.getD 3 0), .int .i64 (r11.2.1.getD 4 0), .int .i64 (r11.2.1.getD 5 0), v15, v16, .string r11.2.2.2.2.1, .string r11.2.2.2.2.2]) (cs' := [.int .i64 r11.1, .int .i64 (r11.2.1.getD 0 0), .int .i64 (r11.2.1.getD 1 0), .int .i64 (r11.2.1.getD 2 0), .int .i64 (r11.2.1.getD 3 0), .int .i64 (r11.2.1.getD 4 0), .int .i64 (r11.2.1.getD 5 0), v15, v16, .string r11.2.2.2.2.1, .string r11.2.2.2.2.2]) rfl rfl rfl z_size26 ((hout 2 rfl).trans rfl) e1 rfl (ones_cons rfl (ones_cons rfl (ones_cons rfl (ones_cons rfl (ones_cons rfl (ones_cons rfl (ones_cons rfl (ones_cons hs17.one' (ones_cons hs18.one' (ones_cons rfl (ones_cons rfl ones_nil))))))))))) rfl rfl rfl ?_
    refine st_gs [[(b10, .cells [.int .i64 a1.1, .int .i64 (a1.2.1.getD 0 0), .int .i64 (a1.2.1.getD 1 0), .int .i64 (a1.2.1.getD 2 0), .int .i64 (a1.2.1.getD 3 0), .int .i64 (a1.2.1.getD 4 0), .int .i64 (a1.2.1.getD 5 0), v5, v6, .string a1.2.2.2.2.1, .string a1.2.2.2.2.2].toArray 26 (0, 0))], [(b9, .cells [.int .i64 r11.1, .int .i64 (r11.2.1.getD 0 0), .int .i64 (r11.2.1.getD 1 0), .int .i64 (r11.2.1.getD 2 0), .int .i64 (r11.2.1.getD 3 0), .int .i64 (r11.2.1.getD 4 0), .int .i64 (r11.2.1.getD 5 0), v15, v16, .string r11.2.2.2.2.1, .string r11.2.2.2.2.2].toArray 26 (0, 0))], pool] rfl ?_
    exact hk _ _ [[(b9, .cells [.int .i64 r11.1, .int .i64 (r11.2.1.getD 0 0), .int .i64 (r11.2.1.getD 1 0), .int .i64 (r11.2.1.getD 2 0), .int .i64 (r11.2.1.getD 3 0), .int .i64 (r11.2.1.getD 4 0), .int .i64 (r11.2.1.getD 5 0), v15, v16, .string r11.2.2.2.2.1, .string r11.2.2.2.2.2].toArray 26 (0, 0))]] (Sto.Le.refl _) trivial (by exact ⟨v15, v16, rfl, hs17, hs18⟩)
  intro ρ' τ31 vals u Fv hl31 hI hu hv hout
  obtain ⟨l3, v23, v24, t3, hs25, hs26⟩ := hv 3 (by decide)
  replace l3 := l3 _ rfl
  replace l3 : Eng.look ρ' 8 = some (.agg [.int .i64 r19.1, .int .i64 (r19.2.1.getD 0 0), .int .i64 (r19.2.1.getD 1 0), .int .i64 (r19.2.1.getD 2 0), .int .i64 (r19.2.1.getD 3 0), .int .i64 (r19.2.1.getD 4 0), .int .i64 (r19.2.1.getD 5 0), v23, v24, .string r19.2.2.2.2.1, .string r19.2.2.2.2.2].toArray) := l3.trans (congrArg some (Eq.symm t3))
  obtain ⟨v27, v29, rfl, hs28, hs30⟩ := hI
  refine st_gs [[(b10, .cells [.int .i64 a1.1, .int .i64 (a1.2.1.getD 0 0), .int .i64 (a1.2.1.getD 1 0), .int .i64 (a1.2.1.getD 2 0), .int .i64 (a1.2.1.getD 3 0), .int .i64 (a1.2.1.getD 4 0), .int .i64 (a1.2.1.getD 5 0), v5, v6, .string a1.2.2.2.2.1, .string a1.2.2.2.2.2].toArray 26 (0, 0))], [(b9, .cells [.int .i64 r11.1, .int .i64 (r11.2.1.getD 0 0), .int .i64 (r11.2.1.getD 1 0), .int .i64 (r11.2.1.getD 2 0), .int .i64 (r11.2.1.getD 3 0), .int .i64 (r11.2.1.getD 4 0), .int .i64 (r11.2.1.getD 5 0), v27, v29, .string r11.2.2.2.2.1, .string r11.2.2.2.2.2].toArray 26 (0, 0))]] rfl ?_
  refine st_env (ρ' := [(8, .agg [.int .i64 r19.1, .int .i64 (r19.2.1.getD 0 0), .int .i64 (r19.2.1.getD 1 0), .int .i64 (r19.2.1.getD 2 0), .int .i64 (r19.2.1.getD 3 0), .int .i64 (r19.2.1.getD 4 0), .int .i64 (r19.2.1.getD 5 0), v23, v24, .string r19.2.2.2.2.1, .string r19.2.2.2.2.2].toArray), (2, .pointer (some ⟨b9, 0, none⟩)), (3, .pointer (some ⟨b10, 0, none⟩)), (4, .bool false)]) ⟨l3, (hout 2 rfl).trans rfl, (hout 3 rfl).trans rfl, (hout 4 rfl).trans rfl, trivial⟩ ?_
  refine o_store (j := 0) (vs := [.int .i64 r19.1, .int .i64 (r19.2.1.getD 0 0), .int .i64 (r19.2.1.getD 1 0), .int .i64 (r19.2.1.getD 2 0), .int .i64 (r19.2.1.getD 3 0), .int .i64 (r19.2.1.getD 4 0), .int .i64 (r19.2.1.getD 5 0), v23, v24, .string r19.2.2.2.2.1, .string r19.2.2.2.2.2]) (cs' := [.int .i64 r19.1, .int .i64 (r19.2.1.getD 0 0), .int .i64 (r19.2.1.getD 1 0), .int .i64 (r19.2.1.getD 2 0), .int .i64 (r19.2.1.getD 3 0), .int .i64 (r19.2.1.getD 4 0), .int .i64 (r19.2.1.getD 5 0), v23, v24, .string r19.2.2.2.2.1, .string r19.2.2.2.2.2]) rfl rfl rfl z_size26 rfl rfl rfl (ones_cons rfl (ones_cons rfl (ones_cons rfl (ones_cons rfl (ones_cons rfl (ones_cons rfl (ones_cons rfl (ones_cons hs25.one' (ones_cons hs26.one' (ones_cons rfl (ones_cons rfl ones_nil))))))))))) rfl rfl rfl ?_
  refine st_gs [[(b10, .cells [.int .i64 r19.1, .int .i64 (r19.2.1.getD 0 0), .int .i64 (r19.2.1.getD 1 0), .int .i64 (r19.2.1.getD 2 0), .int .i64 (r19.2.1.getD 3 0), .int .i64 (r19.2.1.getD 4 0), .int .i64 (r19.2.1.getD 5 0), v23, v24, .string r19.2.2.2.2.1, .string r19.2.2.2.2.2].toArray 26 (0, 0))], [(b9, .cells [.int .i64 r11.1, .int .i64 (r11.2.1.getD 0 0), .int .i64 (r11.2.1.getD 1 0), .int .i64 (r11.2.1.getD 2 0), .int .i64 (r11.2.1.getD 3 0), .int .i64 (r11.2.1.getD 4 0), .int .i64 (r11.2.1.getD 5 0), v27, v29, .string r11.2.2.2.2.1, .string r11.2.2.2.2.2].toArray 26 (0, 0))]] rfl ?_
  refine Z 3 rfl ?_
  refine st_cut (fun ρ τ32 gs => ∃ (s32 : Bool), law20_SayTwins_j1 r11 r19 s32 r ∧ τ31.Le τ32 ∧ ρ = [(2, .pointer (some ⟨b9, 0, none⟩)), (3, .pointer (some ⟨b10, 0, none⟩)), (4, .bool false), (16, .bool s32)] ∧ gs = [[(b9, .cells [.int .i64 r11.1, .int .i64 (r11.2.1.getD 0 0), .int .i64 (r11.2.1.getD 1 0), .int .i64 (r11.2.1.getD 2 0), .int .i64 (r11.2.1.getD 3 0), .int .i64 (r11.2.1.getD 4 0), .int .i64 (r11.2.1.getD 5 0), v27, v29, .string r11.2.2.2.2.1, .string r11.2.2.2.2.2].toArray 26 (0, 0))], [(b10, .cells [.int .i64 r19.1, .int .i64 (r19.2.1.getD 0 0), .int .i64 (r19.2.1.getD 1 0), .int .i64 (r19.2.1.getD 2 0), .int .i64 (r19.2.1.getD 3 0), .int .i64 (r19.2.1.getD 4 0), .int .i64 (r19.2.1.getD 5 0), v23, v24, .string r19.2.2.2.2.1, .string r19.2.2.2.2.2].toArray 26 (0, 0))]]) ?_ (fun hk32 => ?_)
  · rintro ρ32 τ32 gs32 ⟨s32, h, hl32, rfl, rfl⟩
    refine st_cond rfl (fun hc => ?_) (fun hc => ?_)
    · replace h := (if_pos hc).mp h
      refine Z 2 rfl ?_
      obtain ⟨r33, hr34, h⟩ := h
      refine st_call (foot := []) rfl rfl rfl rfl rfl rfl (callV_fn z_en13 (law20_known_ok hr34 τ32 (hT.up (hl31.trans hl32)))) ?_
      rintro vτ35 τ35 gsτ35 hl36 ⟨rfl, rfl⟩
      refine Z 2 rfl ?_
      refine st_ord [] [] rfl ?_
      obtain rfl := Eq.symm h
      exact st_ret (gs' := []) Tryd.func3 rfl (List.Sublist.refl _) ((hl31.trans hl32).trans hl36) ⟨rfl, rfl⟩
    · replace h := (if_neg (ne_t hc)).mp h
      refine Z 2 rfl ?_
      obtain ⟨r37, hr38, r41, hr42, r45, hr46, r49, hr50, r53, hr54, r61, hr62, r65, hr66, h⟩ := h
      refine st_draw 20 (tl [fun τ v => (.bool r37 : Value) = v,
    fun τ v => (.bool r37 : Value) = v,
    fun τ v => ((r37 = true) → (.agg [.int .i64 r11.1, .int .i64 (r11.2.1.getD 0 0), .int .i64 (r11.2.1.getD 1 0), .int .i64 (r11.2.1.getD 2 0), .int .i64 (r11.2.1.getD 3 0), .int .i64 (r11.2.1.getD 4 0), .int .i64 (r11.2.1.getD 5 0), v27, v29, .string r11.2.2.2.2.1, .string r11.2.2.2.2.2].toArray : Value) = v) ∧ (¬ (r37 = true) → v = undef),
    fun τ v => ((r37 = true) → (.string r41 : Value) = v) ∧ (¬ (r37 = true) → v = undef),
    fun τ v => ((r37 = true) → (.agg [.int .i64 r19.1, .int .i64 (r19.2.1.getD 0 0), .int .i64 (r19.2.1.getD 1 0), .int .i64 (r19.2.1.getD 2 0), .int .i64 (r19.2.1.getD 3 0), .int .i64 (r19.2.1.getD 4 0), .int .i64 (r19.2.1.getD 5 0), v23, v24, .string r19.2.2.2.2.1, .string r19.2.2.2.2.2].toArray : Value) = v) ∧ (¬ (r37 = true) → v = undef),
    fun τ v => ((r37 = true) → (.string r45 : Value) = v) ∧ (¬ (r37 = true) → v = undef),
    fun τ v => ((r37 = true) → (.bool (decide (r41 = r45)) : Value) = v) ∧ (¬ (r37 = true) → v = undef),
    fun τ v => ((r37 = true) → (.agg [.int .i64 r11.1, .int .i64 (r11.2.1.getD 0 0), .int .i64 (r11.2.1.getD 1 0), .int .i64 (r11.2.1.getD 2 0), .int .i64 (r11.2.1.getD 3 0), .int .i64 (r11.2.1.getD 4 0), .int .i64 (r11.2.1.getD 5 0), v27, v29, .string r11.2.2.2.2.1, .string r11.2.2.2.2.2].toArray : Value) = v) ∧ (¬ (r37 = true) → v = undef),
    fun τ v => ((r37 = true) → (.agg [.int .i64 r19.1, .int .i64 (r19.2.1.getD 0 0), .int .i64 (r19.2.1.getD 1 0), .int .i64 (r19.2.1.getD 2 0), .int .i64 (r19.2.1.getD 3 0), .int .i64 (r19.2.1.getD 4 0), .int .i64 (r19.2.1.getD 5 0), v23, v24, .string r19.2.2.2.2.1, .string r19.2.2.2.2.2].toArray : Value) = v) ∧ (¬ (r37 = true) → v = undef),
    fun τ v => ((r37 = true) → (.bool r49 : Value) = v) ∧ (¬ (r37 = true) → v = undef),
    fun τ v => ((r37 = true) → (.bool (decide ((decide (r41 = r45)) = r49)) : Value) = v) ∧ (¬ (r37 = true) → v = undef),
    fun τ v => (.bool (r37 && (decide ((decide (r41 = r45)) = r49))) : Value) = v,
    fun τ v => (.bool (r37 && (decide ((decide (r41 = r45)) = r49))) : Value) = v,
    fun τ v => (((r37 && (decide ((decide (r41 = r45)) = r49))) = true) → (.agg [.int .i64 r11.1, .int .i64 (r11.2.1.getD 0 0), .int .i64 (r11.2.1.getD 1 0), .int .i64 (r11.2.1.getD 2 0), .int .i64 (r11.2.1.getD 3 0), .int .i64 (r11.2.1.getD 4 0), .int .i64 (r11.2.1.getD 5 0), v27, v29, .string r11.2.2.2.2.1, .string r11.2.2.2.2.2].toArray : Value) = v) ∧ (¬ ((r37 && (decide ((decide (r41 = r45)) = r49))) = true) → v = undef),
    fun τ v => (((r37 && (decide ((decide (r41 = r45)) = r49))) = true) → ∃ (v57 : Value) (v58 : Value), (.agg [.int .i64 r53.1, .int .i64 (r53.2.1.getD 0 0), .int .i64 (r53.2.1.getD 1 0), .int .i64 (r53.2.1.getD 2 0), .int .i64 (r53.2.1.getD 3 0), .int .i64 (r53.2.1.getD 4 0), .int .i64 (r53.2.1.getD 5 0), v57, v58, .string r53.2.2.2.2.1, .string r53.2.2.2.2.2].toArray : Value) = v ∧ Sl (kP (kI .i64) (kI .i64)) τ v57 r53.2.2.1 ∧ Sl (kI .i64) τ v58 r53.2.2.2.1) ∧ (¬ ((r37 && (decide ((decide (r41 = r45)) = r49))) = true) → v = undef),
    fun τ v => (((r37 && (decide ((decide (r41 = r45)) = r49))) = true) → (.string r61 : Value) = v) ∧ (¬ ((r37 && (decide ((decide (r41 = r45)) = r49))) = true) → v = undef),
    fun τ v => (((r37 && (decide ((decide (r41 = r45)) = r49))) = true) → (.agg [.int .i64 r11.1, .int .i64 (r11.2.1.getD 0 0), .int .i64 (r11.2.1.getD 1 0), .int .i64 (r11.2.1.getD 2 0), .int .i64 (r11.2.1.getD 3 0), .int .i64 (r11.2.1.getD 4 0), .int .i64 (r11.2.1.getD 5 0), v27, v29, .string r11.2.2.2.2.1, .string r11.2.2.2.2.2].toArray : Value) = v) ∧ (¬ ((r37 && (decide ((decide (r41 = r45)) = r49))) = true) → v = undef),
    fun τ v => (((r37 && (decide ((decide (r41 = r45)) = r49))) = true) → (.string r65 : Value) = v) ∧ (¬ ((r37 && (decide ((decide (r41 = r45)) = r49))) = true) → v = undef),
    fun τ v => (((r37 && (decide ((decide (r41 = r45)) = r49))) = true) → (.bool (decide (r61 = r65)) : Value) = v) ∧ (¬ ((r37 && (decide ((decide (r41 = r45)) = r49))) = true) → v = undef),
    fun τ v => (.bool ((r37 && (decide ((decide (r41 = r45)) = r49))) && (decide (r61 = r65))) : Value) = v]) (fun _ _ => []) z_mix rfl (tl_mono ⟨fun _ _ _ _ h => h, ⟨fun _ _ _ _ h => h, ⟨fun _ _ _ _ h => h, ⟨fun _ _ _ _ h => h, ⟨fun _ _ _ _ h => h, ⟨fun _ _ _ _ h => h, ⟨fun _ _ _ _ h => h, ⟨fun _ _ _ _ h => h, ⟨fun _ _ _ _ h => h, ⟨fun _ _ _ _ h => h, ⟨fun _ _ _ _ h => h, ⟨fun _ _ _ _ h => h, ⟨fun _ _ _ _ h => h, ⟨fun _ _ _ _ h => h, ⟨fun _ _ _ hl ⟨h1, h2⟩ => ⟨fun hC => let ⟨v57, v58, hv, hs59, hs60⟩ := h1 hC; ⟨v57, v58, hv, hs59.up hl, hs60.up hl⟩, h2⟩, ⟨fun _ _ _ _ h => h, ⟨fun _ _ _ _ h => h, ⟨fun _ _ _ _ h => h, ⟨fun _ _ _ _ h => h, ⟨fun _ _ _ _ h => h, trivial⟩⟩⟩⟩⟩⟩⟩⟩⟩⟩⟩⟩⟩⟩⟩⟩⟩⟩⟩⟩) (allB_cons (allB_cons (allB_cons (allB_cons (allB_cons (allB_cons (allB_cons (allB_cons (allB_cons (allB_cons (allB_cons (allB_cons (allB_cons (allB_cons (allB_cons (allB_cons (allB_cons (allB_cons (allB_cons (allB_cons allB_nil ?_) ?_) ?_) ?_) ?_) ?_) ?_) ?_) ?_) ?_) ?_) ?_) ?_) ?_) ?_) ?_) ?_) ?_) ?_) ?_) ?_
      · intro ρ' τ pool rs hl hd hout hk
        refine st_call (foot := []) rfl rfl rfl rfl rfl rfl (callV_fn z_en13 (law20_known_ok hr38 τ (hT.up ((hl31.trans hl32).trans hl)))) ?_
        rintro vτ39 τ39 gsτ39 hl40 ⟨rfl, rfl⟩
        exact st_addNil (hk _ _ hl40 rfl)
      · intro ρ' τ pool rs hl hd hout hk
        obtain ⟨_, e0, rfl⟩ := hd 0 rfl
        refine o_move rfl rfl rfl e0 ?_
        exact st_addNil (hk _ _ (Sto.Le.refl _) rfl)
      · intro ρ' τ pool rs hl hd hout hk
        obtain ⟨_, e1, rfl⟩ := hd 1 rfl
        by_cases hG : r37 = true
        · have hC := hG
          refine o_loadN (j := 0) (vs := [.int .i64 r11.1, .int .i64 (r11.2.1.getD 0 0), .int .i64 (r11.2.1.getD 1 0), .int .i64 (r11.2.1.getD 2 0), .int .i64 (r11.2.1.getD 3 0), .int .i64 (r11.2.1.getD 4 0), .int .i64 (r11.2.1.getD 5 0), v27, v29, .string r11.2.2.2.2.1, .string r11.2.2.2.2.2]) rfl (wants_of rfl e1 hG) rfl z_agg26 ((hout 2 rfl).trans rfl) rfl rfl ?_
          exact st_addNil (hk _ _ (Sto.Le.refl _) ⟨fun _ => rfl, fun hn => absurd hC hn⟩)
        · refine st_pass rfl rfl rfl e1 (beq_off hG) rfl ?_
          exact st_addNil (hk _ _ (Sto.Le.refl _) ⟨fun h => absurd h hG, fun _ => rfl⟩)
      · intro ρ' τ pool rs hl hd hout hk
        obtain ⟨_, e1, rfl⟩ := hd 1 rfl
        obtain ⟨w2, e2, t2⟩ := hd 2 rfl
        by_cases hG : r37 = true
        · have hC := hG
          replace hr42 := hr42 hC
          obtain ⟨rfl⟩ := t2.1 hC
          refine st_call (foot := []) rfl (wants_of rfl e1 hG) rfl rfl (evs_cons e2 rfl) rfl (callV_fn z_en14 (say_Line_ok hr42 τ (hs28.up (hl32.trans hl)) (hs30.up (hl32.trans hl)) (hT.up ((hl31.trans hl32).trans hl)))) ?_
          rintro vτ43 τ43 gsτ43 hl44 ⟨rfl, rfl⟩
          exact st_addNil (hk _ _ hl44 ⟨fun _ => rfl, fun hn => absurd hC hn⟩)
        · refine st_pass rfl rfl rfl e1 (beq_off hG) rfl ?_
          exact st_addNil (hk _ _ (Sto.Le.refl _) ⟨fun h => absurd h hG, fun _ => rfl⟩)
      · intro ρ' τ pool rs hl hd hout hk
        obtain ⟨_, e1, rfl⟩ := hd 1 rfl
        by_cases hG : r37 = true
        · have hC := hG
          refine o_loadN (j := 1) (vs := [.int .i64 r19.1, .int .i64 (r19.2.1.getD 0 0), .int .i64 (r19.2.1.getD 1 0), .int .i64 (r19.2.1.getD 2 0), .int .i64 (r19.2.1.getD 3 0), .int .i64 (r19.2.1.getD 4 0), .int .i64 (r19.2.1.getD 5 0), v23, v24, .string r19.2.2.2.2.1, .string r19.2.2.2.2.2]) rfl (wants_of rfl e1 hG) rfl z_agg26 ((hout 3 rfl).trans rfl) rfl rfl ?_
          exact st_addNil (hk _ _ (Sto.Le.refl _) ⟨fun _ => rfl, fun hn => absurd hC hn⟩)
        · refine st_pass rfl rfl rfl e1 (beq_off hG) rfl ?_
          exact st_addNil (hk _ _ (Sto.Le.refl _) ⟨fun h => absurd h hG, fun _ => rfl⟩)
      · intro ρ' τ pool rs hl hd hout hk
        obtain ⟨_, e1, rfl⟩ := hd 1 rfl
        obtain ⟨w4, e4, t4⟩ := hd 4 rfl
        by_cases hG : r37 = true
        · have hC := hG
          replace hr46 := hr46 hC
          obtain ⟨rfl⟩ := t4.1 hC
          refine st_call (foot := []) rfl (wants_of rfl e1 hG) rfl rfl (evs_cons e4 rfl) rfl (callV_fn z_en14 (say_Line_ok hr46 τ (hs25.up (hl32.trans hl)) (hs26.up (hl32.trans hl)) (hT.up ((hl31.trans hl32).trans hl)))) ?_
          rintro vτ47 τ47 gsτ47 hl48 ⟨rfl, rfl⟩
          exact st_addNil (hk _ _ hl48 ⟨fun _ => rfl, fun hn => absurd hC hn⟩)
        · refine st_pass rfl rfl rfl e1 (beq_off hG) rfl ?_
          exact st_addNil (hk _ _ (Sto.Le.refl _) ⟨fun h => absurd h hG, fun _ => rfl⟩)
      · intro ρ' τ pool rs hl hd hout hk
        obtain ⟨_, e1, rfl⟩ := hd 1 rfl
        obtain ⟨w3, e3, t3⟩ := hd 3 rfl
        obtain ⟨w5, e5, t5⟩ := hd 5 rfl
        by_cases hG : r37 = true
        · have hC := hG
          obtain ⟨rfl⟩ := t3.1 hC
          obtain ⟨rfl⟩ := t5.1 hC
          refine o_sbin (v := .bool (decide (r41 = r45))) rfl (wants_of rfl e1 hG) rfl e3 e5 rfl ?_
          exact st_addNil (hk _ _ (Sto.Le.refl _) ⟨fun _ => rfl, fun hn => absurd hC hn⟩)
        · refine st_pass rfl rfl rfl e1 (beq_off hG) rfl ?_
          exact st_addNil (hk _ _ (Sto.Le.refl _) ⟨fun h => absurd h hG, fun _ => rfl⟩)
      · intro ρ' τ pool rs hl hd hout hk
        obtain ⟨_, e1, rfl⟩ := hd 1 rfl
        by_cases hG : r37 = true
        · have hC := hG
          refine o_loadN (j := 0) (vs := [.int .i64 r11.1, .int .i64 (r11.2.1.getD 0 0), .int .i64 (r11.2.1.getD 1 0), .int .i64 (r11.2.1.getD 2 0), .int .i64 (r11.2.1.getD 3 0), .int .i64 (r11.2.1.getD 4 0), .int .i64 (r11.2.1.getD 5 0), v27, v29, .string r11.2.2.2.2.1, .string r11.2.2.2.2.2]) rfl (wants_of rfl e1 hG) rfl z_agg26 ((hout 2 rfl).trans rfl) rfl rfl ?_
          exact st_addNil (hk _ _ (Sto.Le.refl _) ⟨fun _ => rfl, fun hn => absurd hC hn⟩)
        · refine st_pass rfl rfl rfl e1 (beq_off hG) rfl ?_
          exact st_addNil (hk _ _ (Sto.Le.refl _) ⟨fun h => absurd h hG, fun _ => rfl⟩)
      · intro ρ' τ pool rs hl hd hout hk
        obtain ⟨_, e1, rfl⟩ := hd 1 rfl
        by_cases hG : r37 = true
        · have hC := hG
          refine o_loadN (j := 1) (vs := [.int .i64 r19.1, .int .i64 (r19.2.1.getD 0 0), .int .i64 (r19.2.1.getD 1 0), .int .i64 (r19.2.1.getD 2 0), .int .i64 (r19.2.1.getD 3 0), .int .i64 (r19.2.1.getD 4 0), .int .i64 (r19.2.1.getD 5 0), v23, v24, .string r19.2.2.2.2.1, .string r19.2.2.2.2.2]) rfl (wants_of rfl e1 hG) rfl z_agg26 ((hout 3 rfl).trans rfl) rfl rfl ?_
          exact st_addNil (hk _ _ (Sto.Le.refl _) ⟨fun _ => rfl, fun hn => absurd hC hn⟩)
        · refine st_pass rfl rfl rfl e1 (beq_off hG) rfl ?_
          exact st_addNil (hk _ _ (Sto.Le.refl _) ⟨fun h => absurd h hG, fun _ => rfl⟩)
      · intro ρ' τ pool rs hl hd hout hk
        obtain ⟨_, e1, rfl⟩ := hd 1 rfl
        obtain ⟨w7, e7, t7⟩ := hd 7 rfl
        obtain ⟨w8, e8, t8⟩ := hd 8 rfl
        by_cases hG : r37 = true
        · have hC := hG
          replace hr50 := hr50 hC
          obtain ⟨rfl⟩ := t7.1 hC
          obtain ⟨rfl⟩ := t8.1 hC
          refine st_call (foot := []) rfl (wants_of rfl e1 hG) rfl rfl (evs_cons e7 (evs_cons e8 rfl)) rfl (callV_fn z_en15 (msg_Same_ok hr50 τ (hs28.up (hl32.trans hl)) (hs30.up (hl32.trans hl)) (hs25.up (hl32.trans hl)) (hs26.up (hl32.trans hl)))) ?_
          rintro vτ51 τ51 gsτ51 hl52 ⟨rfl, rfl⟩
          exact st_addNil (hk _ _ hl52 ⟨fun _ => rfl, fun hn => absurd hC hn⟩)
        · refine st_pass rfl rfl rfl e1 (beq_off hG) rfl ?_
          exact st_addNil (hk _ _ (Sto.Le.refl _) ⟨fun h => absurd h hG, fun _ => rfl⟩)
      · intro ρ' τ pool rs hl hd hout hk
        obtain ⟨_, e1, rfl⟩ := hd 1 rfl
        obtain ⟨w6, e6, t6⟩ := hd 6 rfl
        obtain ⟨w9, e9, t9⟩ := hd 9 rfl
        by_cases hG : r37 = true
        · have hC := hG
          obtain ⟨rfl⟩ := t6.1 hC
          obtain ⟨rfl⟩ := t9.1 hC
          refine o_beq (e := (decide ((decide (r41 = r45)) = r49))) rfl (wants_of rfl e1 hG) rfl Tryd.underlying4 e6 e9 rfl ?_
          exact st_addNil (hk _ _ (Sto.Le.refl _) ⟨fun _ => rfl, fun hn => absurd hC hn⟩)
        · refine st_pass rfl rfl rfl e1 (beq_off hG) rfl ?_
          exact st_addNil (hk _ _ (Sto.Le.refl _) ⟨fun h => absurd h hG, fun _ => rfl⟩)
      · intro ρ' τ pool rs hl hd hout hk
        obtain ⟨_, e1, rfl⟩ := hd 1 rfl
        obtain ⟨w10, e10, t10⟩ := hd 10 rfl
        refine o_pickAnd rfl rfl rfl e1 (fun hp => e10.trans (congrArg some (Eq.symm (t10.1 hp)))) rfl ?_
        exact st_addNil (hk _ _ (Sto.Le.refl _) rfl)
      · intro ρ' τ pool rs hl hd hout hk
        obtain ⟨_, e11, rfl⟩ := hd 11 rfl
        refine o_move rfl rfl rfl e11 ?_
        exact st_addNil (hk _ _ (Sto.Le.refl _) rfl)
      · intro ρ' τ pool rs hl hd hout hk
        obtain ⟨_, e12, rfl⟩ := hd 12 rfl
        by_cases hG : (r37 && (decide ((decide (r41 = r45)) = r49))) = true
        · have hC := hG
          refine o_loadN (j := 0) (vs := [.int .i64 r11.1, .int .i64 (r11.2.1.getD 0 0), .int .i64 (r11.2.1.getD 1 0), .int .i64 (r11.2.1.getD 2 0), .int .i64 (r11.2.1.getD 3 0), .int .i64 (r11.2.1.getD 4 0), .int .i64 (r11.2.1.getD 5 0), v27, v29, .string r11.2.2.2.2.1, .string r11.2.2.2.2.2]) rfl (wants_of rfl e12 hG) rfl z_agg26 ((hout 2 rfl).trans rfl) rfl rfl ?_
          exact st_addNil (hk _ _ (Sto.Le.refl _) ⟨fun _ => rfl, fun hn => absurd hC hn⟩)
        · refine st_pass rfl rfl rfl e12 (beq_off hG) rfl ?_
          exact st_addNil (hk _ _ (Sto.Le.refl _) ⟨fun h => absurd h hG, fun _ => rfl⟩)
      · intro ρ' τ pool rs hl hd hout hk
        obtain ⟨_, e12, rfl⟩ := hd 12 rfl
        obtain ⟨w13, e13, t13⟩ := hd 13 rfl
        by_cases hG : (r37 && (decide ((decide (r41 = r45)) = r49))) = true
        · have hC := hG
          replace hr54 := hr54 hC
          obtain ⟨rfl⟩ := t13.1 hC
          refine st_call (foot := []) rfl (wants_of rfl e12 hG) rfl rfl (evs_cons e13 rfl) rfl (callV_fn z_en16 (msg_Copy_ok hr54 τ (hs28.up (hl32.trans hl)) (hs30.up (hl32.trans hl)))) ?_
          rintro vτ55 τ55 gsτ55 hl56 ⟨v57, v58, rfl, rfl, hs59, hs60⟩
          exact st_addNil (hk _ _ hl56 ⟨fun _ => ⟨v57, v58, rfl, hs59, hs60⟩, fun hn => absurd hC hn⟩)
        · refine st_pass rfl rfl rfl e12 (beq_off hG) rfl ?_
          exact st_addNil (hk _ _ (Sto.Le.refl _) ⟨fun h => absurd h hG, fun _ => rfl⟩)
      · intro ρ' τ pool rs hl hd hout hk
        obtain ⟨_, e12, rfl⟩ := hd 12 rfl
        obtain ⟨w14, e14, t14⟩ := hd 14 rfl
        by_cases hG : (r37 && (decide ((decide (r41 = r45)) = r49))) = true
        · have hC := hG
          replace hr62 := hr62 hC
          obtain ⟨v57, v58, rfl, hs59, hs60⟩ := t14.1 hC
          refine st_call (foot := []) rfl (wants_of rfl e12 hG) rfl rfl (evs_cons e14 rfl) rfl (callV_fn z_en14 (say_Line_ok hr62 τ hs59 hs60 (hT.up ((hl31.trans hl32).trans hl)))) ?_
          rintro vτ63 τ63 gsτ63 hl64 ⟨rfl, rfl⟩
          exact st_addNil (hk _ _ hl64 ⟨fun _ => rfl, fun hn => absurd hC hn⟩)
        · refine st_pass rfl rfl rfl e12 (beq_off hG) rfl ?_
          exact st_addNil (hk _ _ (Sto.Le.refl _) ⟨fun h => absurd h hG, fun _ => rfl⟩)
      · intro ρ' τ pool rs hl hd hout hk
        obtain ⟨_, e12, rfl⟩ := hd 12 rfl
        by_cases hG : (r37 && (decide ((decide (r41 = r45)) = r49))) = true
        · have hC := hG
          refine o_loadN (j := 0) (vs := [.int .i64 r11.1, .int .i64 (r11.2.1.getD 0 0), .int .i64 (r11.2.1.getD 1 0), .int .i64 (r11.2.1.getD 2 0), .int .i64 (r11.2.1.getD 3 0), .int .i64 (r11.2.1.getD 4 0), .int .i64 (r11.2.1.getD 5 0), v27, v29, .string r11.2.2.2.2.1, .string r11.2.2.2.2.2]) rfl (wants_of rfl e12 hG) rfl z_agg26 ((hout 2 rfl).trans rfl) rfl rfl ?_
          exact st_addNil (hk _ _ (Sto.Le.refl _) ⟨fun _ => rfl, fun hn => absurd hC hn⟩)
        · refine st_pass rfl rfl rfl e12 (beq_off hG) rfl ?_
          exact st_addNil (hk _ _ (Sto.Le.refl _) ⟨fun h => absurd h hG, fun _ => rfl⟩)
      · intro ρ' τ pool rs hl hd hout hk
        obtain ⟨_, e12, rfl⟩ := hd 12 rfl
        obtain ⟨w16, e16, t16⟩ := hd 16 rfl
        by_cases hG : (r37 && (decide ((decide (r41 = r45)) = r49))) = true
        · have hC := hG
          replace hr66 := hr66 hC
          obtain ⟨rfl⟩ := t16.1 hC
          refine st_call (foot := []) rfl (wants_of rfl e12 hG) rfl rfl (evs_cons e16 rfl) rfl (callV_fn z_en14 (say_Line_ok hr66 τ (hs28.up (hl32.trans hl)) (hs30.up (hl32.trans hl)) (hT.up ((hl31.trans hl32).trans hl)))) ?_
          rintro vτ67 τ67 gsτ67 hl68 ⟨rfl, rfl⟩
          exact st_addNil (hk _ _ hl68 ⟨fun _ => rfl, fun hn => absurd hC hn⟩)
        · refine st_pass rfl rfl rfl e12 (beq_off hG) rfl ?_
          exact st_addNil (hk _ _ (Sto.Le.refl _) ⟨fun h => absurd h hG, fun _ => rfl⟩)
      · intro ρ' τ pool rs hl hd hout hk
        obtain ⟨_, e12, rfl⟩ := hd 12 rfl
        obtain ⟨w15, e15, t15⟩ := hd 15 rfl
        obtain ⟨w17, e17, t17⟩ := hd 17 rfl
        by_cases hG : (r37 && (decide ((decide (r41 = r45)) = r49))) = true
        · have hC := hG
          obtain ⟨rfl⟩ := t15.1 hC
          obtain ⟨rfl⟩ := t17.1 hC
          refine o_sbin (v := .bool (decide (r61 = r65))) rfl (wants_of rfl e12 hG) rfl e15 e17 rfl ?_
          exact st_addNil (hk _ _ (Sto.Le.refl _) ⟨fun _ => rfl, fun hn => absurd hC hn⟩)
        · refine st_pass rfl rfl rfl e12 (beq_off hG) rfl ?_
          exact st_addNil (hk _ _ (Sto.Le.refl _) ⟨fun h => absurd h hG, fun _ => rfl⟩)
      · intro ρ' τ pool rs hl hd hout hk
        obtain ⟨_, e12, rfl⟩ := hd 12 rfl
        obtain ⟨w18, e18, t18⟩ := hd 18 rfl
        refine o_pickAnd rfl rfl rfl e12 (fun hp => e18.trans (congrArg some (Eq.symm (t18.1 hp)))) rfl ?_
        exact st_addNil (hk _ _ (Sto.Le.refl _) rfl)
      intro ρ' τ69 vals hl69 hv hout
      have l19 : Eng.look ρ' 37 = some (.bool ((r37 && (decide ((decide (r41 = r45)) = r49))) && (decide (r61 = r65)))) := ((hv 19 (by decide)).1).trans (congrArg some (show vals 19 = .bool ((r37 && (decide ((decide (r41 = r45)) = r49))) && (decide (r61 = r65))) from Eq.symm (hv 19 (by decide)).2))
      refine st_ord [0, 0] [[(b9, .cells [.int .i64 r11.1, .int .i64 (r11.2.1.getD 0 0), .int .i64 (r11.2.1.getD 1 0), .int .i64 (r11.2.1.getD 2 0), .int .i64 (r11.2.1.getD 3 0), .int .i64 (r11.2.1.getD 4 0), .int .i64 (r11.2.1.getD 5 0), v27, v29, .string r11.2.2.2.2.1, .string r11.2.2.2.2.2].toArray 26 (0, 0))], [(b10, .cells [.int .i64 r19.1, .int .i64 (r19.2.1.getD 0 0), .int .i64 (r19.2.1.getD 1 0), .int .i64 (r19.2.1.getD 2 0), .int .i64 (r19.2.1.getD 3 0), .int .i64 (r19.2.1.getD 4 0), .int .i64 (r19.2.1.getD 5 0), v23, v24, .string r19.2.2.2.2.1, .string r19.2.2.2.2.2].toArray 26 (0, 0))]] rfl ?_
      refine st_env (ρ' := [(37, .bool ((r37 && (decide ((decide (r41 = r45)) = r49))) && (decide (r61 = r65)))), (4, .bool false)]) ⟨l19, (hout 4 rfl).trans rfl, trivial⟩ ?_
      refine Z 2 rfl ?_
      refine st_ord [] [] rfl ?_
      obtain rfl := Eq.symm h
      exact st_ret (gs' := []) Tryd.func3 rfl (List.Sublist.refl _) ((hl31.trans hl32).trans hl69) ⟨rfl, rfl⟩
  refine st_region ?_
  refine o_loadN (j := 1) (vs := [.int .i64 r11.1, .int .i64 (r11.2.1.getD 0 0), .int .i64 (r11.2.1.getD 1 0), .int .i64 (r11.2.1.getD 2 0), .int .i64 (r11.2.1.getD 3 0), .int .i64 (r11.2.1.getD 4 0), .int .i64 (r11.2.1.getD 5 0), v27, v29, .string r11.2.2.2.2.1, .string r11.2.2.2.2.2]) rfl rfl rfl z_agg26 rfl rfl rfl ?_
  obtain ⟨r70, hr71, h⟩ := h
  refine st_call (foot := []) rfl rfl rfl rfl rfl rfl (callV_fn z_en12 (msg_Check_ok hr71 τ31 hs28 hs30)) ?_
  rintro vτ72 τ72 gsτ72 hl73 ⟨rfl, rfl⟩
  refine o_ibin (v := .bool (!(decide (r70 = 0)))) rfl rfl rfl rfl rfl rfl ?_
  refine o_moveB rfl rfl rfl rfl (fun hc => ?_) (fun hc => ?_)
  · replace h := (if_pos hc).mp h
    refine Z 5 rfl ?_
    refine st_env (ρ' := [(2, .pointer (some ⟨b9, 0, none⟩)), (3, .pointer (some ⟨b10, 0, none⟩)), (4, .bool false), (16, .bool true)]) ⟨rfl, rfl, rfl, rfl, trivial⟩ ?_
    refine st_ord [1, 0] [[(b9, .cells [.int .i64 r11.1, .int .i64 (r11.2.1.getD 0 0), .int .i64 (r11.2.1.getD 1 0), .int .i64 (r11.2.1.getD 2 0), .int .i64 (r11.2.1.getD 3 0), .int .i64 (r11.2.1.getD 4 0), .int .i64 (r11.2.1.getD 5 0), v27, v29, .string r11.2.2.2.2.1, .string r11.2.2.2.2.2].toArray 26 (0, 0))], [(b10, .cells [.int .i64 r19.1, .int .i64 (r19.2.1.getD 0 0), .int .i64 (r19.2.1.getD 1 0), .int .i64 (r19.2.1.getD 2 0), .int .i64 (r19.2.1.getD 3 0), .int .i64 (r19.2.1.getD 4 0), .int .i64 (r19.2.1.getD 5 0), v23, v24, .string r19.2.2.2.2.1, .string r19.2.2.2.2.2].toArray 26 (0, 0))]] rfl ?_
    exact hk32 _ _ _ ⟨true, h, hl73, rfl, rfl⟩
  · replace h := (if_neg (ne_t hc)).mp h
    refine o_loadN (j := 0) (vs := [.int .i64 r19.1, .int .i64 (r19.2.1.getD 0 0), .int .i64 (r19.2.1.getD 1 0), .int .i64 (r19.2.1.getD 2 0), .int .i64 (r19.2.1.getD 3 0), .int .i64 (r19.2.1.getD 4 0), .int .i64 (r19.2.1.getD 5 0), v23, v24, .string r19.2.2.2.2.1, .string r19.2.2.2.2.2]) rfl rfl rfl z_agg26 rfl rfl rfl ?_
    obtain ⟨r74, hr75, h⟩ := h
    refine st_call (foot := []) rfl rfl rfl rfl rfl rfl (callV_fn z_en12 (msg_Check_ok hr75 τ72 (hs25.up hl73) (hs26.up hl73))) ?_
    rintro vτ76 τ76 gsτ76 hl77 ⟨rfl, rfl⟩
    refine Z 3 rfl ?_
    refine st_env (ρ' := [(2, .pointer (some ⟨b9, 0, none⟩)), (3, .pointer (some ⟨b10, 0, none⟩)), (4, .bool false), (16, .bool (!(decide (r74 = 0))))]) ⟨rfl, rfl, rfl, rfl, trivial⟩ ?_
    refine st_ord [1, 0] [[(b9, .cells [.int .i64 r11.1, .int .i64 (r11.2.1.getD 0 0), .int .i64 (r11.2.1.getD 1 0), .int .i64 (r11.2.1.getD 2 0), .int .i64 (r11.2.1.getD 3 0), .int .i64 (r11.2.1.getD 4 0), .int .i64 (r11.2.1.getD 5 0), v27, v29, .string r11.2.2.2.2.1, .string r11.2.2.2.2.2].toArray 26 (0, 0))], [(b10, .cells [.int .i64 r19.1, .int .i64 (r19.2.1.getD 0 0), .int .i64 (r19.2.1.getD 1 0), .int .i64 (r19.2.1.getD 2 0), .int .i64 (r19.2.1.getD 3 0), .int .i64 (r19.2.1.getD 4 0), .int .i64 (r19.2.1.getD 5 0), v23, v24, .string r19.2.2.2.2.1, .string r19.2.2.2.2.2].toArray 26 (0, 0))]] rfl ?_
    exact hk32 _ _ _ ⟨(!(decide (r74 = 0))), h, (hl73.trans hl77), rfl, rfl⟩
end Go.Rel
