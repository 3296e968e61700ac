import Derived.Test.YtgokdchgjpneoaaDoorURel
import Derived.Test.YtgokdchgjpneoaaDoorUFacts
import Derived.Test.YtgokdchgjpneoaaDoorUWalk0
/-! The walks. -/
set_option linter.unusedVariables false
set_option linter.unusedSimpArgs false
set_option maxRecDepth 4000
set_option maxHeartbeats 4000000
namespace Go.Rel
open Go Go.Eng Go.Proofs
theorem law23_Of_ok {a0 : Int × Int × Int × Int × (Int × List Int × List (Int × Int) × List Int × ByteArray × ByteArray)} {v1 : Value} {v2 : Value} {r : (Int × Int × Int × Int × (Int × List Int × List (List Int) × List Int × ByteArray × ByteArray))} (h : law23_Of a0 r) (σ : Sto) (hs3 : Sl (kP (kI .i64) (kI .i64)) σ v1 a0.2.2.2.2.2.2.1) (hs4 : Sl (kI .i64) σ v2 a0.2.2.2.2.2.2.2.1) :
    Does Tryd.prog 20 [.agg [.int .i64 a0.1, .int .u32 a0.2.1, .int .i64 a0.2.2.1, .int .i64 a0.2.2.2.1, .int .i64 a0.2.2.2.2.1, .int .i64 (a0.2.2.2.2.2.1.getD 0 0), .int .i64 (a0.2.2.2.2.2.1.getD 1 0), .int .i64 (a0.2.2.2.2.2.1.getD 2 0), .int .i64 (a0.2.2.2.2.2.1.getD 3 0), .int .i64 (a0.2.2.2.2.2.1.getD 4 0), .int .i64 (a0.2.2.2.2.2.1.getD 5 0), v1, v2, .string a0.2.2.2.2.2.2.2.2.1, .string a0.2.2.2.2.2.2.2.2.2].toArray] σ [] (fun v τ gs => ∃ (v16 : Value) (v17 : Value), gs = [] ∧ .agg [.int .i64 r.1, .int .u32 r.2.1, .int .i64 r.2.2.1, .int .i64 r.2.2.2.1, .int .i64 r.2.2.2.2.1, .int .i64 (r.2.2.2.2.2.1.getD 0 0), .int .i64 (r.2.2.2.2.2.1.getD 1 0), .int .i64 (r.2.2.2.2.2.1.getD 2 0), .int .i64 (r.2.2.2.2.2.1.getD 3 0), .int .i64 (r.2.2.2.2.2.1.getD 4 0), .int .i64 (r.2.2.2.2.2.1.getD 5 0), v16, v17, .string r.2.2.2.2.2.2.2.2.1, .string r.2.2.2.2.2.2.2.2.2].toArray = v ∧ Sl (kA .i64 2) τ v16 r.2.2.2.2.2.2.1 ∧ Sl (kI .i64) τ v17 r.2.2.2.2.2.2.2.1) := by
  refine call_of Tryd.func20 Tryd.ntmps20 rfl rfl (fun cs fs => ?_)
  refine Z 2 rfl ?_
  refine o_box (cs := [.int .i64 a0.1, .int .u32 a0.2.1, .int .i64 a0.2.2.1, .int .i64 a0.2.2.2.1, .int .i64 a0.2.2.2.2.1, .int .i64 (a0.2.2.2.2.2.1.getD 0 0), .int .i64 (a0.2.2.2.2.2.1.getD 1 0), .int .i64 (a0.2.2.2.2.2.1.getD 2 0), .int .i64 (a0.2.2.2.2.2.1.getD 3 0), .int .i64 (a0.2.2.2.2.2.1.getD 4 0), .int .i64 (a0.2.2.2.2.2.1.getD 5 0), v1, v2, .string a0.2.2.2.2.2.2.2.2.1, .string a0.2.2.2.2.2.2.2.2.2]) rfl rfl rfl rfl rfl (fun b5 => ?_)
  refine o_alloc rfl rfl rfl z_zero42 (fun b6 => ?_)
  refine Z 2 rfl ?_
  obtain ⟨r7, hr8, h⟩ := h
  refine st_draw 12 (tl [fun τ v => (.pointer (some ⟨b5, 0, none⟩) : Value) = v,
    fun τ v => (.int .i64 a0.1 : Value) = v,
    fun τ v => (.pointer (some ⟨b5, 1, none⟩) : Value) = v,
    fun τ v => (.int .u32 a0.2.1 : Value) = v,
    fun τ v => (.pointer (some ⟨b5, 2, none⟩) : Value) = v,
    fun τ v => (.int .i64 a0.2.2.1 : Value) = v,
    fun τ v => (.pointer (some ⟨b5, 3, none⟩) : Value) = v,
    fun τ v => (.int .i64 a0.2.2.2.1 : Value) = v,
    fun τ v => (.pointer (some ⟨b5, 4, none⟩) : Value) = v,
    fun τ v => (.agg [.int .i64 a0.2.2.2.2.1, .int .i64 (a0.2.2.2.2.2.1.getD 0 0), .int .i64 (a0.2.2.2.2.2.1.getD 1 0), .int .i64 (a0.2.2.2.2.2.1.getD 2 0), .int .i64 (a0.2.2.2.2.2.1.getD 3 0), .int .i64 (a0.2.2.2.2.2.1.getD 4 0), .int .i64 (a0.2.2.2.2.2.1.getD 5 0), v1, v2, .string a0.2.2.2.2.2.2.2.2.1, .string a0.2.2.2.2.2.2.2.2.2].toArray : Value) = v,
    fun τ v => ∃ (v11 : Value) (v12 : Value), (.agg [.int .i64 r7.1, .int .i64 (r7.2.1.getD 0 0), .int .i64 (r7.2.1.getD 1 0), .int .i64 (r7.2.1.getD 2 0), .int .i64 (r7.2.1.getD 3 0), .int .i64 (r7.2.1.getD 4 0), .int .i64 (r7.2.1.getD 5 0), v11, v12, .string r7.2.2.2.2.1, .string r7.2.2.2.2.2].toArray : Value) = v ∧ Sl (kA .i64 2) τ v11 r7.2.2.1 ∧ Sl (kI .i64) τ v12 r7.2.2.2.1,
    fun τ v => ∃ (v11 : Value) (v12 : Value), (.agg [.int .i64 a0.1, .int .u32 a0.2.1, .int .i64 a0.2.2.1, .int .i64 a0.2.2.2.1, .int .i64 r7.1, .int .i64 (r7.2.1.getD 0 0), .int .i64 (r7.2.1.getD 1 0), .int .i64 (r7.2.1.getD 2 0), .int .i64 (r7.2.1.getD 3 0), .int .i64 (r7.2.1.getD 4 0), .int .i64 (r7.2.1.getD 5 0), v11, v12, .string r7.2.2.2.2.1, .string r7.2.2.2.2.2].toArray : Value) = v ∧ Sl (kA .i64 2) τ v11 r7.2.2.1 ∧ Sl (kI .i64) τ v12 r7.2.2.2.1]) (fun _ _ => []) z_mix rfl (tl_mono ⟨fun _ _ _ _ h => h, ⟨fun _ _ _ _ h => h, ⟨fun _ _ _ _ h => h, ⟨fun _ _ _ _ h => h, ⟨fun _ _ _ _ h => h, ⟨fun _ _ _ _ h => h, ⟨fun _ _ _ _ h => h, ⟨fun _ _ _ _ h => h, ⟨fun _ _ _ _ h => h, ⟨fun _ _ _ _ h => h, ⟨fun _ _ _ hl ⟨v11, v12, hv, hs13, hs14⟩ => ⟨v11, v12, hv, hs13.up hl, hs14.up hl⟩, ⟨fun _ _ _ hl ⟨v11, v12, hv, hs13, hs14⟩ => ⟨v11, v12, hv, hs13.up hl, hs14.up hl⟩, trivial⟩⟩⟩⟩⟩⟩⟩⟩⟩⟩⟩⟩) (allB_cons (allB_cons (allB_cons (allB_cons (allB_cons (allB_cons (allB_cons (allB_cons (allB_cons (allB_cons (allB_cons (allB_cons allB_nil ?_) ?_) ?_) ?_) ?_) ?_) ?_) ?_) ?_) ?_) ?_) ?_) ?_
  · intro ρ' τ pool rs hl hd hout hk
    refine o_fieldAddr rfl rfl rfl z_field35_0 ((hout 1 rfl).trans rfl) ?_
    exact st_addNil (hk _ _ (Sto.Le.refl _) rfl)
  · intro ρ' τ pool rs hl hd hout hk
    obtain ⟨_, e0, rfl⟩ := hd 0 rfl
    refine o_load (j := 1) (v := .int .i64 a0.1) rfl rfl rfl z_sc3 e0 rfl rfl ?_
    exact st_addNil (hk _ _ (Sto.Le.refl _) rfl)
  · intro ρ' τ pool rs hl hd hout hk
    refine o_fieldAddr rfl rfl rfl z_field35_1 ((hout 1 rfl).trans rfl) ?_
    exact st_addNil (hk _ _ (Sto.Le.refl _) rfl)
  · intro ρ' τ pool rs hl hd hout hk
    obtain ⟨_, e2, rfl⟩ := hd 2 rfl
    refine o_load (j := 1) (v := .int .u32 a0.2.1) rfl rfl rfl z_sc33 e2 rfl rfl ?_
    exact st_addNil (hk _ _ (Sto.Le.refl _) rfl)
  · intro ρ' τ pool rs hl hd hout hk
    refine o_fieldAddr rfl rfl rfl z_field35_2 ((hout 1 rfl).trans rfl) ?_
    exact st_addNil (hk _ _ (Sto.Le.refl _) rfl)
  · intro ρ' τ pool rs hl hd hout hk
    obtain ⟨_, e4, rfl⟩ := hd 4 rfl
    refine o_load (j := 1) (v := .int .i64 a0.2.2.1) rfl rfl rfl z_sc3 e4 rfl rfl ?_
    exact st_addNil (hk _ _ (Sto.Le.refl _) rfl)
  · intro ρ' τ pool rs hl hd hout hk
    refine o_fieldAddr rfl rfl rfl z_field35_3 ((hout 1 rfl).trans rfl) ?_
    exact st_addNil (hk _ _ (Sto.Le.refl _) rfl)
  · intro ρ' τ pool rs hl hd hout hk
    obtain ⟨_, e6, rfl⟩ := hd 6 rfl
    refine o_load (j := 1) (v := .int .i64 a0.2.2.2.1) rfl rfl rfl z_sc28 e6 rfl rfl ?_
    exact st_addNil (hk _ _ (Sto.Le.refl _) rfl)
  · intro ρ' τ pool rs hl hd hout hk
    refine o_fieldAddr rfl rfl rfl z_field35_4 ((hout 1 rfl).trans rfl) ?_
    exact st_addNil (hk _ _ (Sto.Le.refl _) rfl)
  · intro ρ' τ pool rs hl hd hout hk
    obtain ⟨_, e8, rfl⟩ := hd 8 rfl
    refine o_loadN (j := 1) (vs := [.int .i64 a0.2.2.2.2.1, .int .i64 (a0.2.2.2.2.2.1.getD 0 0), .int .i64 (a0.2.2.2.2.2.1.getD 1 0), .int .i64 (a0.2.2.2.2.2.1.getD 2 0), .int .i64 (a0.2.2.2.2.2.1.getD 3 0), .int .i64 (a0.2.2.2.2.2.1.getD 4 0), .int .i64 (a0.2.2.2.2.2.1.getD 5 0), v1, v2, .string a0.2.2.2.2.2.2.2.2.1, .string a0.2.2.2.2.2.2.2.2.2]) rfl rfl rfl z_agg26 e8 rfl rfl ?_
    exact st_addNil (hk _ _ (Sto.Le.refl _) rfl)
  · intro ρ' τ pool rs hl hd hout hk
    obtain ⟨_, e9, rfl⟩ := hd 9 rfl
    refine st_call (foot := []) rfl rfl rfl rfl (evs_cons e9 rfl) rfl (callV_fn z_en18 (law17_Of_ok hr8 τ (hs3.up hl) (hs4.up hl))) ?_
    rintro vτ9 τ9 gsτ9 hl10 ⟨v11, v12, rfl, rfl, hs13, hs14⟩
    exact st_addNil (hk _ _ hl10 ⟨v11, v12, rfl, hs13, hs14⟩)
  · intro ρ' τ pool rs hl hd hout hk
    obtain ⟨_, e1, rfl⟩ := hd 1 rfl
    obtain ⟨_, e3, rfl⟩ := hd 3 rfl
    obtain ⟨_, e5, rfl⟩ := hd 5 rfl
    obtain ⟨_, e7, rfl⟩ := hd 7 rfl
    obtain ⟨_, e10, v11, v12, rfl, hs13, hs14⟩ := hd 10 rfl
    refine o_build (ps := [(0, [.int .i64 a0.1]), (1, [.int .u32 a0.2.1]), (2, [.int .i64 a0.2.2.1]), (3, [.int .i64 a0.2.2.2.1]), (4, [.int .i64 r7.1, .int .i64 (r7.2.1.getD 0 0), .int .i64 (r7.2.1.getD 1 0), .int .i64 (r7.2.1.getD 2 0), .int .i64 (r7.2.1.getD 3 0), .int .i64 (r7.2.1.getD 4 0), .int .i64 (r7.2.1.getD 5 0), v11, v12, .string r7.2.2.2.2.1, .string r7.2.2.2.2.2])]) (cs := [.int .i64 a0.1, .int .u32 a0.2.1, .int .i64 a0.2.2.1, .int .i64 a0.2.2.2.1, .int .i64 r7.1, .int .i64 (r7.2.1.getD 0 0), .int .i64 (r7.2.1.getD 1 0), .int .i64 (r7.2.1.getD 2 0), .int .i64 (r7.2.1.getD 3 0), .int .i64 (r7.2.1.getD 4 0), .int .i64 (r7.2.1.getD 5 0), v11, v12, .string r7.2.2.2.2.1, .string r7.2.2.2.2.2]) rfl rfl rfl z_struct42 ⟨rfl, ⟨_, e1, rfl⟩, ⟨rfl, ⟨_, e3, rfl⟩, ⟨rfl, ⟨_, e5, rfl⟩, ⟨rfl, ⟨_, e7, rfl⟩, ⟨rfl, ⟨_, e10, rfl⟩, trivial⟩⟩⟩⟩⟩ rfl ?_
    exact st_addNil (hk _ _ (Sto.Le.refl _) ⟨v11, v12, rfl, hs13, hs14⟩)
  intro ρ' τ15 vals hl15 hv hout
  obtain ⟨l11, v11, v12, t11, hs13, hs14⟩ := hv 11 (by decide)
  replace l11 : Eng.look ρ' 14 = some (.agg [.int .i64 a0.1, .int .u32 a0.2.1, .int .i64 a0.2.2.1, .int .i64 a0.2.2.2.1, .int .i64 r7.1, .int .i64 (r7.2.1.getD 0 0), .int .i64 (r7.2.1.getD 1 0), .int .i64 (r7.2.1.getD 2 0), .int .i64 (r7.2.1.getD 3 0), .int .i64 (r7.2.1.getD 4 0), .int .i64 (r7.2.1.getD 5 0), v11, v12, .string r7.2.2.2.2.1, .string r7.2.2.2.2.2].toArray) := l11.trans (congrArg some (Eq.symm t11))
  refine st_ord [0, 0] [[(b6, .cells [.int .i64 0, .int .u32 0, .int .i64 0, .int .i64 0, .int .i64 0, .int .i64 0, .int .i64 0, .int .i64 0, .int .i64 0, .int .i64 0, .int .i64 0, .slice none 0 0, .slice none 0 0, .string (bstr []), .string (bstr [])].toArray 42 (0, 0))], [(b5, .cells [.int .i64 a0.1, .int .u32 a0.2.1, .int .i64 a0.2.2.1, .int .i64 a0.2.2.2.1, .int .i64 a0.2.2.2.2.1, .int .i64 (a0.2.2.2.2.2.1.getD 0 0), .int .i64 (a0.2.2.2.2.2.1.getD 1 0), .int .i64 (a0.2.2.2.2.2.1.getD 2 0), .int .i64 (a0.2.2.2.2.2.1.getD 3 0), .int .i64 (a0.2.2.2.2.2.1.getD 4 0), .int .i64 (a0.2.2.2.2.2.1.getD 5 0), v1, v2, .string a0.2.2.2.2.2.2.2.2.1, .string a0.2.2.2.2.2.2.2.2.2].toArray 35 (0, 0))]] rfl ?_
  refine st_env (ρ' := [(14, .agg [.int .i64 a0.1, .int .u32 a0.2.1, .int .i64 a0.2.2.1, .int .i64 a0.2.2.2.1, .int .i64 r7.1, .int .i64 (r7.2.1.getD 0 0), .int .i64 (r7.2.1.getD 1 0), .int .i64 (r7.2.1.getD 2 0), .int .i64 (r7.2.1.getD 3 0), .int .i64 (r7.2.1.getD 4 0), .int .i64 (r7.2.1.getD 5 0), v11, v12, .string r7.2.2.2.2.1, .string r7.2.2.2.2.2].toArray), (2, .pointer (some ⟨b6, 0, none⟩))]) ⟨l11, (hout 2 rfl).trans rfl, trivial⟩ ?_
  refine o_store (j := 0) (vs := [.int .i64 a0.1, .int .u32 a0.2.1, .int .i64 a0.2.2.1, .int .i64 a0.2.2.2.1, .int .i64 r7.1, .int .i64 (r7.2.1.getD 0 0), .int .i64 (r7.2.1.getD 1 0), .int .i64 (r7.2.1.getD 2 0), .int .i64 (r7.2.1.getD 3 0), .int .i64 (r7.2.1.getD 4 0), .int .i64 (r7.2.1.getD 5 0), v11, v12, .string r7.2.2.2.2.1, .string r7.2.2.2.2.2]) (cs' := [.int .i64 a0.1, .int .u32 a0.2.1, .int .i64 a0.2.2.1, .int .i64 a0.2.2.2.1, .int .i64 r7.1, .int .i64 (r7.2.1.getD 0 0), .int .i64 (r7.2.1.getD 1 0), .int .i64 (r7.2.1.getD 2 0), .int .i64 (r7.2.1.getD 3 0), .int .i64 (r7.2.1.getD 4 0), .int .i64 (r7.2.1.getD 5 0), v11, v12, .string r7.2.2.2.2.1, .string r7.2.2.2.2.2]) rfl rfl rfl z_size42 rfl rfl rfl (ones_cons rfl (ones_cons rfl (ones_cons rfl (ones_cons rfl (ones_cons rfl (ones_cons rfl (ones_cons rfl (ones_cons rfl (ones_cons rfl (ones_cons rfl (ones_cons rfl (ones_cons hs13.one' (ones_cons hs14.one' (ones_cons rfl (ones_cons rfl ones_nil))))))))))))))) rfl rfl rfl ?_
  refine st_gs [[(b6, .cells [.int .i64 a0.1, .int .u32 a0.2.1, .int .i64 a0.2.2.1, .int .i64 a0.2.2.2.1, .int .i64 r7.1, .int .i64 (r7.2.1.getD 0 0), .int .i64 (r7.2.1.getD 1 0), .int .i64 (r7.2.1.getD 2 0), .int .i64 (r7.2.1.getD 3 0), .int .i64 (r7.2.1.getD 4 0), .int .i64 (r7.2.1.getD 5 0), v11, v12, .string r7.2.2.2.2.1, .string r7.2.2.2.2.2].toArray 42 (0, 0))], [(b5, .cells [.int .i64 a0.1, .int .u32 a0.2.1, .int .i64 a0.2.2.1, .int .i64 a0.2.2.2.1, .int .i64 a0.2.2.2.2.1, .int .i64 (a0.2.2.2.2.2.1.getD 0 0), .int .i64 (a0.2.2.2.2.2.1.getD 1 0), .int .i64 (a0.2.2.2.2.2.1.getD 2 0), .int .i64 (a0.2.2.2.2.2.1.getD 3 0), .int .i64 (a0.2.2.2.2.2.1.getD 4 0), .int .i64 (a0.2.2.2.2.2.1.getD 5 0), v1, v2, .string a0.2.2.2.2.2.2.2.2.1, .string a0.2.2.2.2.2.2.2.2.2].toArray 35 (0, 0))]] rfl ?_
  refine st_end ?_
  obtain rfl := Eq.symm h
  exact st_retC (gs' := []) [.agg [.int .i64 a0.1, .int .u32 a0.2.1, .int .i64 a0.2.2.1, .int .i64 a0.2.2.2.1, .int .i64 r7.1, .int .i64 (r7.2.1.getD 0 0), .int .i64 (r7.2.1.getD 1 0), .int .i64 (r7.2.1.getD 2 0), .int .i64 (r7.2.1.getD 3 0), .int .i64 (r7.2.1.getD 4 0), .int .i64 (r7.2.1.getD 5 0), v11, v12, .string r7.2.2.2.2.1, .string r7.2.2.2.2.2].toArray] Tryd.func20 ⟨⟨_, _, _, _, rfl, mem_flat 0 rfl, fun w hw => cellOfN (vs := [.int .i64 a0.1, .int .u32 a0.2.1, .int .i64 a0.2.2.1, .int .i64 a0.2.2.2.1, .int .i64 r7.1, .int .i64 (r7.2.1.getD 0 0), .int .i64 (r7.2.1.getD 1 0), .int .i64 (r7.2.1.getD 2 0), .int .i64 (r7.2.1.getD 3 0), .int .i64 (r7.2.1.getD 4 0), .int .i64 (r7.2.1.getD 5 0), v11, v12, .string r7.2.2.2.2.1, .string r7.2.2.2.2.2]) z_agg42 rfl w hw⟩, trivial⟩ (by simp) hl15 ⟨_, _, rfl, rfl, hs13, hs14⟩
theorem ref01_Ints_ok {a0 : List Int} {a1 : List Int} {v1 : Value} {v3 : Value} {r : Bool} (h : ref01_Ints a0 a1 r) (σ : Sto) (hs2 : Sl (kI .i64) σ v1 a0) (hs4 : Sl (kI .i64) σ v3 a1) :
    Does Tryd.prog 113 [v1, v3] σ [] (fun v τ gs => gs = [] ∧ .bool r = v) := by
  refine call_of Tryd.func113 Tryd.ntmps113 rfl rfl (fun cs fs => ?_)
  refine Z 8 rfl ?_
  refine o_lenI rfl rfl rfl z_slT24 rfl hs2 ?_
  refine o_move rfl rfl rfl rfl ?_
  refine o_lenI rfl rfl rfl z_slT24 rfl hs4 ?_
  refine Z 2 rfl ?_
  refine st_cond rfl (fun hc => ?_) (fun hc => ?_)
  · replace h := (if_pos hc).mp h
    refine Z 4 rfl ?_
    obtain rfl := Eq.symm h
    exact st_ret (gs' := []) Tryd.func113 rfl (List.Sublist.refl _) (Sto.Le.refl _) ⟨rfl, rfl⟩
  · replace h := (if_neg (ne_t hc)).mp h
    refine Z 2 rfl ?_
    refine st_cut (fun ρ τ5 gs => ∃ (s5 : Unit), ref01_Ints_j1 s5 r ∧ σ.Le τ5 ∧ ρ = [(4, .bool false)] ∧ gs = []) ?_ (fun hk5 => ?_)
    · rintro ρ5 τ5 gs5 ⟨s5, h, hl5, rfl, rfl⟩
      refine Z 4 rfl ?_
      obtain rfl := Eq.symm h
      exact st_ret (gs' := []) Tryd.func113 rfl (List.Sublist.refl _) hl5 ⟨rfl, rfl⟩
    refine Z 4 rfl ?_
    obtain ⟨e6, hL6, hA6⟩ := h
    refine st_env (ρ' := [(0, v1), (1, v3), (4, .bool false), (5, .int .i64 0)]) ⟨rfl, rfl, rfl, rfl, trivial⟩ ?_
    refine st_loop hL6 (fun (s6 : Int) ρ τ6 gs => σ.Le τ6 ∧ ρ = [(0, v1), (1, v3), (4, .bool false), (5, .int .i64 s6)] ∧ gs = []) ⟨Sto.Le.refl _, rfl, rfl⟩ ?_
    rintro s6 o6 h he6 ρ6 τ6 gs6 ⟨hl6, rfl, rfl⟩ hn6
    refine Z 5 rfl ?_
    refine o_lenI rfl rfl rfl z_slT24 rfl (hs2.up hl6) ?_
    refine Z 2 rfl ?_
    refine st_cond rfl (fun hc => ?_) (fun hc => ?_)
    · replace h := (if_pos hc).mp h
      refine Z 4 rfl ?_
      obtain ⟨q7, hf8, q12, hf13, h⟩ := h
      refine st_draw 9 (tl [fun τ v => (v1 : Value) = v,
    fun τ v => (.int .i64 s6 : Value) = v,
    fun τ v => ∃ (b9 : Nat) (of10 : Nat) (vsb9 : List Value), (.pointer (some ⟨b9, of10, none⟩) : Value) = v ∧ CelN τ ⟨b9, of10, none⟩ vsb9 ∧ (kI .i64).rep τ vsb9 q7,
    fun τ v => (.int .i64 q7 : Value) = v,
    fun τ v => (v3 : Value) = v,
    fun τ v => (.int .i64 s6 : Value) = v,
    fun τ v => ∃ (b14 : Nat) (of15 : Nat) (vsb14 : List Value), (.pointer (some ⟨b14, of15, none⟩) : Value) = v ∧ CelN τ ⟨b14, of15, none⟩ vsb14 ∧ (kI .i64).rep τ vsb14 q12,
    fun τ v => (.int .i64 q12 : Value) = v,
    fun τ v => (.bool (!(decide (q7 = q12))) : Value) = v]) (fun _ _ => []) z_mix rfl (tl_mono ⟨fun _ _ _ _ h => h, ⟨fun _ _ _ _ h => h, ⟨fun _ _ _ hl ⟨b9, of10, vsb9, hv, hc11, hrepb9⟩ => ⟨b9, of10, vsb9, hv, hc11.up hl, Kd.mono _ hl hrepb9⟩, ⟨fun _ _ _ _ h => h, ⟨fun _ _ _ _ h => h, ⟨fun _ _ _ _ h => h, ⟨fun _ _ _ hl ⟨b14, of15, vsb14, hv, hc16, hrepb14⟩ => ⟨b14, of15, vsb14, hv, hc16.up hl, Kd.mono _ hl hrepb14⟩, ⟨fun _ _ _ _ h => h, ⟨fun _ _ _ _ h => h, trivial⟩⟩⟩⟩⟩⟩⟩⟩⟩) (allB_cons (allB_cons (allB_cons (allB_cons (allB_cons (allB_cons (allB_cons (allB_cons (allB_cons allB_nil ?_) ?_) ?_) ?_) ?_) ?_) ?_) ?_) ?_) ?_
      · intro ρ' τ pool rs hl hd hout hk
        refine o_move rfl rfl rfl ((hout 0 rfl).trans rfl) ?_
        exact st_addNil (hk _ _ (Sto.Le.refl _) rfl)
      · intro ρ' τ pool rs hl hd hout hk
        refine o_move rfl rfl rfl ((hout 5 rfl).trans rfl) ?_
        exact st_addNil (hk _ _ (Sto.Le.refl _) rfl)
      · intro ρ' τ pool rs hl hd hout hk
        obtain ⟨_, e0, rfl⟩ := hd 0 rfl
        obtain ⟨_, e1, rfl⟩ := hd 1 rfl
        refine o_index rfl rfl rfl z_slT24 rfl e0 (hs2.up (hl6.trans hl)) e1 hf8 (fun b9 of10 vsb9 hc11 hrepb9 => ?_)
        exact st_addNil (hk _ _ (Sto.Le.refl _) ⟨b9, of10, _, rfl, hc11, hrepb9⟩)
      · intro ρ' τ pool rs hl hd hout hk
        obtain ⟨_, e2, b9, of10, vsb9, rfl, hc11, hrepb9⟩ := hd 2 rfl
        have hrepb9 := hrepb9
        obtain rfl := hrepb9
        refine o_loadI (v := .int .i64 q7) rfl rfl rfl z_sc3 e2 (hc11 0 _ rfl) ?_
        exact st_addNil (hk _ _ (Sto.Le.refl _) rfl)
      · intro ρ' τ pool rs hl hd hout hk
        refine o_move rfl rfl rfl ((hout 1 rfl).trans rfl) ?_
        exact st_addNil (hk _ _ (Sto.Le.refl _) rfl)
      · intro ρ' τ pool rs hl hd hout hk
        refine o_move rfl rfl rfl ((hout 5 rfl).trans rfl) ?_
        exact st_addNil (hk _ _ (Sto.Le.refl _) rfl)
      · intro ρ' τ pool rs hl hd hout hk
        obtain ⟨_, e4, rfl⟩ := hd 4 rfl
        obtain ⟨_, e5, rfl⟩ := hd 5 rfl
        refine o_index rfl rfl rfl z_slT24 rfl e4 (hs4.up (hl6.trans hl)) e5 hf13 (fun b14 of15 vsb14 hc16 hrepb14 => ?_)
        exact st_addNil (hk _ _ (Sto.Le.refl _) ⟨b14, of15, _, rfl, hc16, hrepb14⟩)
      · intro ρ' τ pool rs hl hd hout hk
        obtain ⟨_, e6, b14, of15, vsb14, rfl, hc16, hrepb14⟩ := hd 6 rfl
        have hrepb14 := hrepb14
        obtain rfl := hrepb14
        refine o_loadI (v := .int .i64 q12) rfl rfl rfl z_sc3 e6 (hc16 0 _ rfl) ?_
        exact st_addNil (hk _ _ (Sto.Le.refl _) rfl)
      · intro ρ' τ pool rs hl hd hout hk
        obtain ⟨_, e3, rfl⟩ := hd 3 rfl
        obtain ⟨_, e7, rfl⟩ := hd 7 rfl
        refine o_ibin (v := .bool (!(decide (q7 = q12)))) rfl rfl rfl e3 e7 rfl ?_
        exact st_addNil (hk _ _ (Sto.Le.refl _) rfl)
      intro ρ' τ17 vals hl17 hv hout
      have l8 : Eng.look ρ' 25 = some (.bool (!(decide (q7 = q12)))) := ((hv 8 (by decide)).1).trans (congrArg some (show vals 8 = .bool (!(decide (q7 = q12))) from Eq.symm (hv 8 (by decide)).2))
      refine st_ord [] [] rfl ?_
      refine st_env (ρ' := [(25, .bool (!(decide (q7 = q12)))), (0, v1), (1, v3), (4, .bool false), (5, .int .i64 s6)]) ⟨l8, (hout 0 rfl).trans rfl, (hout 1 rfl).trans rfl, (hout 4 rfl).trans rfl, (hout 5 rfl).trans rfl, trivial⟩ ?_
      refine st_end ?_
      refine st_cond rfl (fun hc => ?_) (fun hc => ?_)
      · replace h := (if_pos hc).mp h
        refine Z 4 rfl ?_
        obtain rfl := he6 _ h
        replace h := hA6
        obtain rfl := Eq.symm h
        exact st_ret (gs' := []) Tryd.func113 rfl (List.Sublist.refl _) (hl6.trans hl17) ⟨rfl, rfl⟩
      · replace h := (if_neg (ne_t hc)).mp h
        refine Z 7 rfl ?_
        refine st_env (ρ' := [(0, v1), (1, v3), (4, .bool false), (5, .int .i64 (IntKind.i64.wrap (s6 + 1)))]) ⟨rfl, rfl, rfl, rfl, trivial⟩ ?_
        exact hn6 _ _ _ _ h ⟨(hl6.trans hl17), rfl, rfl⟩
    · replace h := (if_neg (ne_t hc)).mp h
      refine st_exit rfl ?_
      obtain rfl := he6 _ h
      replace h := hA6
      refine st_env (ρ' := [(4, .bool false)]) ⟨rfl, trivial⟩ ?_
      exact hk5 _ _ _ ⟨(), h, hl6, rfl, rfl⟩
theorem ref17_Same_ok {a0 : Int × List Int × List (List Int) × List Int × ByteArray × ByteArray} {a1 : Int × List Int × List (List Int) × List Int × ByteArray × ByteArray} {v1 : Value} {v2 : Value} {v5 : Value} {v6 : Value} {r : Bool} (h : ref17_Same a0 a1 r) (σ : Sto) (hs3 : Sl (kA .i64 2) σ v1 a0.2.2.1) (hs4 : Sl (kI .i64) σ v2 a0.2.2.2.1) (hs7 : Sl (kA .i64 2) σ v5 a1.2.2.1) (hs8 : Sl (kI .i64) σ v6 a1.2.2.2.1) :
    Does Tryd.prog 76 [.agg [.int .i64 a0.1, .int .i64 (a0.2.1.getD 0 0), .int .i64 (a0.2.1.getD 1 0), .int .i64 (a0.2.1.getD 2 0), .int .i64 (a0.2.1.getD 3 0), .int .i64 (a0.2.1.getD 4 0), .int .i64 (a0.2.1.getD 5 0), v1, v2, .string a0.2.2.2.2.1, .string a0.2.2.2.2.2].toArray, .agg [.int .i64 a1.1, .int .i64 (a1.2.1.getD 0 0), .int .i64 (a1.2.1.getD 1 0), .int .i64 (a1.2.1.getD 2 0), .int .i64 (a1.2.1.getD 3 0), .int .i64 (a1.2.1.getD 4 0), .int .i64 (a1.2.1.getD 5 0), v5, v6, .string a1.2.2.2.2.1, .string a1.2.2.2.2.2].toArray] σ [] (fun v τ gs => gs = [] ∧ .bool r = v) := by
  refine call_of Tryd.func76 Tryd.ntmps76 rfl rfl (fun cs fs => ?_)
  refine Z 2 rfl ?_
  refine o_box (cs := [.int .i64 a0.1, .int .i64 (a0.2.1.getD 0 0), .int .i64 (a0.2.1.getD 1 0), .int .i64 (a0.2.1.getD 2 0), .int .i64 (a0.2.1.getD 3 0), .int .i64 (a0.2.1.getD 4 0), .int .i64 (a0.2.1.getD 5 0), v1, v2, .string a0.2.2.2.2.1, .string a0.2.2.2.2.2]) rfl rfl rfl rfl rfl (fun b9 => ?_)
  refine o_box (cs := [.int .i64 a1.1, .int .i64 (a1.2.1.getD 0 0), .int .i64 (a1.2.1.getD 1 0), .int .i64 (a1.2.1.getD 2 0), .int .i64 (a1.2.1.getD 3 0), .int .i64 (a1.2.1.getD 4 0), .int .i64 (a1.2.1.getD 5 0), v5, v6, .string a1.2.2.2.2.1, .string a1.2.2.2.2.2]) rfl rfl rfl rfl rfl (fun b10 => ?_)
  refine Z 4 rfl ?_
  refine st_cut (fun ρ τ11 gs => ∃ (s11 : Bool), ref17_Same_j1 a0 a1 s11 r ∧ σ.Le τ11 ∧ ρ = [(2, .pointer (some ⟨b9, 0, none⟩)), (3, .pointer (some ⟨b10, 0, none⟩)), (4, .bool false), (48, .bool s11)] ∧ gs = [[(b9, .cells [.int .i64 a0.1, .int .i64 (a0.2.1.getD 0 0), .int .i64 (a0.2.1.getD 1 0), .int .i64 (a0.2.1.getD 2 0), .int .i64 (a0.2.1.getD 3 0), .int .i64 (a0.2.1.getD 4 0), .int .i64 (a0.2.1.getD 5 0), v1, v2, .string a0.2.2.2.2.1, .string a0.2.2.2.2.2].toArray 39 (0, 0))], [(b10, .cells [.int .i64 a1.1, .int .i64 (a1.2.1.getD 0 0), .int .i64 (a1.2.1.getD 1 0), .int .i64 (a1.2.1.getD 2 0), .int .i64 (a1.2.1.getD 3 0), .int .i64 (a1.2.1.getD 4 0), .int .i64 (a1.2.1.getD 5 0), v5, v6, .string a1.2.2.2.2.1, .string a1.2.2.2.2.2].toArray 39 (0, 0))]]) ?_ (fun hk11 => ?_)
  · rintro ρ11 τ11 gs11 ⟨s11, h, hl11, rfl, rfl⟩
    refine st_cond rfl (fun hc => ?_) (fun hc => ?_)
    · replace h := (if_pos hc).mp h
      refine Z 4 rfl ?_
      refine st_ord [] [] rfl ?_
      obtain rfl := Eq.symm h
      exact st_ret (gs' := []) Tryd.func76 rfl (List.Sublist.refl _) hl11 ⟨rfl, rfl⟩
    · replace h := (if_neg (ne_t hc)).mp h
      refine Z 2 rfl ?_
      refine st_cut (fun ρ τ12 gs => ∃ (s12 : Unit), ref17_Same_j2 s12 r ∧ τ11.Le τ12 ∧ ρ = [(4, .bool false)] ∧ gs = []) ?_ (fun hk12 => ?_)
      · rintro ρ12 τ12 gs12 ⟨s12, h, hl12, rfl, rfl⟩
        refine Z 4 rfl ?_
        obtain rfl := Eq.symm h
        exact st_ret (gs' := []) Tryd.func76 rfl (List.Sublist.refl _) (hl11.trans hl12) ⟨rfl, rfl⟩
      refine Z 4 rfl ?_
      obtain ⟨e13, hL13, hA13⟩ := h
      refine st_env (ρ' := [(2, .pointer (some ⟨b9, 0, none⟩)), (3, .pointer (some ⟨b10, 0, none⟩)), (4, .bool false), (5, .int .i64 0)]) ⟨rfl, rfl, rfl, rfl, trivial⟩ ?_
      refine st_loop hL13 (fun (s13 : Int) ρ τ13 gs => τ11.Le τ13 ∧ ρ = [(2, .pointer (some ⟨b9, 0, none⟩)), (3, .pointer (some ⟨b10, 0, none⟩)), (4, .bool false), (5, .int .i64 s13)] ∧ gs = [[(b9, .cells [.int .i64 a0.1, .int .i64 (a0.2.1.getD 0 0), .int .i64 (a0.2.1.getD 1 0), .int .i64 (a0.2.1.getD 2 0), .int .i64 (a0.2.1.getD 3 0), .int .i64 (a0.2.1.getD 4 0), .int .i64 (a0.2.1.getD 5 0), v1, v2, .string a0.2.2.2.2.1, .string a0.2.2.2.2.2].toArray 39 (0, 0))], [(b10, .cells [.int .i64 a1.1, .int .i64 (a1.2.1.getD 0 0), .int .i64 (a1.2.1.getD 1 0), .int .i64 (a1.2.1.getD 2 0), .int .i64 (a1.2.1.getD 3 0), .int .i64 (a1.2.1.getD 4 0), .int .i64 (a1.2.1.getD 5 0), v5, v6, .string a1.2.2.2.2.1, .string a1.2.2.2.2.2].toArray 39 (0, 0))]]) ⟨Sto.Le.refl _, rfl, rfl⟩ ?_
      rintro s13 o13 h he13 ρ13 τ13 gs13 ⟨hl13, rfl, rfl⟩ hn13
      refine Z 5 rfl ?_
      refine o_load (j := 0) (v := v1) rfl rfl rfl z_sc37 rfl rfl rfl ?_
      refine o_lenI rfl rfl rfl z_slT37 rfl (hs3.up (hl11.trans hl13)) ?_
      refine Z 2 rfl ?_
      refine st_cond rfl (fun hc => ?_) (fun hc => ?_)
      · replace h := (if_pos hc).mp h
        refine Z 4 rfl ?_
        obtain ⟨q14, hf15, q19, hf20, h⟩ := h
        refine st_draw 11 (tl [fun τ v => (.pointer (some ⟨b9, 7, none⟩) : Value) = v,
    fun τ v => (v1 : Value) = v,
    fun τ v => (.int .i64 s13 : Value) = v,
    fun τ v => ∃ (b16 : Nat) (of17 : Nat) (vsb16 : List Value), (.pointer (some ⟨b16, of17, none⟩) : Value) = v ∧ CelN τ ⟨b16, of17, none⟩ vsb16 ∧ (kA .i64 2).rep τ vsb16 q14,
    fun τ v => (.agg [.int .i64 (q14.getD 0 0), .int .i64 (q14.getD 1 0)].toArray : Value) = v,
    fun τ v => (.pointer (some ⟨b10, 7, none⟩) : Value) = v,
    fun τ v => (v5 : Value) = v,
    fun τ v => (.int .i64 s13 : Value) = v,
    fun τ v => ∃ (b21 : Nat) (of22 : Nat) (vsb21 : List Value), (.pointer (some ⟨b21, of22, none⟩) : Value) = v ∧ CelN τ ⟨b21, of22, none⟩ vsb21 ∧ (kA .i64 2).rep τ vsb21 q19,
    fun τ v => (.agg [.int .i64 (q19.getD 0 0), .int .i64 (q19.getD 1 0)].toArray : Value) = v,
    fun τ v => (.bool (!(eqN 2 0 q14 q19)) : Value) = v]) (fun _ _ => []) z_mix rfl (tl_mono ⟨fun _ _ _ _ h => h, ⟨fun _ _ _ _ h => h, ⟨fun _ _ _ _ h => h, ⟨fun _ _ _ hl ⟨b16, of17, vsb16, hv, hc18, hrepb16⟩ => ⟨b16, of17, vsb16, hv, hc18.up hl, Kd.mono _ hl hrepb16⟩, ⟨fun _ _ _ _ h => h, ⟨fun _ _ _ _ h => h, ⟨fun _ _ _ _ h => h, ⟨fun _ _ _ _ h => h, ⟨fun _ _ _ hl ⟨b21, of22, vsb21, hv, hc23, hrepb21⟩ => ⟨b21, of22, vsb21, hv, hc23.up hl, Kd.mono _ hl hrepb21⟩, ⟨fun _ _ _ _ h => h, ⟨fun _ _ _ _ h => h, trivial⟩⟩⟩⟩⟩⟩⟩⟩⟩⟩⟩) (allB_cons (allB_cons (allB_cons (allB_cons (allB_cons (allB_cons (allB_cons (allB_cons (allB_cons (allB_cons (allB_cons allB_nil ?_) ?_) ?_) ?_) ?_) ?_) ?_) ?_) ?_) ?_) ?_) ?_
        · intro ρ' τ pool rs hl hd hout hk
          refine o_fieldAddr rfl rfl rfl z_field39_2 ((hout 2 rfl).trans rfl) ?_
          exact st_addNil (hk _ _ (Sto.Le.refl _) rfl)
        · intro ρ' τ pool rs hl hd hout hk
          obtain ⟨_, e0, rfl⟩ := hd 0 rfl
          refine o_load (j := 0) (v := v1) rfl rfl rfl z_sc37 e0 rfl rfl ?_
          exact st_addNil (hk _ _ (Sto.Le.refl _) rfl)
        · intro ρ' τ pool rs hl hd hout hk
          refine o_move rfl rfl rfl ((hout 5 rfl).trans rfl) ?_
          exact st_addNil (hk _ _ (Sto.Le.refl _) rfl)
        · intro ρ' τ pool rs hl hd hout hk
          obtain ⟨_, e1, rfl⟩ := hd 1 rfl
          obtain ⟨_, e2, rfl⟩ := hd 2 rfl
          refine o_index rfl rfl rfl z_slT37 rfl e1 (hs3.up ((hl11.trans hl13).trans hl)) e2 hf15 (fun b16 of17 vsb16 hc18 hrepb16 => ?_)
          exact st_addNil (hk _ _ (Sto.Le.refl _) ⟨b16, of17, _, rfl, hc18, hrepb16⟩)
        · intro ρ' τ pool rs hl hd hout hk
          obtain ⟨_, e3, b16, of17, vsb16, rfl, hc18, hrepb16⟩ := hd 3 rfl
          have hrepb16 := hrepb16
          obtain rfl := hrepb16
          refine o_loadIN (vs := [.int .i64 (q14.getD 0 0), .int .i64 (q14.getD 1 0)]) rfl rfl rfl z_agg132 e3 rfl (celn_part 0 rfl hc18) ?_
          exact st_addNil (hk _ _ (Sto.Le.refl _) rfl)
        · intro ρ' τ pool rs hl hd hout hk
          refine o_fieldAddr rfl rfl rfl z_field39_2 ((hout 3 rfl).trans rfl) ?_
          exact st_addNil (hk _ _ (Sto.Le.refl _) rfl)
        · intro ρ' τ pool rs hl hd hout hk
          obtain ⟨_, e5, rfl⟩ := hd 5 rfl
          refine o_load (j := 1) (v := v5) rfl rfl rfl z_sc37 e5 rfl rfl ?_
          exact st_addNil (hk _ _ (Sto.Le.refl _) rfl)
        · intro ρ' τ pool rs hl hd hout hk
          refine o_move rfl rfl rfl ((hout 5 rfl).trans rfl) ?_
          exact st_addNil (hk _ _ (Sto.Le.refl _) rfl)
        · intro ρ' τ pool rs hl hd hout hk
          obtain ⟨_, e6, rfl⟩ := hd 6 rfl
          obtain ⟨_, e7, rfl⟩ := hd 7 rfl
          refine o_index rfl rfl rfl z_slT37 rfl e6 (hs7.up ((hl11.trans hl13).trans hl)) e7 hf20 (fun b21 of22 vsb21 hc23 hrepb21 => ?_)
          exact st_addNil (hk _ _ (Sto.Le.refl _) ⟨b21, of22, _, rfl, hc23, hrepb21⟩)
        · intro ρ' τ pool rs hl hd hout hk
          obtain ⟨_, e8, b21, of22, vsb21, rfl, hc23, hrepb21⟩ := hd 8 rfl
          have hrepb21 := hrepb21
          obtain rfl := hrepb21
          refine o_loadIN (vs := [.int .i64 (q19.getD 0 0), .int .i64 (q19.getD 1 0)]) rfl rfl rfl z_agg132 e8 rfl (celn_part 0 rfl hc23) ?_
          exact st_addNil (hk _ _ (Sto.Le.refl _) rfl)
        · intro ρ' τ pool rs hl hd hout hk
          obtain ⟨_, e4, rfl⟩ := hd 4 rfl
          obtain ⟨_, e9, rfl⟩ := hd 9 rfl
          refine o_aggEq (b := (eqN 2 0 q14 q19)) (e := (!(eqN 2 0 q14 q19))) rfl rfl rfl z_eqg132 e4 e9 (fun w => by exact eq_arr (xs := q14) (ys := q19) Tryd.underlying132 Tryd.underlying3 z_info3 z_cell3) rfl ?_
          exact st_addNil (hk _ _ (Sto.Le.refl _) rfl)
        intro ρ' τ24 vals hl24 hv hout
        have l10 : Eng.look ρ' 66 = some (.bool (!(eqN 2 0 q14 q19))) := ((hv 10 (by decide)).1).trans (congrArg some (show vals 10 = .bool (!(eqN 2 0 q14 q19)) from Eq.symm (hv 10 (by decide)).2))
        refine st_ord [0, 0] [[(b9, .cells [.int .i64 a0.1, .int .i64 (a0.2.1.getD 0 0), .int .i64 (a0.2.1.getD 1 0), .int .i64 (a0.2.1.getD 2 0), .int .i64 (a0.2.1.getD 3 0), .int .i64 (a0.2.1.getD 4 0), .int .i64 (a0.2.1.getD 5 0), v1, v2, .string a0.2.2.2.2.1, .string a0.2.2.2.2.2].toArray 39 (0, 0))], [(b10, .cells [.int .i64 a1.1, .int .i64 (a1.2.1.getD 0 0), .int .i64 (a1.2.1.getD 1 0), .int .i64 (a1.2.1.getD 2 0), .int .i64 (a1.2.1.getD 3 0), .int .i64 (a1.2.1.getD 4 0), .int .i64 (a1.2.1.getD 5 0), v5, v6, .string a1.2.2.2.2.1, .string a1.2.2.2.2.2].toArray 39 (0, 0))]] rfl ?_
        refine st_env (ρ' := [(66, .bool (!(eqN 2 0 q14 q19))), (2, .pointer (some ⟨b9, 0, none⟩)), (3, .pointer (some ⟨b10, 0, none⟩)), (4, .bool false), (5, .int .i64 s13)]) ⟨l10, (hout 2 rfl).trans rfl, (hout 3 rfl).trans rfl, (hout 4 rfl).trans rfl, (hout 5 rfl).trans rfl, trivial⟩ ?_
        refine st_end ?_
        refine st_cond rfl (fun hc => ?_) (fun hc => ?_)
        · replace h := (if_pos hc).mp h
          refine Z 4 rfl ?_
          refine st_ord [] [] rfl ?_
          obtain rfl := he13 _ h
          replace h := hA13
          obtain rfl := Eq.symm h
          exact st_ret (gs' := []) Tryd.func76 rfl (List.Sublist.refl _) ((hl11.trans hl13).trans hl24) ⟨rfl, rfl⟩
        · replace h := (if_neg (ne_t hc)).mp h
          refine Z 7 rfl ?_
          refine st_env (ρ' := [(2, .pointer (some ⟨b9, 0, none⟩)), (3, .pointer (some ⟨b10, 0, none⟩)), (4, .bool false), (5, .int .i64 (IntKind.i64.wrap (s13 + 1)))]) ⟨rfl, rfl, rfl, rfl, trivial⟩ ?_
          exact hn13 _ _ _ _ h ⟨(hl13.trans hl24), rfl, rfl⟩
      · replace h := (if_neg (ne_t hc)).mp h
        refine st_exit rfl ?_
        obtain rfl := he13 _ h
        replace h := hA13
        refine st_env (ρ' := [(4, .bool false)]) ⟨rfl, trivial⟩ ?_
        refine st_ord [] [] rfl ?_
        exact hk12 _ _ _ ⟨(), h, hl13, rfl, rfl⟩
  refine Z 2 rfl ?_
  refine o_load (j := 1) (v := .int .i64 a0.1) rfl rfl rfl z_sc3 rfl rfl rfl ?_
  refine o_fieldAddr rfl rfl rfl z_field39_0 rfl ?_
  refine o_load (j := 0) (v := .int .i64 a1.1) rfl rfl rfl z_sc3 rfl rfl rfl ?_
  refine o_ibin (v := .bool (!(decide (a0.1 = a1.1)))) rfl rfl rfl rfl rfl rfl ?_
  refine o_moveB rfl rfl rfl rfl (fun hc => ?_) (fun hc => ?_)
  · replace h := (if_pos hc).mp h
    refine Z 38 rfl ?_
    refine st_env (ρ' := [(2, .pointer (some ⟨b9, 0, none⟩)), (3, .pointer (some ⟨b10, 0, none⟩)), (4, .bool false), (48, .bool true)]) ⟨rfl, rfl, rfl, rfl, trivial⟩ ?_
    refine st_ord [1, 0] [[(b9, .cells [.int .i64 a0.1, .int .i64 (a0.2.1.getD 0 0), .int .i64 (a0.2.1.getD 1 0), .int .i64 (a0.2.1.getD 2 0), .int .i64 (a0.2.1.getD 3 0), .int .i64 (a0.2.1.getD 4 0), .int .i64 (a0.2.1.getD 5 0), v1, v2, .string a0.2.2.2.2.1, .string a0.2.2.2.2.2].toArray 39 (0, 0))], [(b10, .cells [.int .i64 a1.1, .int .i64 (a1.2.1.getD 0 0), .int .i64 (a1.2.1.getD 1 0), .int .i64 (a1.2.1.getD 2 0), .int .i64 (a1.2.1.getD 3 0), .int .i64 (a1.2.1.getD 4 0), .int .i64 (a1.2.1.getD 5 0), v5, v6, .string a1.2.2.2.2.1, .string a1.2.2.2.2.2].toArray 39 (0, 0))]] rfl ?_
    exact hk11 _ _ _ ⟨true, h, (Sto.Le.refl _), rfl, rfl⟩
  · replace h := (if_neg (ne_t hc)).mp h
    refine o_fieldAddr rfl rfl rfl z_field39_1 rfl ?_
    refine o_loadN (j := 1) (vs := [.int .i64 (a0.2.1.getD 0 0), .int .i64 (a0.2.1.getD 1 0), .int .i64 (a0.2.1.getD 2 0), .int .i64 (a0.2.1.getD 3 0), .int .i64 (a0.2.1.getD 4 0), .int .i64 (a0.2.1.getD 5 0)]) rfl rfl rfl z_agg22 rfl rfl rfl ?_
    refine o_fieldAddr rfl rfl rfl z_field39_1 rfl ?_
    refine o_loadN (j := 0) (vs := [.int .i64 (a1.2.1.getD 0 0), .int .i64 (a1.2.1.getD 1 0), .int .i64 (a1.2.1.getD 2 0), .int .i64 (a1.2.1.getD 3 0), .int .i64 (a1.2.1.getD 4 0), .int .i64 (a1.2.1.getD 5 0)]) rfl rfl rfl z_agg22 rfl rfl rfl ?_
    refine o_aggEq (b := (eqN 6 0 a0.2.1 a1.2.1)) (e := (!(eqN 6 0 a0.2.1 a1.2.1))) rfl rfl rfl z_eqg22 rfl rfl (fun w => by exact eq_arr (xs := a0.2.1) (ys := a1.2.1) Tryd.underlying22 Tryd.underlying3 z_info3 z_cell3) rfl ?_
    refine o_pick rfl rfl rfl rfl rfl ?_
    refine o_moveB rfl rfl rfl rfl (fun hc => ?_) (fun hc => ?_)
    · replace h := (if_pos hc).mp h
      refine Z 31 rfl ?_
      refine st_env (ρ' := [(2, .pointer (some ⟨b9, 0, none⟩)), (3, .pointer (some ⟨b10, 0, none⟩)), (4, .bool false), (48, .bool true)]) ⟨rfl, rfl, rfl, rfl, trivial⟩ ?_
      refine st_ord [1, 0] [[(b9, .cells [.int .i64 a0.1, .int .i64 (a0.2.1.getD 0 0), .int .i64 (a0.2.1.getD 1 0), .int .i64 (a0.2.1.getD 2 0), .int .i64 (a0.2.1.getD 3 0), .int .i64 (a0.2.1.getD 4 0), .int .i64 (a0.2.1.getD 5 0), v1, v2, .string a0.2.2.2.2.1, .string a0.2.2.2.2.2].toArray 39 (0, 0))], [(b10, .cells [.int .i64 a1.1, .int .i64 (a1.2.1.getD 0 0), .int .i64 (a1.2.1.getD 1 0), .int .i64 (a1.2.1.getD 2 0), .int .i64 (a1.2.1.getD 3 0), .int .i64 (a1.2.1.getD 4 0), .int .i64 (a1.2.1.getD 5 0), v5, v6, .string a1.2.2.2.2.1, .string a1.2.2.2.2.2].toArray 39 (0, 0))]] rfl ?_
      exact hk11 _ _ _ ⟨true, h, (Sto.Le.refl _), rfl, rfl⟩
    · replace h := (if_neg (ne_t hc)).mp h
      refine o_fieldAddr rfl rfl rfl z_field39_2 rfl ?_
      refine o_load (j := 1) (v := v1) rfl rfl rfl z_sc37 rfl rfl rfl ?_
      refine o_lenI rfl rfl rfl z_slT37 rfl hs3 ?_
      refine o_fieldAddr rfl rfl rfl z_field39_2 rfl ?_
      refine o_load (j := 0) (v := v5) rfl rfl rfl z_sc37 rfl rfl rfl ?_
      refine o_lenI rfl rfl rfl z_slT37 rfl hs7 ?_
      refine Z 2 rfl ?_
      refine o_moveB rfl rfl rfl rfl (fun hc => ?_) (fun hc => ?_)
      · replace h := (if_pos hc).mp h
        refine Z 22 rfl ?_
        refine st_env (ρ' := [(2, .pointer (some ⟨b9, 0, none⟩)), (3, .pointer (some ⟨b10, 0, none⟩)), (4, .bool false), (48, .bool true)]) ⟨rfl, rfl, rfl, rfl, trivial⟩ ?_
        refine st_ord [1, 0] [[(b9, .cells [.int .i64 a0.1, .int .i64 (a0.2.1.getD 0 0), .int .i64 (a0.2.1.getD 1 0), .int .i64 (a0.2.1.getD 2 0), .int .i64 (a0.2.1.getD 3 0), .int .i64 (a0.2.1.getD 4 0), .int .i64 (a0.2.1.getD 5 0), v1, v2, .string a0.2.2.2.2.1, .string a0.2.2.2.2.2].toArray 39 (0, 0))], [(b10, .cells [.int .i64 a1.1, .int .i64 (a1.2.1.getD 0 0), .int .i64 (a1.2.1.getD 1 0), .int .i64 (a1.2.1.getD 2 0), .int .i64 (a1.2.1.getD 3 0), .int .i64 (a1.2.1.getD 4 0), .int .i64 (a1.2.1.getD 5 0), v5, v6, .string a1.2.2.2.2.1, .string a1.2.2.2.2.2].toArray 39 (0, 0))]] rfl ?_
        exact hk11 _ _ _ ⟨true, h, (Sto.Le.refl _), rfl, rfl⟩
      · replace h := (if_neg (ne_t hc)).mp h
        refine o_fieldAddr rfl rfl rfl z_field39_3 rfl ?_
        refine o_load (j := 1) (v := v2) rfl rfl rfl z_sc24 rfl rfl rfl ?_
        refine o_fieldAddr rfl rfl rfl z_field39_3 rfl ?_
        refine o_load (j := 0) (v := v6) rfl rfl rfl z_sc24 rfl rfl rfl ?_
        obtain ⟨r27, hr28, h⟩ := h
        refine st_call (foot := []) rfl rfl rfl rfl rfl rfl (callV_fn z_en113 (ref01_Ints_ok hr28 σ hs4 hs8)) ?_
        rintro vτ29 τ29 gsτ29 hl30 ⟨rfl, rfl⟩
        refine Z 2 rfl ?_
        refine o_moveB rfl rfl rfl rfl (fun hc => ?_) (fun hc => ?_)
        · replace h := (if_pos hc).mp h
          refine Z 14 rfl ?_
          refine st_env (ρ' := [(2, .pointer (some ⟨b9, 0, none⟩)), (3, .pointer (some ⟨b10, 0, none⟩)), (4, .bool false), (48, .bool true)]) ⟨rfl, rfl, rfl, rfl, trivial⟩ ?_
          refine st_ord [1, 0] [[(b9, .cells [.int .i64 a0.1, .int .i64 (a0.2.1.getD 0 0), .int .i64 (a0.2.1.getD 1 0), .int .i64 (a0.2.1.getD 2 0), .int .i64 (a0.2.1.getD 3 0), .int .i64 (a0.2.1.getD 4 0), .int .i64 (a0.2.1.getD 5 0), v1, v2, .string a0.2.2.2.2.1, .string a0.2.2.2.2.2].toArray 39 (0, 0))], [(b10, .cells [.int .i64 a1.1, .int .i64 (a1.2.1.getD 0 0), .int .i64 (a1.2.1.getD 1 0), .int .i64 (a1.2.1.getD 2 0), .int .i64 (a1.2.1.getD 3 0), .int .i64 (a1.2.1.getD 4 0), .int .i64 (a1.2.1.getD 5 0), v5, v6, .string a1.2.2.2.2.1, .string a1.2.2.2.2.2].toArray 39 (0, 0))]] rfl ?_
          exact hk11 _ _ _ ⟨true, h, hl30, rfl, rfl⟩
        · replace h := (if_neg (ne_t hc)).mp h
          refine o_fieldAddr rfl rfl rfl z_field39_4 rfl ?_
          refine o_load (j := 1) (v := .string a0.2.2.2.2.1) rfl rfl rfl z_sc9 rfl rfl rfl ?_
          refine o_fieldAddr rfl rfl rfl z_field39_4 rfl ?_
          refine o_load (j := 0) (v := .string a1.2.2.2.2.1) rfl rfl rfl z_sc9 rfl rfl rfl ?_
          refine Z 2 rfl ?_
          refine o_moveB rfl rfl rfl rfl (fun hc => ?_) (fun hc => ?_)
          · replace h := (if_pos hc).mp h
            refine Z 7 rfl ?_
            refine st_env (ρ' := [(2, .pointer (some ⟨b9, 0, none⟩)), (3, .pointer (some ⟨b10, 0, none⟩)), (4, .bool false), (48, .bool true)]) ⟨rfl, rfl, rfl, rfl, trivial⟩ ?_
            refine st_ord [1, 0] [[(b9, .cells [.int .i64 a0.1, .int .i64 (a0.2.1.getD 0 0), .int .i64 (a0.2.1.getD 1 0), .int .i64 (a0.2.1.getD 2 0), .int .i64 (a0.2.1.getD 3 0), .int .i64 (a0.2.1.getD 4 0), .int .i64 (a0.2.1.getD 5 0), v1, v2, .string a0.2.2.2.2.1, .string a0.2.2.2.2.2].toArray 39 (0, 0))], [(b10, .cells [.int .i64 a1.1, .int .i64 (a1.2.1.getD 0 0), .int .i64 (a1.2.1.getD 1 0), .int .i64 (a1.2.1.getD 2 0), .int .i64 (a1.2.1.getD 3 0), .int .i64 (a1.2.1.getD 4 0), .int .i64 (a1.2.1.getD 5 0), v5, v6, .string a1.2.2.2.2.1, .string a1.2.2.2.2.2].toArray 39 (0, 0))]] rfl ?_
            exact hk11 _ _ _ ⟨true, h, hl30, rfl, rfl⟩
          · replace h := (if_neg (ne_t hc)).mp h
            refine o_fieldAddr rfl rfl rfl z_field39_5 rfl ?_
            refine o_load (j := 1) (v := .string a0.2.2.2.2.2) rfl rfl rfl z_sc9 rfl rfl rfl ?_
            refine o_fieldAddr rfl rfl rfl z_field39_5 rfl ?_
            refine o_load (j := 0) (v := .string a1.2.2.2.2.2) rfl rfl rfl z_sc9 rfl rfl rfl ?_
            refine Z 3 rfl ?_
            refine st_env (ρ' := [(2, .pointer (some ⟨b9, 0, none⟩)), (3, .pointer (some ⟨b10, 0, none⟩)), (4, .bool false), (48, .bool (!(decide (a0.2.2.2.2.2 = a1.2.2.2.2.2))))]) ⟨rfl, rfl, rfl, rfl, trivial⟩ ?_
            refine st_ord [1, 0] [[(b9, .cells [.int .i64 a0.1, .int .i64 (a0.2.1.getD 0 0), .int .i64 (a0.2.1.getD 1 0), .int .i64 (a0.2.1.getD 2 0), .int .i64 (a0.2.1.getD 3 0), .int .i64 (a0.2.1.getD 4 0), .int .i64 (a0.2.1.getD 5 0), v1, v2, .string a0.2.2.2.2.1, .string a0.2.2.2.2.2].toArray 39 (0, 0))], [(b10, .cells [.int .i64 a1.1, .int .i64 (a1.2.1.getD 0 0), .int .i64 (a1.2.1.getD 1 0), .int .i64 (a1.2.1.getD 2 0), .int .i64 (a1.2.1.getD 3 0), .int .i64 (a1.2.1.getD 4 0), .int .i64 (a1.2.1.getD 5 0), v5, v6, .string a1.2.2.2.2.1, .string a1.2.2.2.2.2].toArray 39 (0, 0))]] rfl ?_
            exact hk11 _ _ _ ⟨(!(decide (a0.2.2.2.2.2 = a1.2.2.2.2.2))), h, hl30, rfl, rfl⟩
theorem ref23_Same_ok {a0 : Int × Int × Int × Int × (Int × List Int × List (List Int) × List Int × ByteArray × ByteArray)} {a1 : Int × Int × Int × Int × (Int × List Int × List (List Int) × List Int × ByteArray × ByteArray)} {v1 : Value} {v2 : Value} {v5 : Value} {v6 : Value} {r : Bool} (h : ref23_Same a0 a1 r) (σ : Sto) (hs3 : Sl (kA .i64 2) σ v1 a0.2.2.2.2.2.2.1) (hs4 : Sl (kI .i64) σ v2 a0.2.2.2.2.2.2.2.1) (hs7 : Sl (kA .i64 2) σ v5 a1.2.2.2.2.2.2.1) (hs8 : Sl (kI .i64) σ v6 a1.2.2.2.2.2.2.2.1) :
    Does Tryd.prog 19 [.agg [.int .i64 a0.1, .int .u32 a0.2.1, .int .i64 a0.2.2.1, .int .i64 a0.2.2.2.1, .int .i64 a0.2.2.2.2.1, .int .i64 (a0.2.2.2.2.2.1.getD 0 0), .int .i64 (a0.2.2.2.2.2.1.getD 1 0), .int .i64 (a0.2.2.2.2.2.1.getD 2 0), .int .i64 (a0.2.2.2.2.2.1.getD 3 0), .int .i64 (a0.2.2.2.2.2.1.getD 4 0), .int .i64 (a0.2.2.2.2.2.1.getD 5 0), v1, v2, .string a0.2.2.2.2.2.2.2.2.1, .string a0.2.2.2.2.2.2.2.2.2].toArray, .agg [.int .i64 a1.1, .int .u32 a1.2.1, .int .i64 a1.2.2.1, .int .i64 a1.2.2.2.1, .int .i64 a1.2.2.2.2.1, .int .i64 (a1.2.2.2.2.2.1.getD 0 0), .int .i64 (a1.2.2.2.2.2.1.getD 1 0), .int .i64 (a1.2.2.2.2.2.1.getD 2 0), .int .i64 (a1.2.2.2.2.2.1.getD 3 0), .int .i64 (a1.2.2.2.2.2.1.getD 4 0), .int .i64 (a1.2.2.2.2.2.1.getD 5 0), v5, v6, .string a1.2.2.2.2.2.2.2.2.1, .string a1.2.2.2.2.2.2.2.2.2].toArray] σ [] (fun v τ gs => gs = [] ∧ .bool r = v) := by
  refine call_of Tryd.func19 Tryd.ntmps19 rfl rfl (fun cs fs => ?_)
  refine Z 2 rfl ?_
  refine o_box (cs := [.int .i64 a0.1, .int .u32 a0.2.1, .int .i64 a0.2.2.1, .int .i64 a0.2.2.2.1, .int .i64 a0.2.2.2.2.1, .int .i64 (a0.2.2.2.2.2.1.getD 0 0), .int .i64 (a0.2.2.2.2.2.1.getD 1 0), .int .i64 (a0.2.2.2.2.2.1.getD 2 0), .int .i64 (a0.2.2.2.2.2.1.getD 3 0), .int .i64 (a0.2.2.2.2.2.1.getD 4 0), .int .i64 (a0.2.2.2.2.2.1.getD 5 0), v1, v2, .string a0.2.2.2.2.2.2.2.2.1, .string a0.2.2.2.2.2.2.2.2.2]) rfl rfl rfl rfl rfl (fun b9 => ?_)
  refine o_box (cs := [.int .i64 a1.1, .int .u32 a1.2.1, .int .i64 a1.2.2.1, .int .i64 a1.2.2.2.1, .int .i64 a1.2.2.2.2.1, .int .i64 (a1.2.2.2.2.2.1.getD 0 0), .int .i64 (a1.2.2.2.2.2.1.getD 1 0), .int .i64 (a1.2.2.2.2.2.1.getD 2 0), .int .i64 (a1.2.2.2.2.2.1.getD 3 0), .int .i64 (a1.2.2.2.2.2.1.getD 4 0), .int .i64 (a1.2.2.2.2.2.1.getD 5 0), v5, v6, .string a1.2.2.2.2.2.2.2.2.1, .string a1.2.2.2.2.2.2.2.2.2]) rfl rfl rfl rfl rfl (fun b10 => ?_)
  refine Z 3 rfl ?_
  refine st_cut (fun ρ τ11 gs => ∃ (s11 : Bool), ref23_Same_j1 s11 r ∧ σ.Le τ11 ∧ ρ = [(4, .bool s11)] ∧ gs = []) ?_ (fun hk11 => ?_)
  · rintro ρ11 τ11 gs11 ⟨s11, h, hl11, rfl, rfl⟩
    obtain rfl := Eq.symm h
    exact st_ret (gs' := []) Tryd.func19 rfl (List.Sublist.refl _) hl11 ⟨rfl, rfl⟩
  refine Z 2 rfl ?_
  refine o_load (j := 1) (v := .int .i64 a0.1) rfl rfl rfl z_sc3 rfl rfl rfl ?_
  refine o_fieldAddr rfl rfl rfl z_field42_0 rfl ?_
  refine o_load (j := 0) (v := .int .i64 a1.1) rfl rfl rfl z_sc3 rfl rfl rfl ?_
  refine o_ibin (v := .bool (decide (a0.1 = a1.1))) rfl rfl rfl rfl rfl rfl ?_
  refine o_moveB rfl rfl rfl rfl (fun hc => ?_) (fun hc => ?_)
  · replace h := (if_pos hc).mp h
    refine o_fieldAddr rfl rfl rfl z_field42_1 rfl ?_
    refine o_load (j := 1) (v := .int .u32 a0.2.1) rfl rfl rfl z_sc33 rfl rfl rfl ?_
    refine o_fieldAddr rfl rfl rfl z_field42_1 rfl ?_
    refine o_load (j := 0) (v := .int .u32 a1.2.1) rfl rfl rfl z_sc33 rfl rfl rfl ?_
    refine Z 2 rfl ?_
    refine o_moveB rfl rfl rfl rfl (fun hc => ?_) (fun hc => ?_)
    · replace h := (if_pos hc).mp h
      refine o_fieldAddr rfl rfl rfl z_field42_2 rfl ?_
      refine o_load (j := 1) (v := .int .i64 a0.2.2.1) rfl rfl rfl z_sc3 rfl rfl rfl ?_
      refine o_fieldAddr rfl rfl rfl z_field42_2 rfl ?_
      refine o_load (j := 0) (v := .int .i64 a1.2.2.1) rfl rfl rfl z_sc3 rfl rfl rfl ?_
      refine Z 2 rfl ?_
      refine o_moveB rfl rfl rfl rfl (fun hc => ?_) (fun hc => ?_)
      · replace h := (if_pos hc).mp h
        refine o_fieldAddr rfl rfl rfl z_field42_3 rfl ?_
        refine o_load (j := 1) (v := .int .i64 a0.2.2.2.1) rfl rfl rfl z_sc3 rfl rfl rfl ?_
        refine o_fieldAddr rfl rfl rfl z_field42_3 rfl ?_
        refine o_load (j := 0) (v := .int .i64 a1.2.2.2.1) rfl rfl rfl z_sc3 rfl rfl rfl ?_
        refine Z 2 rfl ?_
        refine o_moveB rfl rfl rfl rfl (fun hc => ?_) (fun hc => ?_)
        · replace h := (if_pos hc).mp h
          refine o_fieldAddr rfl rfl rfl z_field42_4 rfl ?_
          refine o_loadN (j := 1) (vs := [.int .i64 a0.2.2.2.2.1, .int .i64 (a0.2.2.2.2.2.1.getD 0 0), .int .i64 (a0.2.2.2.2.2.1.getD 1 0), .int .i64 (a0.2.2.2.2.2.1.getD 2 0), .int .i64 (a0.2.2.2.2.2.1.getD 3 0), .int .i64 (a0.2.2.2.2.2.1.getD 4 0), .int .i64 (a0.2.2.2.2.2.1.getD 5 0), v1, v2, .string a0.2.2.2.2.2.2.2.2.1, .string a0.2.2.2.2.2.2.2.2.2]) rfl rfl rfl z_agg39 rfl rfl rfl ?_
          refine o_fieldAddr rfl rfl rfl z_field42_4 rfl ?_
          refine o_loadN (j := 0) (vs := [.int .i64 a1.2.2.2.2.1, .int .i64 (a1.2.2.2.2.2.1.getD 0 0), .int .i64 (a1.2.2.2.2.2.1.getD 1 0), .int .i64 (a1.2.2.2.2.2.1.getD 2 0), .int .i64 (a1.2.2.2.2.2.1.getD 3 0), .int .i64 (a1.2.2.2.2.2.1.getD 4 0), .int .i64 (a1.2.2.2.2.2.1.getD 5 0), v5, v6, .string a1.2.2.2.2.2.2.2.2.1, .string a1.2.2.2.2.2.2.2.2.2]) rfl rfl rfl z_agg39 rfl rfl rfl ?_
          obtain ⟨r12, hr13, h⟩ := h
          refine st_call (foot := []) rfl rfl rfl rfl rfl rfl (callV_fn z_en76 (ref17_Same_ok hr13 σ hs3 hs4 hs7 hs8)) ?_
          rintro vτ14 τ14 gsτ14 hl15 ⟨rfl, rfl⟩
          refine Z 3 rfl ?_
          refine st_env (ρ' := [(4, .bool r12)]) ⟨rfl, trivial⟩ ?_
          refine st_ord [] [] rfl ?_
          exact hk11 _ _ _ ⟨r12, h, hl15, rfl, rfl⟩
        · replace h := (if_neg (ne_t hc)).mp h
          refine Z 8 rfl ?_
          refine st_env (ρ' := [(4, .bool false)]) ⟨rfl, trivial⟩ ?_
          refine st_ord [] [] rfl ?_
          exact hk11 _ _ _ ⟨false, h, (Sto.Le.refl _), rfl, rfl⟩
      · replace h := (if_neg (ne_t hc)).mp h
        refine Z 15 rfl ?_
        refine st_env (ρ' := [(4, .bool false)]) ⟨rfl, trivial⟩ ?_
        refine st_ord [] [] rfl ?_
        exact hk11 _ _ _ ⟨false, h, (Sto.Le.refl _), rfl, rfl⟩
    · replace h := (if_neg (ne_t hc)).mp h
      refine Z 22 rfl ?_
      refine st_env (ρ' := [(4, .bool false)]) ⟨rfl, trivial⟩ ?_
      refine st_ord [] [] rfl ?_
      exact hk11 _ _ _ ⟨false, h, (Sto.Le.refl _), rfl, rfl⟩
  · replace h := (if_neg (ne_t hc)).mp h
    refine Z 29 rfl ?_
    refine st_env (ρ' := [(4, .bool false)]) ⟨rfl, trivial⟩ ?_
    refine st_ord [] [] rfl ?_
    exact hk11 _ _ _ ⟨false, h, (Sto.Le.refl _), rfl, rfl⟩
theorem law23_Cut_ok {a0 : Int × Int × Int × Int × (Int × List Int × List (Int × Int) × List Int × ByteArray × ByteArray)} {v1 : Value} {v2 : Value} {r : (Int × Int × Int × Int × (Int × List Int × List (Int × Int) × List Int × ByteArray × ByteArray))} (h : law23_Cut a0 r) (σ : Sto) (hs3 : Sl (kP (kI .i64) (kI .i64)) σ v1 a0.2.2.2.2.2.2.1) (hs4 : Sl (kI .i64) σ v2 a0.2.2.2.2.2.2.2.1) :
    Does Tryd.prog 24 [.agg [.int .i64 a0.1, .int .u32 a0.2.1, .int .i64 a0.2.2.1, .int .i64 a0.2.2.2.1, .int .i64 a0.2.2.2.2.1, .int .i64 (a0.2.2.2.2.2.1.getD 0 0), .int .i64 (a0.2.2.2.2.2.1.getD 1 0), .int .i64 (a0.2.2.2.2.2.1.getD 2 0), .int .i64 (a0.2.2.2.2.2.1.getD 3 0), .int .i64 (a0.2.2.2.2.2.1.getD 4 0), .int .i64 (a0.2.2.2.2.2.1.getD 5 0), v1, v2, .string a0.2.2.2.2.2.2.2.2.1, .string a0.2.2.2.2.2.2.2.2.2].toArray] σ [] (fun v τ gs => ∃ (v15 : Value) (v16 : Value), gs = [] ∧ .agg [.int .i64 r.1, .int .u32 r.2.1, .int .i64 r.2.2.1, .int .i64 r.2.2.2.1, .int .i64 r.2.2.2.2.1, .int .i64 (r.2.2.2.2.2.1.getD 0 0), .int .i64 (r.2.2.2.2.2.1.getD 1 0), .int .i64 (r.2.2.2.2.2.1.getD 2 0), .int .i64 (r.2.2.2.2.2.1.getD 3 0), .int .i64 (r.2.2.2.2.2.1.getD 4 0), .int .i64 (r.2.2.2.2.2.1.getD 5 0), v15, v16, .string r.2.2.2.2.2.2.2.2.1, .string r.2.2.2.2.2.2.2.2.2].toArray = v ∧ Sl (kP (kI .i64) (kI .i64)) τ v15 r.2.2.2.2.2.2.1 ∧ Sl (kI .i64) τ v16 r.2.2.2.2.2.2.2.1) := by
  refine call_of Tryd.func24 Tryd.ntmps24 rfl rfl (fun cs fs => ?_)
  refine Z 2 rfl ?_
  refine o_box (cs := [.int .i64 a0.1, .int .u32 a0.2.1, .int .i64 a0.2.2.1, .int .i64 a0.2.2.2.1, .int .i64 a0.2.2.2.2.1, .int .i64 (a0.2.2.2.2.2.1.getD 0 0), .int .i64 (a0.2.2.2.2.2.1.getD 1 0), .int .i64 (a0.2.2.2.2.2.1.getD 2 0), .int .i64 (a0.2.2.2.2.2.1.getD 3 0), .int .i64 (a0.2.2.2.2.2.1.getD 4 0), .int .i64 (a0.2.2.2.2.2.1.getD 5 0), v1, v2, .string a0.2.2.2.2.2.2.2.2.1, .string a0.2.2.2.2.2.2.2.2.2]) rfl rfl rfl rfl rfl (fun b5 => ?_)
  refine o_alloc rfl rfl rfl z_zero35 (fun b6 => ?_)
  refine Z 4 rfl ?_
  refine o_loadN (j := 1) (vs := [.int .i64 a0.2.2.2.2.1, .int .i64 (a0.2.2.2.2.2.1.getD 0 0), .int .i64 (a0.2.2.2.2.2.1.getD 1 0), .int .i64 (a0.2.2.2.2.2.1.getD 2 0), .int .i64 (a0.2.2.2.2.2.1.getD 3 0), .int .i64 (a0.2.2.2.2.2.1.getD 4 0), .int .i64 (a0.2.2.2.2.2.1.getD 5 0), v1, v2, .string a0.2.2.2.2.2.2.2.2.1, .string a0.2.2.2.2.2.2.2.2.2]) rfl rfl rfl z_agg26 rfl rfl rfl ?_
  obtain ⟨r7, hr8, h⟩ := h
  refine st_call (foot := []) rfl rfl rfl rfl rfl rfl (callV_fn z_en11 (law17_Cut_ok hr8 σ hs3 hs4)) ?_
  rintro vτ9 τ9 gsτ9 hl10 ⟨v11, v12, rfl, rfl, hs13, hs14⟩
  refine o_fieldAddr rfl rfl rfl z_field35_4 rfl ?_
  refine o_store (j := 1) (vs := [.int .i64 r7.1, .int .i64 (r7.2.1.getD 0 0), .int .i64 (r7.2.1.getD 1 0), .int .i64 (r7.2.1.getD 2 0), .int .i64 (r7.2.1.getD 3 0), .int .i64 (r7.2.1.getD 4 0), .int .i64 (r7.2.1.getD 5 0), v11, v12, .string r7.2.2.2.2.1, .string r7.2.2.2.2.2]) (cs' := [.int .i64 a0.1, .int .u32 a0.2.1, .int .i64 a0.2.2.1, .int .i64 a0.2.2.2.1, .int .i64 r7.1, .int .i64 (r7.2.1.getD 0 0), .int .i64 (r7.2.1.getD 1 0), .int .i64 (r7.2.1.getD 2 0), .int .i64 (r7.2.1.getD 3 0), .int .i64 (r7.2.1.getD 4 0), .int .i64 (r7.2.1.getD 5 0), v11, v12, .string r7.2.2.2.2.1, .string r7.2.2.2.2.2]) rfl rfl rfl z_size26 rfl rfl rfl (ones_cons rfl (ones_cons rfl (ones_cons rfl (ones_cons rfl (ones_cons rfl (ones_cons rfl (ones_cons rfl (ones_cons hs13.one' (ones_cons hs14.one' (ones_cons rfl (ones_cons rfl ones_nil))))))))))) rfl rfl rfl ?_
  refine st_gs [[(b6, .cells [.int .i64 0, .int .u32 0, .int .i64 0, .int .i64 0, .int .i64 0, .int .i64 0, .int .i64 0, .int .i64 0, .int .i64 0, .int .i64 0, .int .i64 0, .slice none 0 0, .slice none 0 0, .string (bstr []), .string (bstr [])].toArray 35 (0, 0))], [(b5, .cells [.int .i64 a0.1, .int .u32 a0.2.1, .int .i64 a0.2.2.1, .int .i64 a0.2.2.2.1, .int .i64 r7.1, .int .i64 (r7.2.1.getD 0 0), .int .i64 (r7.2.1.getD 1 0), .int .i64 (r7.2.1.getD 2 0), .int .i64 (r7.2.1.getD 3 0), .int .i64 (r7.2.1.getD 4 0), .int .i64 (r7.2.1.getD 5 0), v11, v12, .string r7.2.2.2.2.1, .string r7.2.2.2.2.2].toArray 35 (0, 0))]] rfl ?_
  refine Z 3 rfl ?_
  refine o_loadN (j := 1) (vs := [.int .i64 a0.1, .int .u32 a0.2.1, .int .i64 a0.2.2.1, .int .i64 a0.2.2.2.1, .int .i64 r7.1, .int .i64 (r7.2.1.getD 0 0), .int .i64 (r7.2.1.getD 1 0), .int .i64 (r7.2.1.getD 2 0), .int .i64 (r7.2.1.getD 3 0), .int .i64 (r7.2.1.getD 4 0), .int .i64 (r7.2.1.getD 5 0), v11, v12, .string r7.2.2.2.2.1, .string r7.2.2.2.2.2]) rfl rfl rfl z_agg35 rfl rfl rfl ?_
  refine o_store (j := 0) (vs := [.int .i64 a0.1, .int .u32 a0.2.1, .int .i64 a0.2.2.1, .int .i64 a0.2.2.2.1, .int .i64 r7.1, .int .i64 (r7.2.1.getD 0 0), .int .i64 (r7.2.1.getD 1 0), .int .i64 (r7.2.1.getD 2 0), .int .i64 (r7.2.1.getD 3 0), .int .i64 (r7.2.1.getD 4 0), .int .i64 (r7.2.1.getD 5 0), v11, v12, .string r7.2.2.2.2.1, .string r7.2.2.2.2.2]) (cs' := [.int .i64 a0.1, .int .u32 a0.2.1, .int .i64 a0.2.2.1, .int .i64 a0.2.2.2.1, .int .i64 r7.1, .int .i64 (r7.2.1.getD 0 0), .int .i64 (r7.2.1.getD 1 0), .int .i64 (r7.2.1.getD 2 0), .int .i64 (r7.2.1.getD 3 0), .int .i64 (r7.2.1.getD 4 0), .int .i64 (r7.2.1.getD 5 0), v11, v12, .string r7.2.2.2.2.1, .string r7.2.2.2.2.2]) rfl rfl rfl z_size35 rfl rfl rfl (ones_cons rfl (ones_cons rfl (ones_cons rfl (ones_cons rfl (ones_cons rfl (ones_cons rfl (ones_cons rfl (ones_cons rfl (ones_cons rfl (ones_cons rfl (ones_cons rfl (ones_cons hs13.one' (ones_cons hs14.one' (ones_cons rfl (ones_cons rfl ones_nil))))))))))))))) rfl rfl rfl ?_
  refine st_gs [[(b6, .cells [.int .i64 a0.1, .int .u32 a0.2.1, .int .i64 a0.2.2.1, .int .i64 a0.2.2.2.1, .int .i64 r7.1, .int .i64 (r7.2.1.getD 0 0), .int .i64 (r7.2.1.getD 1 0), .int .i64 (r7.2.1.getD 2 0), .int .i64 (r7.2.1.getD 3 0), .int .i64 (r7.2.1.getD 4 0), .int .i64 (r7.2.1.getD 5 0), v11, v12, .string r7.2.2.2.2.1, .string r7.2.2.2.2.2].toArray 35 (0, 0))], [(b5, .cells [.int .i64 a0.1, .int .u32 a0.2.1, .int .i64 a0.2.2.1, .int .i64 a0.2.2.2.1, .int .i64 r7.1, .int .i64 (r7.2.1.getD 0 0), .int .i64 (r7.2.1.getD 1 0), .int .i64 (r7.2.1.getD 2 0), .int .i64 (r7.2.1.getD 3 0), .int .i64 (r7.2.1.getD 4 0), .int .i64 (r7.2.1.getD 5 0), v11, v12, .string r7.2.2.2.2.1, .string r7.2.2.2.2.2].toArray 35 (0, 0))]] rfl ?_
  refine st_end ?_
  obtain rfl := Eq.symm h
  exact st_retC (gs' := []) [.agg [.int .i64 a0.1, .int .u32 a0.2.1, .int .i64 a0.2.2.1, .int .i64 a0.2.2.2.1, .int .i64 r7.1, .int .i64 (r7.2.1.getD 0 0), .int .i64 (r7.2.1.getD 1 0), .int .i64 (r7.2.1.getD 2 0), .int .i64 (r7.2.1.getD 3 0), .int .i64 (r7.2.1.getD 4 0), .int .i64 (r7.2.1.getD 5 0), v11, v12, .string r7.2.2.2.2.1, .string r7.2.2.2.2.2].toArray] Tryd.func24 ⟨⟨_, _, _, _, rfl, mem_flat 0 rfl, fun w hw => cellOfN (vs := [.int .i64 a0.1, .int .u32 a0.2.1, .int .i64 a0.2.2.1, .int .i64 a0.2.2.2.1, .int .i64 r7.1, .int .i64 (r7.2.1.getD 0 0), .int .i64 (r7.2.1.getD 1 0), .int .i64 (r7.2.1.getD 2 0), .int .i64 (r7.2.1.getD 3 0), .int .i64 (r7.2.1.getD 4 0), .int .i64 (r7.2.1.getD 5 0), v11, v12, .string r7.2.2.2.2.1, .string r7.2.2.2.2.2]) z_agg35 rfl w hw⟩, trivial⟩ (by simp) hl10 ⟨_, _, rfl, rfl, hs13, hs14⟩
theorem event_Word_ok {a0 : Int} {r : ByteArray} (h : event_Word a0 r) (σ : Sto)  :
    Does Tryd.prog 28 [.int .i64 a0] σ [] (fun v τ gs => gs = [] ∧ .string r = v) := by
  refine call_of Tryd.func28 Tryd.ntmps28 rfl rfl (fun cs fs => ?_)
  refine Z 2 rfl ?_
  refine o_assign rfl rfl rfl (ev_str z_str19) ?_
  refine Z 12 rfl ?_
  refine st_cond rfl (fun hc => ?_) (fun hc => ?_)
  · replace h := (if_pos hc).mp h
    refine Z 2 rfl ?_
    refine o_assign rfl rfl rfl (ev_str z_str36) ?_
    refine st_end ?_
    obtain rfl := Eq.symm h
    exact st_ret (gs' := []) Tryd.func28 rfl (List.Sublist.refl _) (Sto.Le.refl _) ⟨rfl, rfl⟩
  · replace h := (if_neg (ne_t hc)).mp h
    refine Z 5 rfl ?_
    refine st_cond rfl (fun hc => ?_) (fun hc => ?_)
    · replace h := (if_pos hc).mp h
      refine Z 2 rfl ?_
      refine o_assign rfl rfl rfl (ev_str z_str37) ?_
      refine st_end ?_
      obtain rfl := Eq.symm h
      exact st_ret (gs' := []) Tryd.func28 rfl (List.Sublist.refl _) (Sto.Le.refl _) ⟨rfl, rfl⟩
    · replace h := (if_neg (ne_t hc)).mp h
      refine Z 5 rfl ?_
      refine st_cond rfl (fun hc => ?_) (fun hc => ?_)
      · replace h := (if_pos hc).mp h
        refine Z 2 rfl ?_
        refine o_assign rfl rfl rfl (ev_str z_str38) ?_
        refine st_end ?_
        obtain rfl := Eq.symm h
        exact st_ret (gs' := []) Tryd.func28 rfl (List.Sublist.refl _) (Sto.Le.refl _) ⟨rfl, rfl⟩
      · replace h := (if_neg (ne_t hc)).mp h
        refine Z 5 rfl ?_
        refine st_cond rfl (fun hc => ?_) (fun hc => ?_)
        · replace h := (if_pos hc).mp h
          refine Z 2 rfl ?_
          refine o_assign rfl rfl rfl (ev_str z_str39) ?_
          refine st_end ?_
          obtain rfl := Eq.symm h
          exact st_ret (gs' := []) Tryd.func28 rfl (List.Sublist.refl _) (Sto.Le.refl _) ⟨rfl, rfl⟩
        · replace h := (if_neg (ne_t hc)).mp h
          refine Z 5 rfl ?_
          refine st_cond rfl (fun hc => ?_) (fun hc => ?_)
          · replace h := (if_pos hc).mp h
            refine Z 2 rfl ?_
            refine o_assign rfl rfl rfl (ev_str z_str40) ?_
            refine st_end ?_
            obtain rfl := Eq.symm h
            exact st_ret (gs' := []) Tryd.func28 rfl (List.Sublist.refl _) (Sto.Le.refl _) ⟨rfl, rfl⟩
          · replace h := (if_neg (ne_t hc)).mp h
            refine Z 5 rfl ?_
            refine st_cond rfl (fun hc => ?_) (fun hc => ?_)
            · replace h := (if_pos hc).mp h
              refine Z 2 rfl ?_
              refine o_assign rfl rfl rfl (ev_str z_str41) ?_
              refine st_end ?_
              obtain rfl := Eq.symm h
              exact st_ret (gs' := []) Tryd.func28 rfl (List.Sublist.refl _) (Sto.Le.refl _) ⟨rfl, rfl⟩
            · replace h := (if_neg (ne_t hc)).mp h
              refine Z 5 rfl ?_
              refine st_cond rfl (fun hc => ?_) (fun hc => ?_)
              · replace h := (if_pos hc).mp h
                refine Z 2 rfl ?_
                refine o_assign rfl rfl rfl (ev_str z_str42) ?_
                refine st_end ?_
                obtain rfl := Eq.symm h
                exact st_ret (gs' := []) Tryd.func28 rfl (List.Sublist.refl _) (Sto.Le.refl _) ⟨rfl, rfl⟩
              · replace h := (if_neg (ne_t hc)).mp h
                refine Z 5 rfl ?_
                refine st_cond rfl (fun hc => ?_) (fun hc => ?_)
                · replace h := (if_pos hc).mp h
                  refine Z 2 rfl ?_
                  refine o_assign rfl rfl rfl (ev_str z_str43) ?_
                  refine st_end ?_
                  obtain rfl := Eq.symm h
                  exact st_ret (gs' := []) Tryd.func28 rfl (List.Sublist.refl _) (Sto.Le.refl _) ⟨rfl, rfl⟩
                · replace h := (if_neg (ne_t hc)).mp h
                  refine Z 5 rfl ?_
                  refine st_cond rfl (fun hc => ?_) (fun hc => ?_)
                  · replace h := (if_pos hc).mp h
                    refine Z 2 rfl ?_
                    refine o_assign rfl rfl rfl (ev_str z_str44) ?_
                    refine st_end ?_
                    obtain rfl := Eq.symm h
                    exact st_ret (gs' := []) Tryd.func28 rfl (List.Sublist.refl _) (Sto.Le.refl _) ⟨rfl, rfl⟩
                  · replace h := (if_neg (ne_t hc)).mp h
                    refine Z 5 rfl ?_
                    refine st_cond rfl (fun hc => ?_) (fun hc => ?_)
                    · replace h := (if_pos hc).mp h
                      refine Z 2 rfl ?_
                      refine o_assign rfl rfl rfl (ev_str z_str45) ?_
                      refine st_end ?_
                      obtain rfl := Eq.symm h
                      exact st_ret (gs' := []) Tryd.func28 rfl (List.Sublist.refl _) (Sto.Le.refl _) ⟨rfl, rfl⟩
                    · replace h := (if_neg (ne_t hc)).mp h
                      refine Z 5 rfl ?_
                      refine st_cond rfl (fun hc => ?_) (fun hc => ?_)
                      · replace h := (if_pos hc).mp h
                        refine Z 2 rfl ?_
                        refine o_assign rfl rfl rfl (ev_str z_str46) ?_
                        refine st_end ?_
                        obtain rfl := Eq.symm h
                        exact st_ret (gs' := []) Tryd.func28 rfl (List.Sublist.refl _) (Sto.Le.refl _) ⟨rfl, rfl⟩
                      · replace h := (if_neg (ne_t hc)).mp h
                        refine Z 5 rfl ?_
                        refine st_cond rfl (fun hc => ?_) (fun hc => ?_)
                        · replace h := (if_pos hc).mp h
                          refine Z 2 rfl ?_
                          refine o_assign rfl rfl rfl (ev_str z_str47) ?_
                          refine st_end ?_
                          obtain rfl := Eq.symm h
                          exact st_ret (gs' := []) Tryd.func28 rfl (List.Sublist.refl _) (Sto.Le.refl _) ⟨rfl, rfl⟩
                        · replace h := (if_neg (ne_t hc)).mp h
                          refine Z 5 rfl ?_
                          refine st_cond rfl (fun hc => ?_) (fun hc => ?_)
                          · replace h := (if_pos hc).mp h
                            refine Z 2 rfl ?_
                            refine o_assign rfl rfl rfl (ev_str z_str48) ?_
                            refine st_end ?_
                            obtain rfl := Eq.symm h
                            exact st_ret (gs' := []) Tryd.func28 rfl (List.Sublist.refl _) (Sto.Le.refl _) ⟨rfl, rfl⟩
                          · replace h := (if_neg (ne_t hc)).mp h
                            refine Z 5 rfl ?_
                            refine st_cond rfl (fun hc => ?_) (fun hc => ?_)
                            · replace h := (if_pos hc).mp h
                              refine Z 2 rfl ?_
                              refine o_assign rfl rfl rfl (ev_str z_str49) ?_
                              refine st_end ?_
                              obtain rfl := Eq.symm h
                              exact st_ret (gs' := []) Tryd.func28 rfl (List.Sublist.refl _) (Sto.Le.refl _) ⟨rfl, rfl⟩
                            · replace h := (if_neg (ne_t hc)).mp h
                              refine Z 5 rfl ?_
                              refine st_cond rfl (fun hc => ?_) (fun hc => ?_)
                              · replace h := (if_pos hc).mp h
                                refine Z 2 rfl ?_
                                refine o_assign rfl rfl rfl (ev_str z_str50) ?_
                                refine st_end ?_
                                obtain rfl := Eq.symm h
                                exact st_ret (gs' := []) Tryd.func28 rfl (List.Sublist.refl _) (Sto.Le.refl _) ⟨rfl, rfl⟩
                              · replace h := (if_neg (ne_t hc)).mp h
                                refine Z 5 rfl ?_
                                refine st_cond rfl (fun hc => ?_) (fun hc => ?_)
                                · replace h := (if_pos hc).mp h
                                  refine Z 2 rfl ?_
                                  refine o_assign rfl rfl rfl (ev_str z_str18) ?_
                                  refine st_end ?_
                                  obtain rfl := Eq.symm h
                                  exact st_ret (gs' := []) Tryd.func28 rfl (List.Sublist.refl _) (Sto.Le.refl _) ⟨rfl, rfl⟩
                                · replace h := (if_neg (ne_t hc)).mp h
                                  refine Z 4 rfl ?_
                                  refine o_assign rfl rfl rfl (ev_str z_str19) ?_
                                  refine st_end ?_
                                  obtain rfl := Eq.symm h
                                  exact st_ret (gs' := []) Tryd.func28 rfl (List.Sublist.refl _) (Sto.Le.refl _) ⟨rfl, rfl⟩
theorem event_Line_ok {a0 : Int × Int × Int × Int × (Int × List Int × List (Int × Int) × List Int × ByteArray × ByteArray)} {v1 : Value} {v2 : Value} {r : ByteArray} (h : event_Line a0 r) (σ : Sto) (hs3 : Sl (kP (kI .i64) (kI .i64)) σ v1 a0.2.2.2.2.2.2.1) (hs4 : Sl (kI .i64) σ v2 a0.2.2.2.2.2.2.2.1) (hT : Tab Tryd.prog σ) :
    Does Tryd.prog 25 [.agg [.int .i64 a0.1, .int .u32 a0.2.1, .int .i64 a0.2.2.1, .int .i64 a0.2.2.2.1, .int .i64 a0.2.2.2.2.1, .int .i64 (a0.2.2.2.2.2.1.getD 0 0), .int .i64 (a0.2.2.2.2.2.1.getD 1 0), .int .i64 (a0.2.2.2.2.2.1.getD 2 0), .int .i64 (a0.2.2.2.2.2.1.getD 3 0), .int .i64 (a0.2.2.2.2.2.1.getD 4 0), .int .i64 (a0.2.2.2.2.2.1.getD 5 0), v1, v2, .string a0.2.2.2.2.2.2.2.2.1, .string a0.2.2.2.2.2.2.2.2.2].toArray] σ [] (fun v τ gs => gs = [] ∧ .string r = v) := by
  refine call_of Tryd.func25 Tryd.ntmps25 rfl rfl (fun cs fs => ?_)
  refine Z 2 rfl ?_
  refine o_box (cs := [.int .i64 a0.1, .int .u32 a0.2.1, .int .i64 a0.2.2.1, .int .i64 a0.2.2.2.1, .int .i64 a0.2.2.2.2.1, .int .i64 (a0.2.2.2.2.2.1.getD 0 0), .int .i64 (a0.2.2.2.2.2.1.getD 1 0), .int .i64 (a0.2.2.2.2.2.1.getD 2 0), .int .i64 (a0.2.2.2.2.2.1.getD 3 0), .int .i64 (a0.2.2.2.2.2.1.getD 4 0), .int .i64 (a0.2.2.2.2.2.1.getD 5 0), v1, v2, .string a0.2.2.2.2.2.2.2.2.1, .string a0.2.2.2.2.2.2.2.2.2]) rfl rfl rfl rfl rfl (fun b5 => ?_)
  refine o_assign rfl rfl rfl (ev_str z_str19) ?_
  refine Z 4 rfl ?_
  refine o_load (j := 0) (v := .int .u32 a0.2.1) rfl rfl rfl z_sc33 rfl rfl rfl ?_
  refine o_conv rfl rfl rfl Tryd.underlying33 Tryd.underlying3 rfl ?_
  obtain ⟨r6, hr7, h⟩ := h
  refine st_call (foot := []) rfl rfl rfl rfl rfl rfl (callV_fn z_en77 (say_Number_ok hr7 σ hT)) ?_
  rintro vτ8 τ8 gsτ8 hl9 ⟨rfl, rfl⟩
  refine Z 6 rfl ?_
  refine o_load (j := 0) (v := .int .i64 a0.1) rfl rfl rfl z_sc3 rfl rfl rfl ?_
  refine Z 7 rfl ?_
  refine st_cond rfl (fun hc => ?_) (fun hc => ?_)
  · replace h := (if_pos hc).mp h
    refine st_seq ?_
    obtain ⟨hf10, hf11, r12, hr13, hf16, hf17, r18, hr19, hf22, h⟩ := h
    refine st_draw 12 (tl [fun τ v => (.string r6 : Value) = v,
    fun τ v => (.string ((bstr [100, 101, 108, 105, 118, 101, 114, 32]) ++ r6) : Value) = v,
    fun τ v => (.string (((bstr [100, 101, 108, 105, 118, 101, 114, 32]) ++ r6) ++ (bstr [32, 118, 32])) : Value) = v,
    fun τ v => (.pointer (some ⟨b5, 2, none⟩) : Value) = v,
    fun τ v => (.int .i64 a0.2.2.1 : Value) = v,
    fun τ v => (.string r12 : Value) = v,
    fun τ v => (.string ((((bstr [100, 101, 108, 105, 118, 101, 114, 32]) ++ r6) ++ (bstr [32, 118, 32])) ++ r12) : Value) = v,
    fun τ v => (.string (((((bstr [100, 101, 108, 105, 118, 101, 114, 32]) ++ r6) ++ (bstr [32, 118, 32])) ++ r12) ++ (bstr [32])) : Value) = v,
    fun τ v => (.pointer (some ⟨b5, 4, none⟩) : Value) = v,
    fun τ v => (.agg [.int .i64 a0.2.2.2.2.1, .int .i64 (a0.2.2.2.2.2.1.getD 0 0), .int .i64 (a0.2.2.2.2.2.1.getD 1 0), .int .i64 (a0.2.2.2.2.2.1.getD 2 0), .int .i64 (a0.2.2.2.2.2.1.getD 3 0), .int .i64 (a0.2.2.2.2.2.1.getD 4 0), .int .i64 (a0.2.2.2.2.2.1.getD 5 0), v1, v2, .string a0.2.2.2.2.2.2.2.2.1, .string a0.2.2.2.2.2.2.2.2.2].toArray : Value) = v,
    fun τ v => (.string r18 : Value) = v,
    fun τ v => (.string ((((((bstr [100, 101, 108, 105, 118, 101, 114, 32]) ++ r6) ++ (bstr [32, 118, 32])) ++ r12) ++ (bstr [32])) ++ r18) : Value) = v]) (fun _ _ => []) z_mix rfl (tl_mono ⟨fun _ _ _ _ h => h, ⟨fun _ _ _ _ h => h, ⟨fun _ _ _ _ h => h, ⟨fun _ _ _ _ h => h, ⟨fun _ _ _ _ h => h, ⟨fun _ _ _ _ h => h, ⟨fun _ _ _ _ h => h, ⟨fun _ _ _ _ h => h, ⟨fun _ _ _ _ h => h, ⟨fun _ _ _ _ h => h, ⟨fun _ _ _ _ h => h, ⟨fun _ _ _ _ h => h, trivial⟩⟩⟩⟩⟩⟩⟩⟩⟩⟩⟩⟩) (allB_cons (allB_cons (allB_cons (allB_cons (allB_cons (allB_cons (allB_cons (allB_cons (allB_cons (allB_cons (allB_cons (allB_cons allB_nil ?_) ?_) ?_) ?_) ?_) ?_) ?_) ?_) ?_) ?_) ?_) ?_) ?_
    · intro ρ' τ pool rs hl hd hout hk
      refine o_move rfl rfl rfl ((hout 3 rfl).trans rfl) ?_
      exact st_addNil (hk _ _ (Sto.Le.refl _) rfl)
    · intro ρ' τ pool rs hl hd hout hk
      obtain ⟨_, e0, rfl⟩ := hd 0 rfl
      refine o_sadd rfl rfl rfl (ev_str z_str33) e0 hf10 ?_
      exact st_addNil (hk _ _ (Sto.Le.refl _) rfl)
    · intro ρ' τ pool rs hl hd hout hk
      obtain ⟨_, e1, rfl⟩ := hd 1 rfl
      refine o_sadd rfl rfl rfl e1 (ev_str z_str34) hf11 ?_
      exact st_addNil (hk _ _ (Sto.Le.refl _) rfl)
    · intro ρ' τ pool rs hl hd hout hk
      refine o_fieldAddr rfl rfl rfl z_field35_2 ((hout 1 rfl).trans rfl) ?_
      exact st_addNil (hk _ _ (Sto.Le.refl _) rfl)
    · intro ρ' τ pool rs hl hd hout hk
      obtain ⟨_, e3, rfl⟩ := hd 3 rfl
      refine o_load (j := 0) (v := .int .i64 a0.2.2.1) rfl rfl rfl z_sc3 e3 rfl rfl ?_
      exact st_addNil (hk _ _ (Sto.Le.refl _) rfl)
    · intro ρ' τ pool rs hl hd hout hk
      obtain ⟨_, e4, rfl⟩ := hd 4 rfl
      refine st_call (foot := []) rfl rfl rfl rfl (evs_cons e4 rfl) rfl (callV_fn z_en77 (say_Number_ok hr13 τ (hT.up (hl9.trans hl)))) ?_
      rintro vτ14 τ14 gsτ14 hl15 ⟨rfl, rfl⟩
      exact st_addNil (hk _ _ hl15 rfl)
    · intro ρ' τ pool rs hl hd hout hk
      obtain ⟨_, e2, rfl⟩ := hd 2 rfl
      obtain ⟨_, e5, rfl⟩ := hd 5 rfl
      refine o_sadd rfl rfl rfl e2 e5 hf16 ?_
      exact st_addNil (hk _ _ (Sto.Le.refl _) rfl)
    · intro ρ' τ pool rs hl hd hout hk
      obtain ⟨_, e6, rfl⟩ := hd 6 rfl
      refine o_sadd rfl rfl rfl e6 (ev_str z_str25) hf17 ?_
      exact st_addNil (hk _ _ (Sto.Le.refl _) rfl)
    · intro ρ' τ pool rs hl hd hout hk
      refine o_fieldAddr rfl rfl rfl z_field35_4 ((hout 1 rfl).trans rfl) ?_
      exact st_addNil (hk _ _ (Sto.Le.refl _) rfl)
    · intro ρ' τ pool rs hl hd hout hk
      obtain ⟨_, e8, rfl⟩ := hd 8 rfl
      refine o_loadN (j := 0) (vs := [.int .i64 a0.2.2.2.2.1, .int .i64 (a0.2.2.2.2.2.1.getD 0 0), .int .i64 (a0.2.2.2.2.2.1.getD 1 0), .int .i64 (a0.2.2.2.2.2.1.getD 2 0), .int .i64 (a0.2.2.2.2.2.1.getD 3 0), .int .i64 (a0.2.2.2.2.2.1.getD 4 0), .int .i64 (a0.2.2.2.2.2.1.getD 5 0), v1, v2, .string a0.2.2.2.2.2.2.2.2.1, .string a0.2.2.2.2.2.2.2.2.2]) rfl rfl rfl z_agg26 e8 rfl rfl ?_
      exact st_addNil (hk _ _ (Sto.Le.refl _) rfl)
    · intro ρ' τ pool rs hl hd hout hk
      obtain ⟨_, e9, rfl⟩ := hd 9 rfl
      refine st_call (foot := []) rfl rfl rfl rfl (evs_cons e9 rfl) rfl (callV_fn z_en14 (say_Line_ok hr19 τ (hs3.up (hl9.trans hl)) (hs4.up (hl9.trans hl)) (hT.up (hl9.trans hl)))) ?_
      rintro vτ20 τ20 gsτ20 hl21 ⟨rfl, rfl⟩
      exact st_addNil (hk _ _ hl21 rfl)
    · intro ρ' τ pool rs hl hd hout hk
      obtain ⟨_, e7, rfl⟩ := hd 7 rfl
      obtain ⟨_, e10, rfl⟩ := hd 10 rfl
      refine o_sadd rfl rfl rfl e7 e10 hf22 ?_
      exact st_addNil (hk _ _ (Sto.Le.refl _) rfl)
    intro ρ' τ23 vals hl23 hv hout
    have l11 : Eng.look ρ' 23 = some (.string ((((((bstr [100, 101, 108, 105, 118, 101, 114, 32]) ++ r6) ++ (bstr [32, 118, 32])) ++ r12) ++ (bstr [32])) ++ r18)) := ((hv 11 (by decide)).1).trans (congrArg some (show vals 11 = .string ((((((bstr [100, 101, 108, 105, 118, 101, 114, 32]) ++ r6) ++ (bstr [32, 118, 32])) ++ r12) ++ (bstr [32])) ++ r18) from Eq.symm (hv 11 (by decide)).2))
    refine st_ord [0] [[(b5, .cells [.int .i64 a0.1, .int .u32 a0.2.1, .int .i64 a0.2.2.1, .int .i64 a0.2.2.2.1, .int .i64 a0.2.2.2.2.1, .int .i64 (a0.2.2.2.2.2.1.getD 0 0), .int .i64 (a0.2.2.2.2.2.1.getD 1 0), .int .i64 (a0.2.2.2.2.2.1.getD 2 0), .int .i64 (a0.2.2.2.2.2.1.getD 3 0), .int .i64 (a0.2.2.2.2.2.1.getD 4 0), .int .i64 (a0.2.2.2.2.2.1.getD 5 0), v1, v2, .string a0.2.2.2.2.2.2.2.2.1, .string a0.2.2.2.2.2.2.2.2.2].toArray 35 (0, 0))]] rfl ?_
    refine st_env (ρ' := [(23, .string ((((((bstr [100, 101, 108, 105, 118, 101, 114, 32]) ++ r6) ++ (bstr [32, 118, 32])) ++ r12) ++ (bstr [32])) ++ r18)), (2, .string (bstr []))]) ⟨l11, (hout 2 rfl).trans rfl, trivial⟩ ?_
    refine Z 2 rfl ?_
    refine st_ord [] [] rfl ?_
    obtain rfl := Eq.symm h
    exact st_ret (gs' := []) Tryd.func25 rfl (List.Sublist.refl _) (hl9.trans hl23) ⟨rfl, rfl⟩
  · replace h := (if_neg (ne_t hc)).mp h
    refine Z 5 rfl ?_
    refine st_cond rfl (fun hc => ?_) (fun hc => ?_)
    · replace h := (if_pos hc).mp h
      refine Z 3 rfl ?_
      obtain ⟨hf24, h⟩ := h
      refine o_sadd rfl rfl rfl (ev_str z_str35) rfl hf24 ?_
      obtain ⟨hf25, h⟩ := h
      refine o_sadd rfl rfl rfl rfl (ev_str z_str25) hf25 ?_
      refine o_fieldAddr rfl rfl rfl z_field35_3 rfl ?_
      refine o_load (j := 0) (v := .int .i64 a0.2.2.2.1) rfl rfl rfl z_sc28 rfl rfl rfl ?_
      obtain ⟨r26, hr27, h⟩ := h
      refine st_call (foot := []) rfl rfl rfl rfl rfl rfl (callV_fn z_en28 (event_Word_ok hr27 τ8)) ?_
      rintro vτ28 τ28 gsτ28 hl29 ⟨rfl, rfl⟩
      obtain ⟨hf30, h⟩ := h
      refine o_sadd rfl rfl rfl rfl rfl hf30 ?_
      refine Z 2 rfl ?_
      refine st_ord [] [] rfl ?_
      obtain rfl := Eq.symm h
      exact st_ret (gs' := []) Tryd.func25 rfl (List.Sublist.refl _) (hl9.trans hl29) ⟨rfl, rfl⟩
    · replace h := (if_neg (ne_t hc)).mp h
      refine Z 5 rfl ?_
      refine st_cond rfl (fun hc => ?_) (fun hc => ?_)
      · replace h := (if_pos hc).mp h
        refine Z 3 rfl ?_
        obtain ⟨hf31, h⟩ := h
        refine o_sadd rfl rfl rfl (ev_str z_str51) rfl hf31 ?_
        refine Z 2 rfl ?_
        refine st_ord [] [] rfl ?_
        obtain rfl := Eq.symm h
        exact st_ret (gs' := []) Tryd.func25 rfl (List.Sublist.refl _) hl9 ⟨rfl, rfl⟩
      · replace h := (if_neg (ne_t hc)).mp h
        refine Z 4 rfl ?_
        refine o_assign rfl rfl rfl (ev_str z_str19) ?_
        refine st_end ?_
        refine st_ord [] [] rfl ?_
        obtain rfl := Eq.symm h
        exact st_ret (gs' := []) Tryd.func25 rfl (List.Sublist.refl _) hl9 ⟨rfl, rfl⟩
theorem event_Rejection_ok {a0 : Int} {a1 : Int} {r : (Int × Int × Int × Int × (Int × List Int × List (Int × Int) × List Int × ByteArray × ByteArray))} (h : event_Rejection a0 a1 r) (σ : Sto)  :
    Does Tryd.prog 22 [.int .u32 a0, .int .i64 a1] σ [] (fun v τ gs => ∃ (v2 : Value) (v3 : Value), gs = [] ∧ .agg [.int .i64 r.1, .int .u32 r.2.1, .int .i64 r.2.2.1, .int .i64 r.2.2.2.1, .int .i64 r.2.2.2.2.1, .int .i64 (r.2.2.2.2.2.1.getD 0 0), .int .i64 (r.2.2.2.2.2.1.getD 1 0), .int .i64 (r.2.2.2.2.2.1.getD 2 0), .int .i64 (r.2.2.2.2.2.1.getD 3 0), .int .i64 (r.2.2.2.2.2.1.getD 4 0), .int .i64 (r.2.2.2.2.2.1.getD 5 0), v2, v3, .string r.2.2.2.2.2.2.2.2.1, .string r.2.2.2.2.2.2.2.2.2].toArray = v ∧ Sl (kP (kI .i64) (kI .i64)) τ v2 r.2.2.2.2.2.2.1 ∧ Sl (kI .i64) τ v3 r.2.2.2.2.2.2.2.1) := by
  refine call_of Tryd.func22 Tryd.ntmps22 rfl rfl (fun cs fs => ?_)
  refine Z 2 rfl ?_
  refine o_alloc rfl rfl rfl z_zero35 (fun b1 => ?_)
  refine Z 5 rfl ?_
  refine o_build (ps := [(0, [.int .i64 2]), (1, [.int .u32 a0]), (3, [.int .i64 a1])]) (cs := [.int .i64 2, .int .u32 a0, .int .i64 0, .int .i64 a1, .int .i64 0, .int .i64 0, .int .i64 0, .int .i64 0, .int .i64 0, .int .i64 0, .int .i64 0, .slice none 0 0, .slice none 0 0, .string (bstr []), .string (bstr [])]) rfl rfl rfl z_struct35 ⟨rfl, ⟨_, rfl, rfl⟩, ⟨rfl, ⟨_, rfl, rfl⟩, ⟨rfl, ⟨_, rfl, rfl⟩, trivial⟩⟩⟩ rfl ?_
  refine o_store (j := 0) (vs := [.int .i64 2, .int .u32 a0, .int .i64 0, .int .i64 a1, .int .i64 0, .int .i64 0, .int .i64 0, .int .i64 0, .int .i64 0, .int .i64 0, .int .i64 0, .slice none 0 0, .slice none 0 0, .string (bstr []), .string (bstr [])]) (cs' := [.int .i64 2, .int .u32 a0, .int .i64 0, .int .i64 a1, .int .i64 0, .int .i64 0, .int .i64 0, .int .i64 0, .int .i64 0, .int .i64 0, .int .i64 0, .slice none 0 0, .slice none 0 0, .string (bstr []), .string (bstr [])]) rfl rfl rfl z_size35 rfl rfl rfl (ones_cons rfl (ones_cons rfl (ones_cons rfl (ones_cons rfl (ones_cons rfl (ones_cons rfl (ones_cons rfl (ones_cons rfl (ones_cons rfl (ones_cons rfl (ones_cons rfl (ones_cons rfl (ones_cons rfl (ones_cons rfl (ones_cons rfl ones_nil))))))))))))))) rfl rfl rfl ?_
  refine st_gs [[(b1, .cells [.int .i64 2, .int .u32 a0, .int .i64 0, .int .i64 a1, .int .i64 0, .int .i64 0, .int .i64 0, .int .i64 0, .int .i64 0, .int .i64 0, .int .i64 0, .slice none 0 0, .slice none 0 0, .string (bstr []), .string (bstr [])].toArray 35 (0, 0))]] rfl ?_
  refine st_end ?_
  obtain rfl := Eq.symm h
  exact st_retC (gs' := []) [.agg [.int .i64 2, .int .u32 a0, .int .i64 0, .int .i64 a1, .int .i64 0, .int .i64 0, .int .i64 0, .int .i64 0, .int .i64 0, .int .i64 0, .int .i64 0, .slice none 0 0, .slice none 0 0, .string (bstr []), .string (bstr [])].toArray] Tryd.func22 ⟨⟨_, _, _, _, rfl, mem_flat 0 rfl, fun w hw => cellOfN (vs := [.int .i64 2, .int .u32 a0, .int .i64 0, .int .i64 a1, .int .i64 0, .int .i64 0, .int .i64 0, .int .i64 0, .int .i64 0, .int .i64 0, .int .i64 0, .slice none 0 0, .slice none 0 0, .string (bstr []), .string (bstr [])]) z_agg35 rfl w hw⟩, trivial⟩ (by simp) (Sto.Le.refl _) ⟨_, _, rfl, rfl, Sl.nil, Sl.nil⟩
theorem event_Eviction_ok {a0 : Int} {r : (Int × Int × Int × Int × (Int × List Int × List (Int × Int) × List Int × ByteArray × ByteArray))} (h : event_Eviction a0 r) (σ : Sto)  :
    Does Tryd.prog 23 [.int .u32 a0] σ [] (fun v τ gs => ∃ (v2 : Value) (v3 : Value), gs = [] ∧ .agg [.int .i64 r.1, .int .u32 r.2.1, .int .i64 r.2.2.1, .int .i64 r.2.2.2.1, .int .i64 r.2.2.2.2.1, .int .i64 (r.2.2.2.2.2.1.getD 0 0), .int .i64 (r.2.2.2.2.2.1.getD 1 0), .int .i64 (r.2.2.2.2.2.1.getD 2 0), .int .i64 (r.2.2.2.2.2.1.getD 3 0), .int .i64 (r.2.2.2.2.2.1.getD 4 0), .int .i64 (r.2.2.2.2.2.1.getD 5 0), v2, v3, .string r.2.2.2.2.2.2.2.2.1, .string r.2.2.2.2.2.2.2.2.2].toArray = v ∧ Sl (kP (kI .i64) (kI .i64)) τ v2 r.2.2.2.2.2.2.1 ∧ Sl (kI .i64) τ v3 r.2.2.2.2.2.2.2.1) := by
  refine call_of Tryd.func23 Tryd.ntmps23 rfl rfl (fun cs fs => ?_)
  refine Z 2 rfl ?_
  refine o_alloc rfl rfl rfl z_zero35 (fun b1 => ?_)
  refine Z 4 rfl ?_
  refine o_build (ps := [(0, [.int .i64 3]), (1, [.int .u32 a0])]) (cs := [.int .i64 3, .int .u32 a0, .int .i64 0, .int .i64 0, .int .i64 0, .int .i64 0, .int .i64 0, .int .i64 0, .int .i64 0, .int .i64 0, .int .i64 0, .slice none 0 0, .slice none 0 0, .string (bstr []), .string (bstr [])]) rfl rfl rfl z_struct35 ⟨rfl, ⟨_, rfl, rfl⟩, ⟨rfl, ⟨_, rfl, rfl⟩, trivial⟩⟩ rfl ?_
  refine o_store (j := 0) (vs := [.int .i64 3, .int .u32 a0, .int .i64 0, .int .i64 0, .int .i64 0, .int .i64 0, .int .i64 0, .int .i64 0, .int .i64 0, .int .i64 0, .int .i64 0, .slice none 0 0, .slice none 0 0, .string (bstr []), .string (bstr [])]) (cs' := [.int .i64 3, .int .u32 a0, .int .i64 0, .int .i64 0, .int .i64 0, .int .i64 0, .int .i64 0, .int .i64 0, .int .i64 0, .int .i64 0, .int .i64 0, .slice none 0 0, .slice none 0 0, .string (bstr []), .string (bstr [])]) rfl rfl rfl z_size35 rfl rfl rfl (ones_cons rfl (ones_cons rfl (ones_cons rfl (ones_cons rfl (ones_cons rfl (ones_cons rfl (ones_cons rfl (ones_cons rfl (ones_cons rfl (ones_cons rfl (ones_cons rfl (ones_cons rfl (ones_cons rfl (ones_cons rfl (ones_cons rfl ones_nil))))))))))))))) rfl rfl rfl ?_
  refine st_gs [[(b1, .cells [.int .i64 3, .int .u32 a0, .int .i64 0, .int .i64 0, .int .i64 0, .int .i64 0, .int .i64 0, .int .i64 0, .int .i64 0, .int .i64 0, .int .i64 0, .slice none 0 0, .slice none 0 0, .string (bstr []), .string (bstr [])].toArray 35 (0, 0))]] rfl ?_
  refine st_end ?_
  obtain rfl := Eq.symm h
  exact st_retC (gs' := []) [.agg [.int .i64 3, .int .u32 a0, .int .i64 0, .int .i64 0, .int .i64 0, .int .i64 0, .int .i64 0, .int .i64 0, .int .i64 0, .int .i64 0, .int .i64 0, .slice none 0 0, .slice none 0 0, .string (bstr []), .string (bstr [])].toArray] Tryd.func23 ⟨⟨_, _, _, _, rfl, mem_flat 0 rfl, fun w hw => cellOfN (vs := [.int .i64 3, .int .u32 a0, .int .i64 0, .int .i64 0, .int .i64 0, .int .i64 0, .int .i64 0, .int .i64 0, .int .i64 0, .int .i64 0, .int .i64 0, .slice none 0 0, .slice none 0 0, .string (bstr []), .string (bstr [])]) z_agg35 rfl w hw⟩, trivial⟩ (by simp) (Sto.Le.refl _) ⟨_, _, rfl, rfl, Sl.nil, Sl.nil⟩
theorem law23_known_ok  {r : Bool} (h : law23_known r) (σ : Sto) (hT : Tab Tryd.prog σ) :
    Does Tryd.prog 21 [] σ [] (fun v τ gs => gs = [] ∧ .bool r = v) := by
  refine call_of Tryd.func21 Tryd.ntmps21 rfl rfl (fun cs fs => ?_)
  refine Z 6 rfl ?_
  refine o_buildA (ps := [(0, [.int .i64 1]), (1, [.int .i64 2])]) (cs := [.int .i64 1, .int .i64 2, .int .i64 0, .int .i64 0, .int .i64 0, .int .i64 0]) rfl rfl rfl z_arrz22 ⟨rfl, ⟨_, rfl, rfl⟩, ⟨rfl, ⟨_, rfl, rfl⟩, trivial⟩⟩ rfl ?_
  refine o_build (ps := [(0, [.int .i64 2]), (1, [.int .i64 1, .int .i64 2, .int .i64 0, .int .i64 0, .int .i64 0, .int .i64 0])]) (cs := [.int .i64 2, .int .i64 1, .int .i64 2, .int .i64 0, .int .i64 0, .int .i64 0, .int .i64 0, .slice none 0 0, .slice none 0 0, .string (bstr []), .string (bstr [])]) rfl rfl rfl z_struct26 ⟨rfl, ⟨_, rfl, rfl⟩, ⟨rfl, ⟨_, rfl, rfl⟩, trivial⟩⟩ rfl ?_
  obtain ⟨r1, hr2, h⟩ := h
  refine st_call (foot := []) rfl rfl rfl rfl rfl rfl (callV_fn z_en17 (event_Delivery_ok hr2 σ Sl.nil Sl.nil)) ?_
  rintro vτ3 τ3 gsτ3 hl4 ⟨v5, v6, rfl, rfl, hs7, hs8⟩
  obtain ⟨r9, hr10, h⟩ := h
  refine st_call (foot := []) rfl rfl rfl rfl rfl rfl (callV_fn z_en25 (event_Line_ok hr10 τ3 hs7 hs8 (hT.up hl4))) ?_
  rintro vτ11 τ11 gsτ11 hl12 ⟨rfl, rfl⟩
  refine Z 3 rfl ?_
  refine st_cut (fun ρ τ13 gs => ∃ (s13 : Bool), law23_known_j1 s13 r ∧ τ11.Le τ13 ∧ ρ = [(0, .bool s13)] ∧ gs = []) ?_ (fun hk13 => ?_)
  · rintro ρ13 τ13 gs13 ⟨s13, h, hl13, rfl, rfl⟩
    obtain rfl := Eq.symm h
    exact st_ret (gs' := []) Tryd.func21 rfl (List.Sublist.refl _) ((hl4.trans hl12).trans hl13) ⟨rfl, rfl⟩
  refine Z 2 rfl ?_
  refine o_sbin (v := .bool (decide (r9 = (bstr [100, 101, 108, 105, 118, 101, 114, 32, 55, 32, 118, 32, 49, 32, 104, 111, 108, 100, 32, 114, 111, 98, 111, 116, 32, 49, 32, 114, 101, 97, 115, 111, 110, 32, 50, 32, 122, 111, 110, 101, 32, 48])))) rfl rfl rfl rfl (ev_str z_str52) rfl ?_
  refine o_moveB rfl rfl rfl rfl (fun hc => ?_) (fun hc => ?_)
  · replace h := (if_pos hc).mp h
    obtain ⟨r14, hr15, h⟩ := h
    refine st_call (foot := []) rfl rfl rfl rfl rfl rfl (callV_fn z_en22 (event_Rejection_ok hr15 τ11)) ?_
    rintro vτ16 τ16 gsτ16 hl17 ⟨v18, v19, rfl, rfl, hs20, hs21⟩
    obtain ⟨r22, hr23, h⟩ := h
    refine st_call (foot := []) rfl rfl rfl rfl rfl rfl (callV_fn z_en25 (event_Line_ok hr23 τ16 hs20 hs21 (hT.up ((hl4.trans hl12).trans hl17)))) ?_
    rintro vτ24 τ24 gsτ24 hl25 ⟨rfl, rfl⟩
    refine o_sbin (v := .bool (decide (r22 = (bstr [114, 101, 106, 101, 99, 116, 32, 48, 32, 115, 117, 109])))) rfl rfl rfl rfl (ev_str z_str53) rfl ?_
    refine o_pick rfl rfl rfl rfl rfl ?_
    refine o_moveB rfl rfl rfl rfl (fun hc => ?_) (fun hc => ?_)
    · replace h := (if_pos hc).mp h
      obtain ⟨r26, hr27, h⟩ := h
      refine st_call (foot := []) rfl rfl rfl rfl rfl rfl (callV_fn z_en23 (event_Eviction_ok hr27 τ24)) ?_
      rintro vτ28 τ28 gsτ28 hl29 ⟨v30, v31, rfl, rfl, hs32, hs33⟩
      obtain ⟨r34, hr35, h⟩ := h
      refine st_call (foot := []) rfl rfl rfl rfl rfl rfl (callV_fn z_en25 (event_Line_ok hr35 τ28 hs32 hs33 (hT.up ((((hl4.trans hl12).trans hl17).trans hl25).trans hl29)))) ?_
      rintro vτ36 τ36 gsτ36 hl37 ⟨rfl, rfl⟩
      refine o_sbin (v := .bool (decide (r34 = (bstr [101, 118, 105, 99, 116, 32, 53])))) rfl rfl rfl rfl (ev_str z_str54) rfl ?_
      refine Z 3 rfl ?_
      refine st_env (ρ' := [(0, .bool (decide (r34 = (bstr [101, 118, 105, 99, 116, 32, 53]))))]) ⟨rfl, trivial⟩ ?_
      exact hk13 _ _ _ ⟨(decide (r34 = (bstr [101, 118, 105, 99, 116, 32, 53]))), h, (((hl17.trans hl25).trans hl29).trans hl37), rfl, rfl⟩
    · replace h := (if_neg (ne_t hc)).mp h
      refine Z 6 rfl ?_
      refine st_env (ρ' := [(0, .bool false)]) ⟨rfl, trivial⟩ ?_
      exact hk13 _ _ _ ⟨false, h, (hl17.trans hl25), rfl, rfl⟩
  · replace h := (if_neg (ne_t hc)).mp h
    refine Z 11 rfl ?_
    refine st_env (ρ' := [(0, .bool false)]) ⟨rfl, trivial⟩ ?_
    exact hk13 _ _ _ ⟨false, h, (Sto.Le.refl _), rfl, rfl⟩
theorem ref07_Digits_ok {a0 : Int} {r : ByteArray} (h : ref07_Digits a0 r) (σ : Sto)  :
    Does Tryd.prog 78 [.int .i64 a0] σ [] (fun v τ gs => gs = [] ∧ .string r = v) := by
  refine call_of Tryd.func78 Tryd.ntmps78 rfl rfl (fun cs fs => ?_)
  refine Z 2 rfl ?_
  refine o_assign rfl rfl rfl (ev_str z_str19) ?_
  refine Z 7 rfl ?_
  refine st_cond rfl (fun hc => ?_) (fun hc => ?_)
  · replace h := (if_pos hc).mp h
    refine Z 2 rfl ?_
    refine o_assign rfl rfl rfl (ev_str z_str19) ?_
    refine Z 2 rfl ?_
    refine st_cut (fun ρ τ1 gs => ∃ (s1 : Int × ByteArray), ref07_Digits_j1 s1 r ∧ σ.Le τ1 ∧ ρ = [(0, .int .i64 s1.1), (2, .string (bstr [])), (3, .string s1.2)] ∧ gs = []) ?_ (fun hk1 => ?_)
    · rintro ρ1 τ1 gs1 ⟨s1, h, hl1, rfl, rfl⟩
      refine Z 3 rfl ?_
      obtain ⟨hf2, h⟩ := h
      refine o_sadd rfl rfl rfl (ev_str z_str28) rfl hf2 ?_
      refine Z 2 rfl ?_
      obtain rfl := Eq.symm h
      exact st_ret (gs' := []) Tryd.func78 rfl (List.Sublist.refl _) hl1 ⟨rfl, rfl⟩
    obtain ⟨e3, hL3, hA3⟩ := h
    refine st_env (ρ' := [(0, .int .i64 a0), (2, .string (bstr [])), (3, .string (bstr []))]) ⟨rfl, rfl, rfl, trivial⟩ ?_
    refine st_loop hL3 (fun (s3 : Int × ByteArray) ρ τ3 gs => σ.Le τ3 ∧ ρ = [(0, .int .i64 s3.1), (2, .string (bstr [])), (3, .string s3.2)] ∧ gs = []) ⟨Sto.Le.refl _, rfl, rfl⟩ ?_
    rintro s3 o3 h he3 ρ3 τ3 gs3 ⟨hl3, rfl, rfl⟩ hn3
    refine Z 6 rfl ?_
    refine st_cond rfl (fun hc => ?_) (fun hc => ?_)
    · replace h := (if_pos hc).mp h
      refine Z 8 rfl ?_
      refine o_lit (dk := (kI .u8)) (xs := [(IntKind.u8.wrap (IntKind.i64.wrap (48 - (s3.1.tmod 10))))]) (ps := [(0, [.int .u8 (IntKind.u8.wrap (IntKind.i64.wrap (48 - (s3.1.tmod 10))))])]) (cs := [.int .u8 (IntKind.u8.wrap (IntKind.i64.wrap (48 - (s3.1.tmod 10))))]) rfl rfl rfl z_slT67 z_zero5 ⟨rfl, ⟨_, rfl, rfl⟩, trivial⟩ rfl rfl rfl rfl (Kd.Many.cons (d := (kI .u8)) (x := (IntKind.u8.wrap (IntKind.i64.wrap (48 - (s3.1.tmod 10))))) (a := [.int .u8 (IntKind.u8.wrap (IntKind.i64.wrap (48 - (s3.1.tmod 10))))]) rfl Kd.Many.nil) (fun v4 g5 ho6 => ?_)
      refine st_freeze (fun τ7 hl8 hg9 => ?_)
      have hs10 := ho6.freeze hl8 hg9
      refine o_bstr (xs := [(IntKind.u8.wrap (IntKind.i64.wrap (48 - (s3.1.tmod 10))))]) rfl rfl rfl Tryd.underlying67 Tryd.underlying5 Tryd.underlying9 rfl hs10 ?_
      refine o_move rfl rfl rfl rfl ?_
      obtain ⟨hf11, h⟩ := h
      refine o_sadd rfl rfl rfl rfl rfl hf11 ?_
      refine Z 8 rfl ?_
      refine st_env (ρ' := [(0, .int .i64 (IntKind.i64.wrap (s3.1.tdiv 10))), (2, .string (bstr [])), (3, .string ((bstr [(IntKind.u8.wrap (IntKind.i64.wrap (48 - (s3.1.tmod 10))))]) ++ s3.2))]) ⟨rfl, rfl, rfl, trivial⟩ ?_
      exact hn3 _ _ _ _ h ⟨(hl3.trans hl8), rfl, rfl⟩
    · replace h := (if_neg (ne_t hc)).mp h
      refine st_exit rfl ?_
      obtain rfl := he3 _ h
      replace h := hA3
      refine st_env (ρ' := [(0, .int .i64 s3.1), (2, .string (bstr [])), (3, .string s3.2)]) ⟨rfl, rfl, rfl, trivial⟩ ?_
      exact hk1 _ _ _ ⟨(s3.1, s3.2), h, hl3, rfl, rfl⟩
  · replace h := (if_neg (ne_t hc)).mp h
    refine Z 3 rfl ?_
    refine o_assign rfl rfl rfl (ev_str z_str19) ?_
    refine Z 2 rfl ?_
    refine st_cut (fun ρ τ13 gs => ∃ (s13 : Int × ByteArray), ref07_Digits_j3 s13 r ∧ σ.Le τ13 ∧ ρ = [(0, .int .i64 s13.1), (2, .string (bstr [])), (4, .string s13.2)] ∧ gs = []) ?_ (fun hk13 => ?_)
    · rintro ρ13 τ13 gs13 ⟨s13, h, hl13, rfl, rfl⟩
      refine Z 5 rfl ?_
      refine o_lit (dk := (kI .u8)) (xs := [(IntKind.u8.wrap (IntKind.i64.wrap (48 + s13.1)))]) (ps := [(0, [.int .u8 (IntKind.u8.wrap (IntKind.i64.wrap (48 + s13.1)))])]) (cs := [.int .u8 (IntKind.u8.wrap (IntKind.i64.wrap (48 + s13.1)))]) rfl rfl rfl z_slT67 z_zero5 ⟨rfl, ⟨_, rfl, rfl⟩, trivial⟩ rfl rfl rfl rfl (Kd.Many.cons (d := (kI .u8)) (x := (IntKind.u8.wrap (IntKind.i64.wrap (48 + s13.1)))) (a := [.int .u8 (IntKind.u8.wrap (IntKind.i64.wrap (48 + s13.1)))]) rfl Kd.Many.nil) (fun v14 g15 ho16 => ?_)
      refine st_freeze (fun τ17 hl18 hg19 => ?_)
      have hs20 := ho16.freeze hl18 hg19
      refine o_bstr (xs := [(IntKind.u8.wrap (IntKind.i64.wrap (48 + s13.1)))]) rfl rfl rfl Tryd.underlying67 Tryd.underlying5 Tryd.underlying9 rfl hs20 ?_
      refine o_move rfl rfl rfl rfl ?_
      obtain ⟨hf21, h⟩ := h
      refine o_sadd rfl rfl rfl rfl rfl hf21 ?_
      refine Z 2 rfl ?_
      obtain rfl := Eq.symm h
      exact st_ret (gs' := []) Tryd.func78 rfl (List.Sublist.refl _) (hl13.trans hl18) ⟨rfl, rfl⟩
    obtain ⟨e22, hL22, hA22⟩ := h
    refine st_env (ρ' := [(0, .int .i64 a0), (2, .string (bstr [])), (4, .string (bstr []))]) ⟨rfl, rfl, rfl, trivial⟩ ?_
    refine st_loop hL22 (fun (s22 : Int × ByteArray) ρ τ22 gs => σ.Le τ22 ∧ ρ = [(0, .int .i64 s22.1), (2, .string (bstr [])), (4, .string s22.2)] ∧ gs = []) ⟨Sto.Le.refl _, rfl, rfl⟩ ?_
    rintro s22 o22 h he22 ρ22 τ22 gs22 ⟨hl22, rfl, rfl⟩ hn22
    refine Z 6 rfl ?_
    refine st_cond rfl (fun hc => ?_) (fun hc => ?_)
    · replace h := (if_pos hc).mp h
      refine Z 8 rfl ?_
      refine o_lit (dk := (kI .u8)) (xs := [(IntKind.u8.wrap (IntKind.i64.wrap (48 + (s22.1.tmod 10))))]) (ps := [(0, [.int .u8 (IntKind.u8.wrap (IntKind.i64.wrap (48 + (s22.1.tmod 10))))])]) (cs := [.int .u8 (IntKind.u8.wrap (IntKind.i64.wrap (48 + (s22.1.tmod 10))))]) rfl rfl rfl z_slT67 z_zero5 ⟨rfl, ⟨_, rfl, rfl⟩, trivial⟩ rfl rfl rfl rfl (Kd.Many.cons (d := (kI .u8)) (x := (IntKind.u8.wrap (IntKind.i64.wrap (48 + (s22.1.tmod 10))))) (a := [.int .u8 (IntKind.u8.wrap (IntKind.i64.wrap (48 + (s22.1.tmod 10))))]) rfl Kd.Many.nil) (fun v23 g24 ho25 => ?_)
      refine st_freeze (fun τ26 hl27 hg28 => ?_)
      have hs29 := ho25.freeze hl27 hg28
      refine o_bstr (xs := [(IntKind.u8.wrap (IntKind.i64.wrap (48 + (s22.1.tmod 10))))]) rfl rfl rfl Tryd.underlying67 Tryd.underlying5 Tryd.underlying9 rfl hs29 ?_
      refine o_move rfl rfl rfl rfl ?_
      obtain ⟨hf30, h⟩ := h
      refine o_sadd rfl rfl rfl rfl rfl hf30 ?_
      refine Z 8 rfl ?_
      refine st_env (ρ' := [(0, .int .i64 (IntKind.i64.wrap (s22.1.tdiv 10))), (2, .string (bstr [])), (4, .string ((bstr [(IntKind.u8.wrap (IntKind.i64.wrap (48 + (s22.1.tmod 10))))]) ++ s22.2))]) ⟨rfl, rfl, rfl, trivial⟩ ?_
      exact hn22 _ _ _ _ h ⟨(hl22.trans hl27), rfl, rfl⟩
    · replace h := (if_neg (ne_t hc)).mp h
      refine st_exit rfl ?_
      obtain rfl := he22 _ h
      replace h := hA22
      refine st_env (ρ' := [(0, .int .i64 s22.1), (2, .string (bstr [])), (4, .string s22.2)]) ⟨rfl, rfl, rfl, trivial⟩ ?_
      exact hk13 _ _ _ ⟨(s22.1, s22.2), h, hl22, rfl, rfl⟩
theorem ref16_All_ok {a0 : Int} {r : (List (ByteArray × Int × Int × Int × Int × Int × Int))} (h : ref16_All a0 r) (σ : Sto)  :
    Does Tryd.prog 116 [.int .i64 a0] σ [] (fun v τ gs => ∃ (v55 : Value), gs = [] ∧ v55 = v ∧ Sl (kP kS (kP (kI .i64) (kP (kI .i64) (kP (kI .i64) (kP (kI .i64) (kP (kI .i64) (kI .i64))))))) τ v55 r) := by
  refine call_of Tryd.func116 Tryd.ntmps116 rfl rfl (fun cs fs => ?_)
  refine Z 14 rfl ?_
  refine o_lit (dk := (kP kS (kP (kI .i64) (kP (kI .i64) (kP (kI .i64) (kP (kI .i64) (kP (kI .i64) (kI .i64)))))))) (xs := ([] : List (ByteArray × Int × Int × Int × Int × Int × Int))) (ps := []) (cs := []) rfl rfl rfl z_slT180 z_zero182 trivial rfl rfl rfl rfl Kd.Many.nil (fun v1 g2 ho3 => ?_)
  refine Z 3 rfl ?_
  refine st_cut (fun ρ τ4 gs => ∃ (s4 : (List (ByteArray × Int × Int × Int × Int × Int × Int))) (v5 : Value) (g6 : Grp), ref16_All_j1 s4 r ∧ σ.Le τ4 ∧ ρ = [(2, .slice none 0 0), (3, .slice none 0 0), (4, .int .i64 0), (5, v5)] ∧ gs = [g6] ∧ Ow (kP kS (kP (kI .i64) (kP (kI .i64) (kP (kI .i64) (kP (kI .i64) (kP (kI .i64) (kI .i64))))))) 182 τ4 v5 s4 g6) ?_ (fun hk4 => ?_)
  · rintro ρ4 τ4 gs4 ⟨s4, v5, g6, h, hl4, rfl, rfl, ho7⟩
    refine st_seq ?_
    refine st_cut (fun ρ τ8 gs => ∃ (s8 : (List (ByteArray × Int × Int × Int × Int × Int × Int))) (v9 : Value) (g10 : Grp), ref16_All_j2 s8 r ∧ τ4.Le τ8 ∧ ρ = [(2, .slice none 0 0), (3, v9)] ∧ gs = [g10] ∧ Ow (kP kS (kP (kI .i64) (kP (kI .i64) (kP (kI .i64) (kP (kI .i64) (kP (kI .i64) (kI .i64))))))) 182 τ8 v9 s8 g10) ?_ (fun hk8 => ?_)
    · rintro ρ8 τ8 gs8 ⟨s8, v9, g10, h, hl8, rfl, rfl, ho11⟩
      refine Z 5 rfl ?_
      refine st_freeze (fun τ12 hl13 hg14 => ?_)
      have hs15 := ho11.freeze hl13 hg14
      obtain rfl := Eq.symm h
      exact st_ret (gs' := []) Tryd.func116 rfl (List.Sublist.refl _) ((hl4.trans hl8).trans hl13) ⟨_, rfl, rfl, hs15⟩
    refine Z 4 rfl ?_
    obtain ⟨e18, hL18, hA18⟩ := h
    refine st_env (ρ' := [(2, .slice none 0 0), (3, .slice none 0 0), (4, .int .i64 0), (5, v5), (6, .int .i64 0)]) ⟨rfl, rfl, rfl, rfl, rfl, trivial⟩ ?_
    refine st_addNil ?_
    refine st_ord [1, 0] [g6, []] rfl ?_
    refine st_loop hL18 (fun (s18 : (List (ByteArray × Int × Int × Int × Int × Int × Int)) × Int × Int) ρ τ18 gs => τ4.Le τ18 ∧ ∃ (v19 : Value) (g20 : Grp), ρ = [(2, .slice none 0 0), (3, v19), (4, .int .i64 s18.2.1), (5, v5), (6, .int .i64 s18.2.2)] ∧ gs = [g6, g20] ∧ Ow (kP kS (kP (kI .i64) (kP (kI .i64) (kP (kI .i64) (kP (kI .i64) (kP (kI .i64) (kI .i64))))))) 182 τ18 v19 s18.1 g20) ⟨Sto.Le.refl _, _, _, rfl, rfl, Ow.nil⟩ ?_
    rintro s18 o18 h he18 ρ18 τ18 gs18 ⟨hl18, v19, g20, rfl, rfl, ho21⟩ hn18
    refine Z 5 rfl ?_
    refine o_lenO rfl rfl rfl z_slT180 rfl (ho7.up hl18) ?_
    refine Z 2 rfl ?_
    refine st_cond rfl (fun hc => ?_) (fun hc => ?_)
    · replace h := (if_pos hc).mp h
      refine Z 7 rfl ?_
      obtain ⟨q22, hf23, h⟩ := h
      refine o_indexOw rfl rfl rfl z_slT180 rfl rfl (ho7.up hl18) rfl hf23 (fun b24 hb25 => ?_)
      obtain ⟨vs26, hrep27, hat28⟩ := Ow.at (ho7.up hl18) hb25 hf23
      obtain ⟨_, _, rfl, rfl, ⟨_, _, rfl, rfl, ⟨_, _, rfl, rfl, ⟨_, _, rfl, rfl, ⟨_, _, rfl, rfl, ⟨_, _, rfl, rfl, rfl⟩⟩⟩⟩⟩⟩ := hrep27
      refine o_loadOwN (j := 0) (off := 0) (us := [.string q22.1, .int .i64 q22.2.1, .int .i64 q22.2.2.1, .int .i64 q22.2.2.2.1, .int .i64 q22.2.2.2.2.1, .int .i64 q22.2.2.2.2.2.1, .int .i64 q22.2.2.2.2.2.2]) rfl rfl rfl z_agg182 rfl hat28 rfl (by exact rfl) ?_
      refine o_alloc rfl rfl rfl z_zero182 (fun b29 => ?_)
      refine o_store (j := 0) (vs := [.string q22.1, .int .i64 q22.2.1, .int .i64 q22.2.2.1, .int .i64 q22.2.2.2.1, .int .i64 q22.2.2.2.2.1, .int .i64 q22.2.2.2.2.2.1, .int .i64 q22.2.2.2.2.2.2]) (cs' := [.string q22.1, .int .i64 q22.2.1, .int .i64 q22.2.2.1, .int .i64 q22.2.2.2.1, .int .i64 q22.2.2.2.2.1, .int .i64 q22.2.2.2.2.2.1, .int .i64 q22.2.2.2.2.2.2]) rfl rfl rfl z_size182 rfl rfl rfl (ones_cons rfl (ones_cons rfl (ones_cons rfl (ones_cons rfl (ones_cons rfl (ones_cons rfl (ones_cons rfl ones_nil))))))) rfl rfl rfl ?_
      refine st_gs [[(b29, .cells [.string q22.1, .int .i64 q22.2.1, .int .i64 q22.2.2.1, .int .i64 q22.2.2.2.1, .int .i64 q22.2.2.2.2.1, .int .i64 q22.2.2.2.2.2.1, .int .i64 q22.2.2.2.2.2.2].toArray 182 (0, 0))], g6, g20] rfl ?_
      refine Z 4 rfl ?_
      refine o_store (j := 0) (vs := [.int .i64 (-1)]) (cs' := [.string q22.1, .int .i64 q22.2.1, .int .i64 (-1), .int .i64 q22.2.2.2.1, .int .i64 q22.2.2.2.2.1, .int .i64 q22.2.2.2.2.2.1, .int .i64 q22.2.2.2.2.2.2]) rfl rfl rfl z_size3 rfl rfl rfl (ones_cons rfl ones_nil) rfl rfl rfl ?_
      refine st_gs [[(b29, .cells [.string q22.1, .int .i64 q22.2.1, .int .i64 (-1), .int .i64 q22.2.2.2.1, .int .i64 q22.2.2.2.2.1, .int .i64 q22.2.2.2.2.2.1, .int .i64 q22.2.2.2.2.2.2].toArray 182 (0, 0))], g6, g20] rfl ?_
      refine Z 2 rfl ?_
      refine st_cut (fun ρ τ30 gs => ∃ (s30 : Int × Int), ref16_All_j4 s18 q22 s30 o18 ∧ τ18.Le τ30 ∧ ρ = [(2, .slice none 0 0), (3, v19), (4, .int .i64 s30.1), (5, v5), (6, .int .i64 s18.2.2), (7, .pointer (some ⟨b29, 0, none⟩))] ∧ gs = [[(b29, .cells [.string q22.1, .int .i64 q22.2.1, .int .i64 s30.2, .int .i64 q22.2.2.2.1, .int .i64 q22.2.2.2.2.1, .int .i64 q22.2.2.2.2.2.1, .int .i64 q22.2.2.2.2.2.2].toArray 182 (0, 0))], g20, g6]) ?_ (fun hk30 => ?_)
      · rintro ρ30 τ30 gs30 ⟨s30, h, hl30, rfl, rfl⟩
        refine Z 2 rfl ?_
        refine o_loadN (j := 0) (vs := [.string q22.1, .int .i64 q22.2.1, .int .i64 s30.2, .int .i64 q22.2.2.2.1, .int .i64 q22.2.2.2.2.1, .int .i64 q22.2.2.2.2.2.1, .int .i64 q22.2.2.2.2.2.2]) rfl rfl rfl z_agg182 rfl rfl rfl ?_
        refine o_lit (dk := (kP kS (kP (kI .i64) (kP (kI .i64) (kP (kI .i64) (kP (kI .i64) (kP (kI .i64) (kI .i64)))))))) (xs := [(q22.1, q22.2.1, s30.2, q22.2.2.2.1, q22.2.2.2.2.1, q22.2.2.2.2.2.1, q22.2.2.2.2.2.2)]) (ps := [(0, [.string q22.1, .int .i64 q22.2.1, .int .i64 s30.2, .int .i64 q22.2.2.2.1, .int .i64 q22.2.2.2.2.1, .int .i64 q22.2.2.2.2.2.1, .int .i64 q22.2.2.2.2.2.2])]) (cs := [.string q22.1, .int .i64 q22.2.1, .int .i64 s30.2, .int .i64 q22.2.2.2.1, .int .i64 q22.2.2.2.2.1, .int .i64 q22.2.2.2.2.2.1, .int .i64 q22.2.2.2.2.2.2]) rfl rfl rfl z_slT180 z_zero182 ⟨rfl, ⟨_, rfl, rfl⟩, trivial⟩ rfl rfl rfl rfl (Kd.Many.cons (d := (kP kS (kP (kI .i64) (kP (kI .i64) (kP (kI .i64) (kP (kI .i64) (kP (kI .i64) (kI .i64)))))))) (x := (q22.1, q22.2.1, s30.2, q22.2.2.2.1, q22.2.2.2.2.1, q22.2.2.2.2.2.1, q22.2.2.2.2.2.2)) (a := [.string q22.1, .int .i64 q22.2.1, .int .i64 s30.2, .int .i64 q22.2.2.2.1, .int .i64 q22.2.2.2.2.1, .int .i64 q22.2.2.2.2.2.1, .int .i64 q22.2.2.2.2.2.2]) ⟨[.string q22.1], _, rfl, rfl, ⟨[.int .i64 q22.2.1], _, rfl, rfl, ⟨[.int .i64 s30.2], _, rfl, rfl, ⟨[.int .i64 q22.2.2.2.1], _, rfl, rfl, ⟨[.int .i64 q22.2.2.2.2.1], _, rfl, rfl, ⟨[.int .i64 q22.2.2.2.2.2.1], _, rfl, rfl, rfl⟩⟩⟩⟩⟩⟩ Kd.Many.nil) (fun v31 g32 ho33 => ?_)
        obtain ⟨hf37, hf38, h⟩ := h
        refine st_ord [2, 0, 0, 0] [g20, g32, [(b29, .cells [.string q22.1, .int .i64 q22.2.1, .int .i64 s30.2, .int .i64 q22.2.2.2.1, .int .i64 q22.2.2.2.2.1, .int .i64 q22.2.2.2.2.2.1, .int .i64 q22.2.2.2.2.2.2].toArray 182 (0, 0))], g6] rfl ?_
        refine o_append (dk := (kP kS (kP (kI .i64) (kP (kI .i64) (kP (kI .i64) (kP (kI .i64) (kP (kI .i64) (kI .i64)))))))) (xs := s18.1) (ys := [(q22.1, q22.2.1, s30.2, q22.2.2.2.1, q22.2.2.2.2.1, q22.2.2.2.2.2.1, q22.2.2.2.2.2.2)]) rfl rfl rfl rfl z_slT180 rfl (ho21.up hl30) rfl (Ow.src (j := 1) ho33 rfl) hf37 hf38 (fun v34 g35 ho36 => ?_)
        refine Z 8 rfl ?_
        refine st_env (ρ' := [(2, .slice none 0 0), (3, v34), (4, .int .i64 s30.1), (5, v5), (6, .int .i64 (IntKind.i64.wrap (s18.2.2 + 1)))]) ⟨rfl, rfl, rfl, rfl, rfl, trivial⟩ ?_
        refine st_ord [3, 0] [g6, g35] rfl ?_
        exact hn18 _ _ _ _ h ⟨(hl18.trans hl30), _, _, rfl, rfl, ho36⟩
      refine Z 3 rfl ?_
      refine o_load (j := 0) (v := .int .i64 q22.2.1) rfl rfl rfl z_sc3 rfl rfl rfl ?_
      refine Z 2 rfl ?_
      refine st_cond rfl (fun hc => ?_) (fun hc => ?_)
      · replace h := (if_pos hc).mp h
        refine Z 4 rfl ?_
        refine o_store (j := 0) (vs := [.int .i64 s18.2.1]) (cs' := [.string q22.1, .int .i64 q22.2.1, .int .i64 s18.2.1, .int .i64 q22.2.2.2.1, .int .i64 q22.2.2.2.2.1, .int .i64 q22.2.2.2.2.2.1, .int .i64 q22.2.2.2.2.2.2]) rfl rfl rfl z_size3 rfl rfl rfl (ones_cons rfl ones_nil) rfl rfl rfl ?_
        refine st_gs [[(b29, .cells [.string q22.1, .int .i64 q22.2.1, .int .i64 s18.2.1, .int .i64 q22.2.2.2.1, .int .i64 q22.2.2.2.2.1, .int .i64 q22.2.2.2.2.2.1, .int .i64 q22.2.2.2.2.2.2].toArray 182 (0, 0))], g6, g20] rfl ?_
        refine Z 6 rfl ?_
        refine st_env (ρ' := [(2, .slice none 0 0), (3, v19), (4, .int .i64 (IntKind.i64.wrap (s18.2.1 + 1))), (5, v5), (6, .int .i64 s18.2.2), (7, .pointer (some ⟨b29, 0, none⟩))]) ⟨rfl, rfl, rfl, rfl, rfl, rfl, trivial⟩ ?_
        refine st_ord [0, 1, 0] [[(b29, .cells [.string q22.1, .int .i64 q22.2.1, .int .i64 s18.2.1, .int .i64 q22.2.2.2.1, .int .i64 q22.2.2.2.2.1, .int .i64 q22.2.2.2.2.2.1, .int .i64 q22.2.2.2.2.2.2].toArray 182 (0, 0))], g20, g6] rfl ?_
        exact hk30 _ _ _ ⟨((IntKind.i64.wrap (s18.2.1 + 1)), s18.2.1), h, (Sto.Le.refl _), rfl, rfl⟩
      · replace h := (if_neg (ne_t hc)).mp h
        refine st_skip ?_
        refine st_env (ρ' := [(2, .slice none 0 0), (3, v19), (4, .int .i64 s18.2.1), (5, v5), (6, .int .i64 s18.2.2), (7, .pointer (some ⟨b29, 0, none⟩))]) ⟨rfl, rfl, rfl, rfl, rfl, rfl, trivial⟩ ?_
        refine st_ord [0, 1, 0] [[(b29, .cells [.string q22.1, .int .i64 q22.2.1, .int .i64 (-1), .int .i64 q22.2.2.2.1, .int .i64 q22.2.2.2.2.1, .int .i64 q22.2.2.2.2.2.1, .int .i64 q22.2.2.2.2.2.2].toArray 182 (0, 0))], g20, g6] rfl ?_
        exact hk30 _ _ _ ⟨(s18.2.1, (-1)), h, (Sto.Le.refl _), rfl, rfl⟩
    · replace h := (if_neg (ne_t hc)).mp h
      refine st_exit rfl ?_
      obtain rfl := he18 _ h
      replace h := hA18
      refine st_env (ρ' := [(2, .slice none 0 0), (3, v19)]) ⟨rfl, rfl, trivial⟩ ?_
      refine st_ord [1] [g20] rfl ?_
      exact hk8 _ _ _ ⟨s18.1, _, _, h, hl18, rfl, rfl, ho21⟩
  refine Z 10 rfl ?_
  refine st_cond rfl (fun hc => ?_) (fun hc => ?_)
  · replace h := (if_pos hc).mp h
    refine st_region ?_
    refine o_build (ps := [(0, [.string (bstr [114, 111, 98, 111, 116])]), (1, [.int .i64 1]), (2, [.int .i64 0]), (3, [.int .i64 0]), (4, [.int .i64 65535]), (5, [.int .i64 1]), (6, [.int .i64 0])]) (cs := [.string (bstr [114, 111, 98, 111, 116]), .int .i64 1, .int .i64 0, .int .i64 0, .int .i64 65535, .int .i64 1, .int .i64 0]) rfl rfl rfl z_struct182 ⟨rfl, ⟨_, (ev_str z_str0), rfl⟩, ⟨rfl, ⟨_, rfl, rfl⟩, ⟨rfl, ⟨_, rfl, rfl⟩, ⟨rfl, ⟨_, rfl, rfl⟩, ⟨rfl, ⟨_, rfl, rfl⟩, ⟨rfl, ⟨_, rfl, rfl⟩, ⟨rfl, ⟨_, rfl, rfl⟩, trivial⟩⟩⟩⟩⟩⟩⟩ rfl ?_
    refine o_build (ps := [(0, [.string (bstr [115, 112, 101, 101, 100])]), (1, [.int .i64 1]), (2, [.int .i64 0]), (3, [.int .i64 1]), (4, [.int .i64 5000]), (5, [.int .i64 1]), (6, [.int .i64 0])]) (cs := [.string (bstr [115, 112, 101, 101, 100]), .int .i64 1, .int .i64 0, .int .i64 1, .int .i64 5000, .int .i64 1, .int .i64 0]) rfl rfl rfl z_struct182 ⟨rfl, ⟨_, (ev_str z_str1), rfl⟩, ⟨rfl, ⟨_, rfl, rfl⟩, ⟨rfl, ⟨_, rfl, rfl⟩, ⟨rfl, ⟨_, rfl, rfl⟩, ⟨rfl, ⟨_, rfl, rfl⟩, ⟨rfl, ⟨_, rfl, rfl⟩, ⟨rfl, ⟨_, rfl, rfl⟩, trivial⟩⟩⟩⟩⟩⟩⟩ rfl ?_
    refine o_build (ps := [(0, [.string (bstr [97, 99, 99, 101, 108])]), (1, [.int .i64 1]), (2, [.int .i64 0]), (3, [.int .i64 1]), (4, [.int .i64 10000]), (5, [.int .i64 2]), (6, [.int .i64 500])]) (cs := [.string (bstr [97, 99, 99, 101, 108]), .int .i64 1, .int .i64 0, .int .i64 1, .int .i64 10000, .int .i64 2, .int .i64 500]) rfl rfl rfl z_struct182 ⟨rfl, ⟨_, (ev_str z_str2), rfl⟩, ⟨rfl, ⟨_, rfl, rfl⟩, ⟨rfl, ⟨_, rfl, rfl⟩, ⟨rfl, ⟨_, rfl, rfl⟩, ⟨rfl, ⟨_, rfl, rfl⟩, ⟨rfl, ⟨_, rfl, rfl⟩, ⟨rfl, ⟨_, rfl, rfl⟩, trivial⟩⟩⟩⟩⟩⟩⟩ rfl ?_
    refine o_build (ps := [(0, [.string (bstr [112, 97, 116, 104])]), (1, [.int .i64 3]), (2, [.int .i64 0]), (3, [.int .i64 1]), (4, [.int .i64 16]), (5, [.int .i64 1]), (6, [.int .i64 0])]) (cs := [.string (bstr [112, 97, 116, 104]), .int .i64 3, .int .i64 0, .int .i64 1, .int .i64 16, .int .i64 1, .int .i64 0]) rfl rfl rfl z_struct182 ⟨rfl, ⟨_, (ev_str z_str3), rfl⟩, ⟨rfl, ⟨_, rfl, rfl⟩, ⟨rfl, ⟨_, rfl, rfl⟩, ⟨rfl, ⟨_, rfl, rfl⟩, ⟨rfl, ⟨_, rfl, rfl⟩, ⟨rfl, ⟨_, rfl, rfl⟩, ⟨rfl, ⟨_, rfl, rfl⟩, trivial⟩⟩⟩⟩⟩⟩⟩ rfl ?_
    refine o_build (ps := [(0, [.string (bstr [116, 97, 103])]), (1, [.int .i64 6]), (2, [.int .i64 0]), (3, [.int .i64 0]), (4, [.int .i64 16]), (5, [.int .i64 2]), (6, [.int .i64 0])]) (cs := [.string (bstr [116, 97, 103]), .int .i64 6, .int .i64 0, .int .i64 0, .int .i64 16, .int .i64 2, .int .i64 0]) rfl rfl rfl z_struct182 ⟨rfl, ⟨_, (ev_str z_str4), rfl⟩, ⟨rfl, ⟨_, rfl, rfl⟩, ⟨rfl, ⟨_, rfl, rfl⟩, ⟨rfl, ⟨_, rfl, rfl⟩, ⟨rfl, ⟨_, rfl, rfl⟩, ⟨rfl, ⟨_, rfl, rfl⟩, ⟨rfl, ⟨_, rfl, rfl⟩, trivial⟩⟩⟩⟩⟩⟩⟩ rfl ?_
    refine o_lit (dk := (kP kS (kP (kI .i64) (kP (kI .i64) (kP (kI .i64) (kP (kI .i64) (kP (kI .i64) (kI .i64)))))))) (xs := [((bstr [114, 111, 98, 111, 116]), 1, 0, 0, 65535, 1, 0), ((bstr [115, 112, 101, 101, 100]), 1, 0, 1, 5000, 1, 0), ((bstr [97, 99, 99, 101, 108]), 1, 0, 1, 10000, 2, 500), ((bstr [112, 97, 116, 104]), 3, 0, 1, 16, 1, 0), ((bstr [116, 97, 103]), 6, 0, 0, 16, 2, 0)]) (ps := [(0, [.string (bstr [114, 111, 98, 111, 116]), .int .i64 1, .int .i64 0, .int .i64 0, .int .i64 65535, .int .i64 1, .int .i64 0]), (1, [.string (bstr [115, 112, 101, 101, 100]), .int .i64 1, .int .i64 0, .int .i64 1, .int .i64 5000, .int .i64 1, .int .i64 0]), (2, [.string (bstr [97, 99, 99, 101, 108]), .int .i64 1, .int .i64 0, .int .i64 1, .int .i64 10000, .int .i64 2, .int .i64 500]), (3, [.string (bstr [112, 97, 116, 104]), .int .i64 3, .int .i64 0, .int .i64 1, .int .i64 16, .int .i64 1, .int .i64 0]), (4, [.string (bstr [116, 97, 103]), .int .i64 6, .int .i64 0, .int .i64 0, .int .i64 16, .int .i64 2, .int .i64 0])]) (cs := [.string (bstr [114, 111, 98, 111, 116]), .int .i64 1, .int .i64 0, .int .i64 0, .int .i64 65535, .int .i64 1, .int .i64 0, .string (bstr [115, 112, 101, 101, 100]), .int .i64 1, .int .i64 0, .int .i64 1, .int .i64 5000, .int .i64 1, .int .i64 0, .string (bstr [97, 99, 99, 101, 108]), .int .i64 1, .int .i64 0, .int .i64 1, .int .i64 10000, .int .i64 2, .int .i64 500, .string (bstr [112, 97, 116, 104]), .int .i64 3, .int .i64 0, .int .i64 1, .int .i64 16, .int .i64 1, .int .i64 0, .string (bstr [116, 97, 103]), .int .i64 6, .int .i64 0, .int .i64 0, .int .i64 16, .int .i64 2, .int .i64 0]) rfl rfl rfl z_slT180 z_zero182 ⟨rfl, ⟨_, rfl, rfl⟩, ⟨rfl, ⟨_, rfl, rfl⟩, ⟨rfl, ⟨_, rfl, rfl⟩, ⟨rfl, ⟨_, rfl, rfl⟩, ⟨rfl, ⟨_, rfl, rfl⟩, trivial⟩⟩⟩⟩⟩ rfl rfl rfl rfl (Kd.Many.cons (d := (kP kS (kP (kI .i64) (kP (kI .i64) (kP (kI .i64) (kP (kI .i64) (kP (kI .i64) (kI .i64)))))))) (x := ((bstr [114, 111, 98, 111, 116]), 1, 0, 0, 65535, 1, 0)) (a := [.string (bstr [114, 111, 98, 111, 116]), .int .i64 1, .int .i64 0, .int .i64 0, .int .i64 65535, .int .i64 1, .int .i64 0]) ⟨[.string (bstr [114, 111, 98, 111, 116])], _, rfl, rfl, ⟨[.int .i64 1], _, rfl, rfl, ⟨[.int .i64 0], _, rfl, rfl, ⟨[.int .i64 0], _, rfl, rfl, ⟨[.int .i64 65535], _, rfl, rfl, ⟨[.int .i64 1], _, rfl, rfl, rfl⟩⟩⟩⟩⟩⟩ (Kd.Many.cons (d := (kP kS (kP (kI .i64) (kP (kI .i64) (kP (kI .i64) (kP (kI .i64) (kP (kI .i64) (kI .i64)))))))) (x := ((bstr [115, 112, 101, 101, 100]), 1, 0, 1, 5000, 1, 0)) (a := [.string (bstr [115, 112, 101, 101, 100]), .int .i64 1, .int .i64 0, .int .i64 1, .int .i64 5000, .int .i64 1, .int .i64 0]) ⟨[.string (bstr [115, 112, 101, 101, 100])], _, rfl, rfl, ⟨[.int .i64 1], _, rfl, rfl, ⟨[.int .i64 0], _, rfl, rfl, ⟨[.int .i64 1], _, rfl, rfl, ⟨[.int .i64 5000], _, rfl, rfl, ⟨[.int .i64 1], _, rfl, rfl, rfl⟩⟩⟩⟩⟩⟩ (Kd.Many.cons (d := (kP kS (kP (kI .i64) (kP (kI .i64) (kP (kI .i64) (kP (kI .i64) (kP (kI .i64) (kI .i64)))))))) (x := ((bstr [97, 99, 99, 101, 108]), 1, 0, 1, 10000, 2, 500)) (a := [.string (bstr [97, 99, 99, 101, 108]), .int .i64 1, .int .i64 0, .int .i64 1, .int .i64 10000, .int .i64 2, .int .i64 500]) ⟨[.string (bstr [97, 99, 99, 101, 108])], _, rfl, rfl, ⟨[.int .i64 1], _, rfl, rfl, ⟨[.int .i64 0], _, rfl, rfl, ⟨[.int .i64 1], _, rfl, rfl, ⟨[.int .i64 10000], _, rfl, rfl, ⟨[.int .i64 2], _, rfl, rfl, rfl⟩⟩⟩⟩⟩⟩ (Kd.Many.cons (d := (kP kS (kP (kI .i64) (kP (kI .i64) (kP (kI .i64) (kP (kI .i64) (kP (kI .i64) (kI .i64)))))))) (x := ((bstr [112, 97, 116, 104]), 3, 0, 1, 16, 1, 0)) (a := [.string (bstr [112, 97, 116, 104]), .int .i64 3, .int .i64 0, .int .i64 1, .int .i64 16, .int .i64 1, .int .i64 0]) ⟨[.string (bstr [112, 97, 116, 104])], _, rfl, rfl, ⟨[.int .i64 3], _, rfl, rfl, ⟨[.int .i64 0], _, rfl, rfl, ⟨[.int .i64 1], _, rfl, rfl, ⟨[.int .i64 16], _, rfl, rfl, ⟨[.int .i64 1], _, rfl, rfl, rfl⟩⟩⟩⟩⟩⟩ (Kd.Many.cons (d := (kP kS (kP (kI .i64) (kP (kI .i64) (kP (kI .i64) (kP (kI .i64) (kP (kI .i64) (kI .i64)))))))) (x := ((bstr [116, 97, 103]), 6, 0, 0, 16, 2, 0)) (a := [.string (bstr [116, 97, 103]), .int .i64 6, .int .i64 0, .int .i64 0, .int .i64 16, .int .i64 2, .int .i64 0]) ⟨[.string (bstr [116, 97, 103])], _, rfl, rfl, ⟨[.int .i64 6], _, rfl, rfl, ⟨[.int .i64 0], _, rfl, rfl, ⟨[.int .i64 0], _, rfl, rfl, ⟨[.int .i64 16], _, rfl, rfl, ⟨[.int .i64 2], _, rfl, rfl, rfl⟩⟩⟩⟩⟩⟩ Kd.Many.nil))))) (fun v40 g41 ho42 => ?_)
    refine Z 3 rfl ?_
    refine st_env (ρ' := [(2, .slice none 0 0), (3, .slice none 0 0), (4, .int .i64 0), (5, v40)]) ⟨rfl, rfl, rfl, rfl, trivial⟩ ?_
    refine st_ord [0] [g41] rfl ?_
    exact hk4 _ _ _ ⟨[((bstr [114, 111, 98, 111, 116]), 1, 0, 0, 65535, 1, 0), ((bstr [115, 112, 101, 101, 100]), 1, 0, 1, 5000, 1, 0), ((bstr [97, 99, 99, 101, 108]), 1, 0, 1, 10000, 2, 500), ((bstr [112, 97, 116, 104]), 3, 0, 1, 16, 1, 0), ((bstr [116, 97, 103]), 6, 0, 0, 16, 2, 0)], _, _, h, (Sto.Le.refl _), rfl, rfl, ho42⟩
  · replace h := (if_neg (ne_t hc)).mp h
    refine Z 5 rfl ?_
    refine st_cond rfl (fun hc => ?_) (fun hc => ?_)
    · replace h := (if_pos hc).mp h
      refine st_region ?_
      refine o_build (ps := [(0, [.string (bstr [114, 111, 98, 111, 116])]), (1, [.int .i64 1]), (2, [.int .i64 0]), (3, [.int .i64 0]), (4, [.int .i64 65535]), (5, [.int .i64 1]), (6, [.int .i64 0])]) (cs := [.string (bstr [114, 111, 98, 111, 116]), .int .i64 1, .int .i64 0, .int .i64 0, .int .i64 65535, .int .i64 1, .int .i64 0]) rfl rfl rfl z_struct182 ⟨rfl, ⟨_, (ev_str z_str0), rfl⟩, ⟨rfl, ⟨_, rfl, rfl⟩, ⟨rfl, ⟨_, rfl, rfl⟩, ⟨rfl, ⟨_, rfl, rfl⟩, ⟨rfl, ⟨_, rfl, rfl⟩, ⟨rfl, ⟨_, rfl, rfl⟩, ⟨rfl, ⟨_, rfl, rfl⟩, trivial⟩⟩⟩⟩⟩⟩⟩ rfl ?_
      refine o_build (ps := [(0, [.string (bstr [114, 101, 97, 115, 111, 110])]), (1, [.int .i64 1]), (2, [.int .i64 0]), (3, [.int .i64 0]), (4, [.int .i64 15]), (5, [.int .i64 1]), (6, [.int .i64 0])]) (cs := [.string (bstr [114, 101, 97, 115, 111, 110]), .int .i64 1, .int .i64 0, .int .i64 0, .int .i64 15, .int .i64 1, .int .i64 0]) rfl rfl rfl z_struct182 ⟨rfl, ⟨_, (ev_str z_str5), rfl⟩, ⟨rfl, ⟨_, rfl, rfl⟩, ⟨rfl, ⟨_, rfl, rfl⟩, ⟨rfl, ⟨_, rfl, rfl⟩, ⟨rfl, ⟨_, rfl, rfl⟩, ⟨rfl, ⟨_, rfl, rfl⟩, ⟨rfl, ⟨_, rfl, rfl⟩, trivial⟩⟩⟩⟩⟩⟩⟩ rfl ?_
      refine o_build (ps := [(0, [.string (bstr [122, 111, 110, 101])]), (1, [.int .i64 1]), (2, [.int .i64 0]), (3, [.int .i64 0]), (4, [.int .i64 4095]), (5, [.int .i64 2]), (6, [.int .i64 0])]) (cs := [.string (bstr [122, 111, 110, 101]), .int .i64 1, .int .i64 0, .int .i64 0, .int .i64 4095, .int .i64 2, .int .i64 0]) rfl rfl rfl z_struct182 ⟨rfl, ⟨_, (ev_str z_str6), rfl⟩, ⟨rfl, ⟨_, rfl, rfl⟩, ⟨rfl, ⟨_, rfl, rfl⟩, ⟨rfl, ⟨_, rfl, rfl⟩, ⟨rfl, ⟨_, rfl, rfl⟩, ⟨rfl, ⟨_, rfl, rfl⟩, ⟨rfl, ⟨_, rfl, rfl⟩, trivial⟩⟩⟩⟩⟩⟩⟩ rfl ?_
      refine o_lit (dk := (kP kS (kP (kI .i64) (kP (kI .i64) (kP (kI .i64) (kP (kI .i64) (kP (kI .i64) (kI .i64)))))))) (xs := [((bstr [114, 111, 98, 111, 116]), 1, 0, 0, 65535, 1, 0), ((bstr [114, 101, 97, 115, 111, 110]), 1, 0, 0, 15, 1, 0), ((bstr [122, 111, 110, 101]), 1, 0, 0, 4095, 2, 0)]) (ps := [(0, [.string (bstr [114, 111, 98, 111, 116]), .int .i64 1, .int .i64 0, .int .i64 0, .int .i64 65535, .int .i64 1, .int .i64 0]), (1, [.string (bstr [114, 101, 97, 115, 111, 110]), .int .i64 1, .int .i64 0, .int .i64 0, .int .i64 15, .int .i64 1, .int .i64 0]), (2, [.string (bstr [122, 111, 110, 101]), .int .i64 1, .int .i64 0, .int .i64 0, .int .i64 4095, .int .i64 2, .int .i64 0])]) (cs := [.string (bstr [114, 111, 98, 111, 116]), .int .i64 1, .int .i64 0, .int .i64 0, .int .i64 65535, .int .i64 1, .int .i64 0, .string (bstr [114, 101, 97, 115, 111, 110]), .int .i64 1, .int .i64 0, .int .i64 0, .int .i64 15, .int .i64 1, .int .i64 0, .string (bstr [122, 111, 110, 101]), .int .i64 1, .int .i64 0, .int .i64 0, .int .i64 4095, .int .i64 2, .int .i64 0]) rfl rfl rfl z_slT180 z_zero182 ⟨rfl, ⟨_, rfl, rfl⟩, ⟨rfl, ⟨_, rfl, rfl⟩, ⟨rfl, ⟨_, rfl, rfl⟩, trivial⟩⟩⟩ rfl rfl rfl rfl (Kd.Many.cons (d := (kP kS (kP (kI .i64) (kP (kI .i64) (kP (kI .i64) (kP (kI .i64) (kP (kI .i64) (kI .i64)))))))) (x := ((bstr [114, 111, 98, 111, 116]), 1, 0, 0, 65535, 1, 0)) (a := [.string (bstr [114, 111, 98, 111, 116]), .int .i64 1, .int .i64 0, .int .i64 0, .int .i64 65535, .int .i64 1, .int .i64 0]) ⟨[.string (bstr [114, 111, 98, 111, 116])], _, rfl, rfl, ⟨[.int .i64 1], _, rfl, rfl, ⟨[.int .i64 0], _, rfl, rfl, ⟨[.int .i64 0], _, rfl, rfl, ⟨[.int .i64 65535], _, rfl, rfl, ⟨[.int .i64 1], _, rfl, rfl, rfl⟩⟩⟩⟩⟩⟩ (Kd.Many.cons (d := (kP kS (kP (kI .i64) (kP (kI .i64) (kP (kI .i64) (kP (kI .i64) (kP (kI .i64) (kI .i64)))))))) (x := ((bstr [114, 101, 97, 115, 111, 110]), 1, 0, 0, 15, 1, 0)) (a := [.string (bstr [114, 101, 97, 115, 111, 110]), .int .i64 1, .int .i64 0, .int .i64 0, .int .i64 15, .int .i64 1, .int .i64 0]) ⟨[.string (bstr [114, 101, 97, 115, 111, 110])], _, rfl, rfl, ⟨[.int .i64 1], _, rfl, rfl, ⟨[.int .i64 0], _, rfl, rfl, ⟨[.int .i64 0], _, rfl, rfl, ⟨[.int .i64 15], _, rfl, rfl, ⟨[.int .i64 1], _, rfl, rfl, rfl⟩⟩⟩⟩⟩⟩ (Kd.Many.cons (d := (kP kS (kP (kI .i64) (kP (kI .i64) (kP (kI .i64) (kP (kI .i64) (kP (kI .i64) (kI .i64)))))))) (x := ((bstr [122, 111, 110, 101]), 1, 0, 0, 4095, 2, 0)) (a := [.string (bstr [122, 111, 110, 101]), .int .i64 1, .int .i64 0, .int .i64 0, .int .i64 4095, .int .i64 2, .int .i64 0]) ⟨[.string (bstr [122, 111, 110, 101])], _, rfl, rfl, ⟨[.int .i64 1], _, rfl, rfl, ⟨[.int .i64 0], _, rfl, rfl, ⟨[.int .i64 0], _, rfl, rfl, ⟨[.int .i64 4095], _, rfl, rfl, ⟨[.int .i64 2], _, rfl, rfl, rfl⟩⟩⟩⟩⟩⟩ Kd.Many.nil))) (fun v43 g44 ho45 => ?_)
      refine Z 3 rfl ?_
      refine st_env (ρ' := [(2, .slice none 0 0), (3, .slice none 0 0), (4, .int .i64 0), (5, v43)]) ⟨rfl, rfl, rfl, rfl, trivial⟩ ?_
      refine st_ord [0] [g44] rfl ?_
      exact hk4 _ _ _ ⟨[((bstr [114, 111, 98, 111, 116]), 1, 0, 0, 65535, 1, 0), ((bstr [114, 101, 97, 115, 111, 110]), 1, 0, 0, 15, 1, 0), ((bstr [122, 111, 110, 101]), 1, 0, 0, 4095, 2, 0)], _, _, h, (Sto.Le.refl _), rfl, rfl, ho45⟩
    · replace h := (if_neg (ne_t hc)).mp h
      refine Z 5 rfl ?_
      refine st_cond rfl (fun hc => ?_) (fun hc => ?_)
      · replace h := (if_pos hc).mp h
        refine st_region ?_
        refine o_build (ps := [(0, [.string (bstr [114, 111, 98, 111, 116])]), (1, [.int .i64 1]), (2, [.int .i64 0]), (3, [.int .i64 0]), (4, [.int .i64 65535]), (5, [.int .i64 1]), (6, [.int .i64 0])]) (cs := [.string (bstr [114, 111, 98, 111, 116]), .int .i64 1, .int .i64 0, .int .i64 0, .int .i64 65535, .int .i64 1, .int .i64 0]) rfl rfl rfl z_struct182 ⟨rfl, ⟨_, (ev_str z_str0), rfl⟩, ⟨rfl, ⟨_, rfl, rfl⟩, ⟨rfl, ⟨_, rfl, rfl⟩, ⟨rfl, ⟨_, rfl, rfl⟩, ⟨rfl, ⟨_, rfl, rfl⟩, ⟨rfl, ⟨_, rfl, rfl⟩, ⟨rfl, ⟨_, rfl, rfl⟩, trivial⟩⟩⟩⟩⟩⟩⟩ rfl ?_
        refine o_build (ps := [(0, [.string (bstr [122, 111, 110, 101])]), (1, [.int .i64 1]), (2, [.int .i64 0]), (3, [.int .i64 0]), (4, [.int .i64 4095]), (5, [.int .i64 1]), (6, [.int .i64 0])]) (cs := [.string (bstr [122, 111, 110, 101]), .int .i64 1, .int .i64 0, .int .i64 0, .int .i64 4095, .int .i64 1, .int .i64 0]) rfl rfl rfl z_struct182 ⟨rfl, ⟨_, (ev_str z_str6), rfl⟩, ⟨rfl, ⟨_, rfl, rfl⟩, ⟨rfl, ⟨_, rfl, rfl⟩, ⟨rfl, ⟨_, rfl, rfl⟩, ⟨rfl, ⟨_, rfl, rfl⟩, ⟨rfl, ⟨_, rfl, rfl⟩, ⟨rfl, ⟨_, rfl, rfl⟩, trivial⟩⟩⟩⟩⟩⟩⟩ rfl ?_
        refine o_build (ps := [(0, [.string (bstr [108, 101, 97, 115, 101])]), (1, [.int .i64 1]), (2, [.int .i64 0]), (3, [.int .i64 1]), (4, [.int .i64 255]), (5, [.int .i64 2]), (6, [.int .i64 1])]) (cs := [.string (bstr [108, 101, 97, 115, 101]), .int .i64 1, .int .i64 0, .int .i64 1, .int .i64 255, .int .i64 2, .int .i64 1]) rfl rfl rfl z_struct182 ⟨rfl, ⟨_, (ev_str z_str7), rfl⟩, ⟨rfl, ⟨_, rfl, rfl⟩, ⟨rfl, ⟨_, rfl, rfl⟩, ⟨rfl, ⟨_, rfl, rfl⟩, ⟨rfl, ⟨_, rfl, rfl⟩, ⟨rfl, ⟨_, rfl, rfl⟩, ⟨rfl, ⟨_, rfl, rfl⟩, trivial⟩⟩⟩⟩⟩⟩⟩ rfl ?_
        refine o_build (ps := [(0, [.string (bstr [99, 101, 108, 108, 115])]), (1, [.int .i64 4]), (2, [.int .i64 0]), (3, [.int .i64 1]), (4, [.int .i64 32]), (5, [.int .i64 1]), (6, [.int .i64 0])]) (cs := [.string (bstr [99, 101, 108, 108, 115]), .int .i64 4, .int .i64 0, .int .i64 1, .int .i64 32, .int .i64 1, .int .i64 0]) rfl rfl rfl z_struct182 ⟨rfl, ⟨_, (ev_str z_str8), rfl⟩, ⟨rfl, ⟨_, rfl, rfl⟩, ⟨rfl, ⟨_, rfl, rfl⟩, ⟨rfl, ⟨_, rfl, rfl⟩, ⟨rfl, ⟨_, rfl, rfl⟩, ⟨rfl, ⟨_, rfl, rfl⟩, ⟨rfl, ⟨_, rfl, rfl⟩, trivial⟩⟩⟩⟩⟩⟩⟩ rfl ?_
        refine o_lit (dk := (kP kS (kP (kI .i64) (kP (kI .i64) (kP (kI .i64) (kP (kI .i64) (kP (kI .i64) (kI .i64)))))))) (xs := [((bstr [114, 111, 98, 111, 116]), 1, 0, 0, 65535, 1, 0), ((bstr [122, 111, 110, 101]), 1, 0, 0, 4095, 1, 0), ((bstr [108, 101, 97, 115, 101]), 1, 0, 1, 255, 2, 1), ((bstr [99, 101, 108, 108, 115]), 4, 0, 1, 32, 1, 0)]) (ps := [(0, [.string (bstr [114, 111, 98, 111, 116]), .int .i64 1, .int .i64 0, .int .i64 0, .int .i64 65535, .int .i64 1, .int .i64 0]), (1, [.string (bstr [122, 111, 110, 101]), .int .i64 1, .int .i64 0, .int .i64 0, .int .i64 4095, .int .i64 1, .int .i64 0]), (2, [.string (bstr [108, 101, 97, 115, 101]), .int .i64 1, .int .i64 0, .int .i64 1, .int .i64 255, .int .i64 2, .int .i64 1]), (3, [.string (bstr [99, 101, 108, 108, 115]), .int .i64 4, .int .i64 0, .int .i64 1, .int .i64 32, .int .i64 1, .int .i64 0])]) (cs := [.string (bstr [114, 111, 98, 111, 116]), .int .i64 1, .int .i64 0, .int .i64 0, .int .i64 65535, .int .i64 1, .int .i64 0, .string (bstr [122, 111, 110, 101]), .int .i64 1, .int .i64 0, .int .i64 0, .int .i64 4095, .int .i64 1, .int .i64 0, .string (bstr [108, 101, 97, 115, 101]), .int .i64 1, .int .i64 0, .int .i64 1, .int .i64 255, .int .i64 2, .int .i64 1, .string (bstr [99, 101, 108, 108, 115]), .int .i64 4, .int .i64 0, .int .i64 1, .int .i64 32, .int .i64 1, .int .i64 0]) rfl rfl rfl z_slT180 z_zero182 ⟨rfl, ⟨_, rfl, rfl⟩, ⟨rfl, ⟨_, rfl, rfl⟩, ⟨rfl, ⟨_, rfl, rfl⟩, ⟨rfl, ⟨_, rfl, rfl⟩, trivial⟩⟩⟩⟩ rfl rfl rfl rfl (Kd.Many.cons (d := (kP kS (kP (kI .i64) (kP (kI .i64) (kP (kI .i64) (kP (kI .i64) (kP (kI .i64) (kI .i64)))))))) (x := ((bstr [114, 111, 98, 111, 116]), 1, 0, 0, 65535, 1, 0)) (a := [.string (bstr [114, 111, 98, 111, 116]), .int .i64 1, .int .i64 0, .int .i64 0, .int .i64 65535, .int .i64 1, .int .i64 0]) ⟨[.string (bstr [114, 111, 98, 111, 116])], _, rfl, rfl, ⟨[.int .i64 1], _, rfl, rfl, ⟨[.int .i64 0], _, rfl, rfl, ⟨[.int .i64 0], _, rfl, rfl, ⟨[.int .i64 65535], _, rfl, rfl, ⟨[.int .i64 1], _, rfl, rfl, rfl⟩⟩⟩⟩⟩⟩ (Kd.Many.cons (d := (kP kS (kP (kI .i64) (kP (kI .i64) (kP (kI .i64) (kP (kI .i64) (kP (kI .i64) (kI .i64)))))))) (x := ((bstr [122, 111, 110, 101]), 1, 0, 0, 4095, 1, 0)) (a := [.string (bstr [122, 111, 110, 101]), .int .i64 1, .int .i64 0, .int .i64 0, .int .i64 4095, .int .i64 1, .int .i64 0]) ⟨[.string (bstr [122, 111, 110, 101])], _, rfl, rfl, ⟨[.int .i64 1], _, rfl, rfl, ⟨[.int .i64 0], _, rfl, rfl, ⟨[.int .i64 0], _, rfl, rfl, ⟨[.int .i64 4095], _, rfl, rfl, ⟨[.int .i64 1], _, rfl, rfl, rfl⟩⟩⟩⟩⟩⟩ (Kd.Many.cons (d := (kP kS (kP (kI .i64) (kP (kI .i64) (kP (kI .i64) (kP (kI .i64) (kP (kI .i64) (kI .i64)))))))) (x := ((bstr [108, 101, 97, 115, 101]), 1, 0, 1, 255, 2, 1)) (a := [.string (bstr [108, 101, 97, 115, 101]), .int .i64 1, .int .i64 0, .int .i64 1, .int .i64 255, .int .i64 2, .int .i64 1]) ⟨[.string (bstr [108, 101, 97, 115, 101])], _, rfl, rfl, ⟨[.int .i64 1], _, rfl, rfl, ⟨[.int .i64 0], _, rfl, rfl, ⟨[.int .i64 1], _, rfl, rfl, ⟨[.int .i64 255], _, rfl, rfl, ⟨[.int .i64 2], _, rfl, rfl, rfl⟩⟩⟩⟩⟩⟩ (Kd.Many.cons (d := (kP kS (kP (kI .i64) (kP (kI .i64) (kP (kI .i64) (kP (kI .i64) (kP (kI .i64) (kI .i64)))))))) (x := ((bstr [99, 101, 108, 108, 115]), 4, 0, 1, 32, 1, 0)) (a := [.string (bstr [99, 101, 108, 108, 115]), .int .i64 4, .int .i64 0, .int .i64 1, .int .i64 32, .int .i64 1, .int .i64 0]) ⟨[.string (bstr [99, 101, 108, 108, 115])], _, rfl, rfl, ⟨[.int .i64 4], _, rfl, rfl, ⟨[.int .i64 0], _, rfl, rfl, ⟨[.int .i64 1], _, rfl, rfl, ⟨[.int .i64 32], _, rfl, rfl, ⟨[.int .i64 1], _, rfl, rfl, rfl⟩⟩⟩⟩⟩⟩ Kd.Many.nil)))) (fun v46 g47 ho48 => ?_)
        refine Z 3 rfl ?_
        refine st_env (ρ' := [(2, .slice none 0 0), (3, .slice none 0 0), (4, .int .i64 0), (5, v46)]) ⟨rfl, rfl, rfl, rfl, trivial⟩ ?_
        refine st_ord [0] [g47] rfl ?_
        exact hk4 _ _ _ ⟨[((bstr [114, 111, 98, 111, 116]), 1, 0, 0, 65535, 1, 0), ((bstr [122, 111, 110, 101]), 1, 0, 0, 4095, 1, 0), ((bstr [108, 101, 97, 115, 101]), 1, 0, 1, 255, 2, 1), ((bstr [99, 101, 108, 108, 115]), 4, 0, 1, 32, 1, 0)], _, _, h, (Sto.Le.refl _), rfl, rfl, ho48⟩
      · replace h := (if_neg (ne_t hc)).mp h
        refine Z 5 rfl ?_
        refine st_cond rfl (fun hc => ?_) (fun hc => ?_)
        · replace h := (if_pos hc).mp h
          refine st_region ?_
          refine o_build (ps := [(0, [.string (bstr [114, 111, 98, 111, 116])]), (1, [.int .i64 1]), (2, [.int .i64 0]), (3, [.int .i64 0]), (4, [.int .i64 65535]), (5, [.int .i64 1]), (6, [.int .i64 0])]) (cs := [.string (bstr [114, 111, 98, 111, 116]), .int .i64 1, .int .i64 0, .int .i64 0, .int .i64 65535, .int .i64 1, .int .i64 0]) rfl rfl rfl z_struct182 ⟨rfl, ⟨_, (ev_str z_str0), rfl⟩, ⟨rfl, ⟨_, rfl, rfl⟩, ⟨rfl, ⟨_, rfl, rfl⟩, ⟨rfl, ⟨_, rfl, rfl⟩, ⟨rfl, ⟨_, rfl, rfl⟩, ⟨rfl, ⟨_, rfl, rfl⟩, ⟨rfl, ⟨_, rfl, rfl⟩, trivial⟩⟩⟩⟩⟩⟩⟩ rfl ?_
          refine o_build (ps := [(0, [.string (bstr [120])]), (1, [.int .i64 2]), (2, [.int .i64 0]), (3, [.int .i64 (-1000000)]), (4, [.int .i64 1000000]), (5, [.int .i64 1]), (6, [.int .i64 0])]) (cs := [.string (bstr [120]), .int .i64 2, .int .i64 0, .int .i64 (-1000000), .int .i64 1000000, .int .i64 1, .int .i64 0]) rfl rfl rfl z_struct182 ⟨rfl, ⟨_, (ev_str z_str9), rfl⟩, ⟨rfl, ⟨_, rfl, rfl⟩, ⟨rfl, ⟨_, rfl, rfl⟩, ⟨rfl, ⟨_, rfl, rfl⟩, ⟨rfl, ⟨_, rfl, rfl⟩, ⟨rfl, ⟨_, rfl, rfl⟩, ⟨rfl, ⟨_, rfl, rfl⟩, trivial⟩⟩⟩⟩⟩⟩⟩ rfl ?_
          refine o_build (ps := [(0, [.string (bstr [121])]), (1, [.int .i64 2]), (2, [.int .i64 0]), (3, [.int .i64 (-1000000)]), (4, [.int .i64 1000000]), (5, [.int .i64 1]), (6, [.int .i64 0])]) (cs := [.string (bstr [121]), .int .i64 2, .int .i64 0, .int .i64 (-1000000), .int .i64 1000000, .int .i64 1, .int .i64 0]) rfl rfl rfl z_struct182 ⟨rfl, ⟨_, (ev_str z_str10), rfl⟩, ⟨rfl, ⟨_, rfl, rfl⟩, ⟨rfl, ⟨_, rfl, rfl⟩, ⟨rfl, ⟨_, rfl, rfl⟩, ⟨rfl, ⟨_, rfl, rfl⟩, ⟨rfl, ⟨_, rfl, rfl⟩, ⟨rfl, ⟨_, rfl, rfl⟩, trivial⟩⟩⟩⟩⟩⟩⟩ rfl ?_
          refine o_build (ps := [(0, [.string (bstr [104, 101, 97, 100, 105, 110, 103])]), (1, [.int .i64 1]), (2, [.int .i64 0]), (3, [.int .i64 0]), (4, [.int .i64 35999]), (5, [.int .i64 1]), (6, [.int .i64 0])]) (cs := [.string (bstr [104, 101, 97, 100, 105, 110, 103]), .int .i64 1, .int .i64 0, .int .i64 0, .int .i64 35999, .int .i64 1, .int .i64 0]) rfl rfl rfl z_struct182 ⟨rfl, ⟨_, (ev_str z_str11), rfl⟩, ⟨rfl, ⟨_, rfl, rfl⟩, ⟨rfl, ⟨_, rfl, rfl⟩, ⟨rfl, ⟨_, rfl, rfl⟩, ⟨rfl, ⟨_, rfl, rfl⟩, ⟨rfl, ⟨_, rfl, rfl⟩, ⟨rfl, ⟨_, rfl, rfl⟩, trivial⟩⟩⟩⟩⟩⟩⟩ rfl ?_
          refine o_build (ps := [(0, [.string (bstr [98, 97, 116, 116, 101, 114, 121])]), (1, [.int .i64 1]), (2, [.int .i64 0]), (3, [.int .i64 0]), (4, [.int .i64 1000]), (5, [.int .i64 1]), (6, [.int .i64 0])]) (cs := [.string (bstr [98, 97, 116, 116, 101, 114, 121]), .int .i64 1, .int .i64 0, .int .i64 0, .int .i64 1000, .int .i64 1, .int .i64 0]) rfl rfl rfl z_struct182 ⟨rfl, ⟨_, (ev_str z_str12), rfl⟩, ⟨rfl, ⟨_, rfl, rfl⟩, ⟨rfl, ⟨_, rfl, rfl⟩, ⟨rfl, ⟨_, rfl, rfl⟩, ⟨rfl, ⟨_, rfl, rfl⟩, ⟨rfl, ⟨_, rfl, rfl⟩, ⟨rfl, ⟨_, rfl, rfl⟩, trivial⟩⟩⟩⟩⟩⟩⟩ rfl ?_
          refine o_build (ps := [(0, [.string (bstr [115, 117, 114, 101])]), (1, [.int .i64 1]), (2, [.int .i64 0]), (3, [.int .i64 0]), (4, [.int .i64 100]), (5, [.int .i64 2]), (6, [.int .i64 100])]) (cs := [.string (bstr [115, 117, 114, 101]), .int .i64 1, .int .i64 0, .int .i64 0, .int .i64 100, .int .i64 2, .int .i64 100]) rfl rfl rfl z_struct182 ⟨rfl, ⟨_, (ev_str z_str13), rfl⟩, ⟨rfl, ⟨_, rfl, rfl⟩, ⟨rfl, ⟨_, rfl, rfl⟩, ⟨rfl, ⟨_, rfl, rfl⟩, ⟨rfl, ⟨_, rfl, rfl⟩, ⟨rfl, ⟨_, rfl, rfl⟩, ⟨rfl, ⟨_, rfl, rfl⟩, trivial⟩⟩⟩⟩⟩⟩⟩ rfl ?_
          refine o_lit (dk := (kP kS (kP (kI .i64) (kP (kI .i64) (kP (kI .i64) (kP (kI .i64) (kP (kI .i64) (kI .i64)))))))) (xs := [((bstr [114, 111, 98, 111, 116]), 1, 0, 0, 65535, 1, 0), ((bstr [120]), 2, 0, (-1000000), 1000000, 1, 0), ((bstr [121]), 2, 0, (-1000000), 1000000, 1, 0), ((bstr [104, 101, 97, 100, 105, 110, 103]), 1, 0, 0, 35999, 1, 0), ((bstr [98, 97, 116, 116, 101, 114, 121]), 1, 0, 0, 1000, 1, 0), ((bstr [115, 117, 114, 101]), 1, 0, 0, 100, 2, 100)]) (ps := [(0, [.string (bstr [114, 111, 98, 111, 116]), .int .i64 1, .int .i64 0, .int .i64 0, .int .i64 65535, .int .i64 1, .int .i64 0]), (1, [.string (bstr [120]), .int .i64 2, .int .i64 0, .int .i64 (-1000000), .int .i64 1000000, .int .i64 1, .int .i64 0]), (2, [.string (bstr [121]), .int .i64 2, .int .i64 0, .int .i64 (-1000000), .int .i64 1000000, .int .i64 1, .int .i64 0]), (3, [.string (bstr [104, 101, 97, 100, 105, 110, 103]), .int .i64 1, .int .i64 0, .int .i64 0, .int .i64 35999, .int .i64 1, .int .i64 0]), (4, [.string (bstr [98, 97, 116, 116, 101, 114, 121]), .int .i64 1, .int .i64 0, .int .i64 0, .int .i64 1000, .int .i64 1, .int .i64 0]), (5, [.string (bstr [115, 117, 114, 101]), .int .i64 1, .int .i64 0, .int .i64 0, .int .i64 100, .int .i64 2, .int .i64 100])]) (cs := [.string (bstr [114, 111, 98, 111, 116]), .int .i64 1, .int .i64 0, .int .i64 0, .int .i64 65535, .int .i64 1, .int .i64 0, .string (bstr [120]), .int .i64 2, .int .i64 0, .int .i64 (-1000000), .int .i64 1000000, .int .i64 1, .int .i64 0, .string (bstr [121]), .int .i64 2, .int .i64 0, .int .i64 (-1000000), .int .i64 1000000, .int .i64 1, .int .i64 0, .string (bstr [104, 101, 97, 100, 105, 110, 103]), .int .i64 1, .int .i64 0, .int .i64 0, .int .i64 35999, .int .i64 1, .int .i64 0, .string (bstr [98, 97, 116, 116, 101, 114, 121]), .int .i64 1, .int .i64 0, .int .i64 0, .int .i64 1000, .int .i64 1, .int .i64 0, .string (bstr [115, 117, 114, 101]), .int .i64 1, .int .i64 0, .int .i64 0, .int .i64 100, .int .i64 2, .int .i64 100]) rfl rfl rfl z_slT180 z_zero182 ⟨rfl, ⟨_, rfl, rfl⟩, ⟨rfl, ⟨_, rfl, rfl⟩, ⟨rfl, ⟨_, rfl, rfl⟩, ⟨rfl, ⟨_, rfl, rfl⟩, ⟨rfl, ⟨_, rfl, rfl⟩, ⟨rfl, ⟨_, rfl, rfl⟩, trivial⟩⟩⟩⟩⟩⟩ rfl rfl rfl rfl (Kd.Many.cons (d := (kP kS (kP (kI .i64) (kP (kI .i64) (kP (kI .i64) (kP (kI .i64) (kP (kI .i64) (kI .i64)))))))) (x := ((bstr [114, 111, 98, 111, 116]), 1, 0, 0, 65535, 1, 0)) (a := [.string (bstr [114, 111, 98, 111, 116]), .int .i64 1, .int .i64 0, .int .i64 0, .int .i64 65535, .int .i64 1, .int .i64 0]) ⟨[.string (bstr [114, 111, 98, 111, 116])], _, rfl, rfl, ⟨[.int .i64 1], _, rfl, rfl, ⟨[.int .i64 0], _, rfl, rfl, ⟨[.int .i64 0], _, rfl, rfl, ⟨[.int .i64 65535], _, rfl, rfl, ⟨[.int .i64 1], _, rfl, rfl, rfl⟩⟩⟩⟩⟩⟩ (Kd.Many.cons (d := (kP kS (kP (kI .i64) (kP (kI .i64) (kP (kI .i64) (kP (kI .i64) (kP (kI .i64) (kI .i64)))))))) (x := ((bstr [120]), 2, 0, (-1000000), 1000000, 1, 0)) (a := [.string (bstr [120]), .int .i64 2, .int .i64 0, .int .i64 (-1000000), .int .i64 1000000, .int .i64 1, .int .i64 0]) ⟨[.string (bstr [120])], _, rfl, rfl, ⟨[.int .i64 2], _, rfl, rfl, ⟨[.int .i64 0], _, rfl, rfl, ⟨[.int .i64 (-1000000)], _, rfl, rfl, ⟨[.int .i64 1000000], _, rfl, rfl, ⟨[.int .i64 1], _, rfl, rfl, rfl⟩⟩⟩⟩⟩⟩ (Kd.Many.cons (d := (kP kS (kP (kI .i64) (kP (kI .i64) (kP (kI .i64) (kP (kI .i64) (kP (kI .i64) (kI .i64)))))))) (x := ((bstr [121]), 2, 0, (-1000000), 1000000, 1, 0)) (a := [.string (bstr [121]), .int .i64 2, .int .i64 0, .int .i64 (-1000000), .int .i64 1000000, .int .i64 1, .int .i64 0]) ⟨[.string (bstr [121])], _, rfl, rfl, ⟨[.int .i64 2], _, rfl, rfl, ⟨[.int .i64 0], _, rfl, rfl, ⟨[.int .i64 (-1000000)], _, rfl, rfl, ⟨[.int .i64 1000000], _, rfl, rfl, ⟨[.int .i64 1], _, rfl, rfl, rfl⟩⟩⟩⟩⟩⟩ (Kd.Many.cons (d := (kP kS (kP (kI .i64) (kP (kI .i64) (kP (kI .i64) (kP (kI .i64) (kP (kI .i64) (kI .i64)))))))) (x := ((bstr [104, 101, 97, 100, 105, 110, 103]), 1, 0, 0, 35999, 1, 0)) (a := [.string (bstr [104, 101, 97, 100, 105, 110, 103]), .int .i64 1, .int .i64 0, .int .i64 0, .int .i64 35999, .int .i64 1, .int .i64 0]) ⟨[.string (bstr [104, 101, 97, 100, 105, 110, 103])], _, rfl, rfl, ⟨[.int .i64 1], _, rfl, rfl, ⟨[.int .i64 0], _, rfl, rfl, ⟨[.int .i64 0], _, rfl, rfl, ⟨[.int .i64 35999], _, rfl, rfl, ⟨[.int .i64 1], _, rfl, rfl, rfl⟩⟩⟩⟩⟩⟩ (Kd.Many.cons (d := (kP kS (kP (kI .i64) (kP (kI .i64) (kP (kI .i64) (kP (kI .i64) (kP (kI .i64) (kI .i64)))))))) (x := ((bstr [98, 97, 116, 116, 101, 114, 121]), 1, 0, 0, 1000, 1, 0)) (a := [.string (bstr [98, 97, 116, 116, 101, 114, 121]), .int .i64 1, .int .i64 0, .int .i64 0, .int .i64 1000, .int .i64 1, .int .i64 0]) ⟨[.string (bstr [98, 97, 116, 116, 101, 114, 121])], _, rfl, rfl, ⟨[.int .i64 1], _, rfl, rfl, ⟨[.int .i64 0], _, rfl, rfl, ⟨[.int .i64 0], _, rfl, rfl, ⟨[.int .i64 1000], _, rfl, rfl, ⟨[.int .i64 1], _, rfl, rfl, rfl⟩⟩⟩⟩⟩⟩ (Kd.Many.cons (d := (kP kS (kP (kI .i64) (kP (kI .i64) (kP (kI .i64) (kP (kI .i64) (kP (kI .i64) (kI .i64)))))))) (x := ((bstr [115, 117, 114, 101]), 1, 0, 0, 100, 2, 100)) (a := [.string (bstr [115, 117, 114, 101]), .int .i64 1, .int .i64 0, .int .i64 0, .int .i64 100, .int .i64 2, .int .i64 100]) ⟨[.string (bstr [115, 117, 114, 101])], _, rfl, rfl, ⟨[.int .i64 1], _, rfl, rfl, ⟨[.int .i64 0], _, rfl, rfl, ⟨[.int .i64 0], _, rfl, rfl, ⟨[.int .i64 100], _, rfl, rfl, ⟨[.int .i64 2], _, rfl, rfl, rfl⟩⟩⟩⟩⟩⟩ Kd.Many.nil)))))) (fun v49 g50 ho51 => ?_)
          refine Z 3 rfl ?_
          refine st_env (ρ' := [(2, .slice none 0 0), (3, .slice none 0 0), (4, .int .i64 0), (5, v49)]) ⟨rfl, rfl, rfl, rfl, trivial⟩ ?_
          refine st_ord [0] [g50] rfl ?_
          exact hk4 _ _ _ ⟨[((bstr [114, 111, 98, 111, 116]), 1, 0, 0, 65535, 1, 0), ((bstr [120]), 2, 0, (-1000000), 1000000, 1, 0), ((bstr [121]), 2, 0, (-1000000), 1000000, 1, 0), ((bstr [104, 101, 97, 100, 105, 110, 103]), 1, 0, 0, 35999, 1, 0), ((bstr [98, 97, 116, 116, 101, 114, 121]), 1, 0, 0, 1000, 1, 0), ((bstr [115, 117, 114, 101]), 1, 0, 0, 100, 2, 100)], _, _, h, (Sto.Le.refl _), rfl, rfl, ho51⟩
        · replace h := (if_neg (ne_t hc)).mp h
          refine Z 5 rfl ?_
          refine st_cond rfl (fun hc => ?_) (fun hc => ?_)
          · replace h := (if_pos hc).mp h
            refine st_region ?_
            refine o_build (ps := [(0, [.string (bstr [114, 111, 98, 111, 116])]), (1, [.int .i64 1]), (2, [.int .i64 0]), (3, [.int .i64 0]), (4, [.int .i64 65535]), (5, [.int .i64 1]), (6, [.int .i64 0])]) (cs := [.string (bstr [114, 111, 98, 111, 116]), .int .i64 1, .int .i64 0, .int .i64 0, .int .i64 65535, .int .i64 1, .int .i64 0]) rfl rfl rfl z_struct182 ⟨rfl, ⟨_, (ev_str z_str0), rfl⟩, ⟨rfl, ⟨_, rfl, rfl⟩, ⟨rfl, ⟨_, rfl, rfl⟩, ⟨rfl, ⟨_, rfl, rfl⟩, ⟨rfl, ⟨_, rfl, rfl⟩, ⟨rfl, ⟨_, rfl, rfl⟩, ⟨rfl, ⟨_, rfl, rfl⟩, trivial⟩⟩⟩⟩⟩⟩⟩ rfl ?_
            refine o_build (ps := [(0, [.string (bstr [99, 111, 100, 101])]), (1, [.int .i64 1]), (2, [.int .i64 0]), (3, [.int .i64 1]), (4, [.int .i64 9999]), (5, [.int .i64 1]), (6, [.int .i64 0])]) (cs := [.string (bstr [99, 111, 100, 101]), .int .i64 1, .int .i64 0, .int .i64 1, .int .i64 9999, .int .i64 1, .int .i64 0]) rfl rfl rfl z_struct182 ⟨rfl, ⟨_, (ev_str z_str14), rfl⟩, ⟨rfl, ⟨_, rfl, rfl⟩, ⟨rfl, ⟨_, rfl, rfl⟩, ⟨rfl, ⟨_, rfl, rfl⟩, ⟨rfl, ⟨_, rfl, rfl⟩, ⟨rfl, ⟨_, rfl, rfl⟩, ⟨rfl, ⟨_, rfl, rfl⟩, trivial⟩⟩⟩⟩⟩⟩⟩ rfl ?_
            refine o_build (ps := [(0, [.string (bstr [115, 101, 118, 101, 114, 105, 116, 121])]), (1, [.int .i64 1]), (2, [.int .i64 0]), (3, [.int .i64 0]), (4, [.int .i64 4]), (5, [.int .i64 1]), (6, [.int .i64 0])]) (cs := [.string (bstr [115, 101, 118, 101, 114, 105, 116, 121]), .int .i64 1, .int .i64 0, .int .i64 0, .int .i64 4, .int .i64 1, .int .i64 0]) rfl rfl rfl z_struct182 ⟨rfl, ⟨_, (ev_str z_str15), rfl⟩, ⟨rfl, ⟨_, rfl, rfl⟩, ⟨rfl, ⟨_, rfl, rfl⟩, ⟨rfl, ⟨_, rfl, rfl⟩, ⟨rfl, ⟨_, rfl, rfl⟩, ⟨rfl, ⟨_, rfl, rfl⟩, ⟨rfl, ⟨_, rfl, rfl⟩, trivial⟩⟩⟩⟩⟩⟩⟩ rfl ?_
            refine o_build (ps := [(0, [.string (bstr [112, 97, 114, 116])]), (1, [.int .i64 1]), (2, [.int .i64 0]), (3, [.int .i64 0]), (4, [.int .i64 255]), (5, [.int .i64 2]), (6, [.int .i64 0])]) (cs := [.string (bstr [112, 97, 114, 116]), .int .i64 1, .int .i64 0, .int .i64 0, .int .i64 255, .int .i64 2, .int .i64 0]) rfl rfl rfl z_struct182 ⟨rfl, ⟨_, (ev_str z_str16), rfl⟩, ⟨rfl, ⟨_, rfl, rfl⟩, ⟨rfl, ⟨_, rfl, rfl⟩, ⟨rfl, ⟨_, rfl, rfl⟩, ⟨rfl, ⟨_, rfl, rfl⟩, ⟨rfl, ⟨_, rfl, rfl⟩, ⟨rfl, ⟨_, rfl, rfl⟩, trivial⟩⟩⟩⟩⟩⟩⟩ rfl ?_
            refine o_build (ps := [(0, [.string (bstr [116, 105, 109, 101, 115])]), (1, [.int .i64 1]), (2, [.int .i64 0]), (3, [.int .i64 1]), (4, [.int .i64 1000000]), (5, [.int .i64 2]), (6, [.int .i64 1])]) (cs := [.string (bstr [116, 105, 109, 101, 115]), .int .i64 1, .int .i64 0, .int .i64 1, .int .i64 1000000, .int .i64 2, .int .i64 1]) rfl rfl rfl z_struct182 ⟨rfl, ⟨_, (ev_str z_str17), rfl⟩, ⟨rfl, ⟨_, rfl, rfl⟩, ⟨rfl, ⟨_, rfl, rfl⟩, ⟨rfl, ⟨_, rfl, rfl⟩, ⟨rfl, ⟨_, rfl, rfl⟩, ⟨rfl, ⟨_, rfl, rfl⟩, ⟨rfl, ⟨_, rfl, rfl⟩, trivial⟩⟩⟩⟩⟩⟩⟩ rfl ?_
            refine o_build (ps := [(0, [.string (bstr [116, 101, 120, 116])]), (1, [.int .i64 5]), (2, [.int .i64 0]), (3, [.int .i64 0]), (4, [.int .i64 64]), (5, [.int .i64 1]), (6, [.int .i64 0])]) (cs := [.string (bstr [116, 101, 120, 116]), .int .i64 5, .int .i64 0, .int .i64 0, .int .i64 64, .int .i64 1, .int .i64 0]) rfl rfl rfl z_struct182 ⟨rfl, ⟨_, (ev_str z_str18), rfl⟩, ⟨rfl, ⟨_, rfl, rfl⟩, ⟨rfl, ⟨_, rfl, rfl⟩, ⟨rfl, ⟨_, rfl, rfl⟩, ⟨rfl, ⟨_, rfl, rfl⟩, ⟨rfl, ⟨_, rfl, rfl⟩, ⟨rfl, ⟨_, rfl, rfl⟩, trivial⟩⟩⟩⟩⟩⟩⟩ rfl ?_
            refine o_lit (dk := (kP kS (kP (kI .i64) (kP (kI .i64) (kP (kI .i64) (kP (kI .i64) (kP (kI .i64) (kI .i64)))))))) (xs := [((bstr [114, 111, 98, 111, 116]), 1, 0, 0, 65535, 1, 0), ((bstr [99, 111, 100, 101]), 1, 0, 1, 9999, 1, 0), ((bstr [115, 101, 118, 101, 114, 105, 116, 121]), 1, 0, 0, 4, 1, 0), ((bstr [112, 97, 114, 116]), 1, 0, 0, 255, 2, 0), ((bstr [116, 105, 109, 101, 115]), 1, 0, 1, 1000000, 2, 1), ((bstr [116, 101, 120, 116]), 5, 0, 0, 64, 1, 0)]) (ps := [(0, [.string (bstr [114, 111, 98, 111, 116]), .int .i64 1, .int .i64 0, .int .i64 0, .int .i64 65535, .int .i64 1, .int .i64 0]), (1, [.string (bstr [99, 111, 100, 101]), .int .i64 1, .int .i64 0, .int .i64 1, .int .i64 9999, .int .i64 1, .int .i64 0]), (2, [.string (bstr [115, 101, 118, 101, 114, 105, 116, 121]), .int .i64 1, .int .i64 0, .int .i64 0, .int .i64 4, .int .i64 1, .int .i64 0]), (3, [.string (bstr [112, 97, 114, 116]), .int .i64 1, .int .i64 0, .int .i64 0, .int .i64 255, .int .i64 2, .int .i64 0]), (4, [.string (bstr [116, 105, 109, 101, 115]), .int .i64 1, .int .i64 0, .int .i64 1, .int .i64 1000000, .int .i64 2, .int .i64 1]), (5, [.string (bstr [116, 101, 120, 116]), .int .i64 5, .int .i64 0, .int .i64 0, .int .i64 64, .int .i64 1, .int .i64 0])]) (cs := [.string (bstr [114, 111, 98, 111, 116]), .int .i64 1, .int .i64 0, .int .i64 0, .int .i64 65535, .int .i64 1, .int .i64 0, .string (bstr [99, 111, 100, 101]), .int .i64 1, .int .i64 0, .int .i64 1, .int .i64 9999, .int .i64 1, .int .i64 0, .string (bstr [115, 101, 118, 101, 114, 105, 116, 121]), .int .i64 1, .int .i64 0, .int .i64 0, .int .i64 4, .int .i64 1, .int .i64 0, .string (bstr [112, 97, 114, 116]), .int .i64 1, .int .i64 0, .int .i64 0, .int .i64 255, .int .i64 2, .int .i64 0, .string (bstr [116, 105, 109, 101, 115]), .int .i64 1, .int .i64 0, .int .i64 1, .int .i64 1000000, .int .i64 2, .int .i64 1, .string (bstr [116, 101, 120, 116]), .int .i64 5, .int .i64 0, .int .i64 0, .int .i64 64, .int .i64 1, .int .i64 0]) rfl rfl rfl z_slT180 z_zero182 ⟨rfl, ⟨_, rfl, rfl⟩, ⟨rfl, ⟨_, rfl, rfl⟩, ⟨rfl, ⟨_, rfl, rfl⟩, ⟨rfl, ⟨_, rfl, rfl⟩, ⟨rfl, ⟨_, rfl, rfl⟩, ⟨rfl, ⟨_, rfl, rfl⟩, trivial⟩⟩⟩⟩⟩⟩ rfl rfl rfl rfl (Kd.Many.cons (d := (kP kS (kP (kI .i64) (kP (kI .i64) (kP (kI .i64) (kP (kI .i64) (kP (kI .i64) (kI .i64)))))))) (x := ((bstr [114, 111, 98, 111, 116]), 1, 0, 0, 65535, 1, 0)) (a := [.string (bstr [114, 111, 98, 111, 116]), .int .i64 1, .int .i64 0, .int .i64 0, .int .i64 65535, .int .i64 1, .int .i64 0]) ⟨[.string (bstr [114, 111, 98, 111, 116])], _, rfl, rfl, ⟨[.int .i64 1], _, rfl, rfl, ⟨[.int .i64 0], _, rfl, rfl, ⟨[.int .i64 0], _, rfl, rfl, ⟨[.int .i64 65535], _, rfl, rfl, ⟨[.int .i64 1], _, rfl, rfl, rfl⟩⟩⟩⟩⟩⟩ (Kd.Many.cons (d := (kP kS (kP (kI .i64) (kP (kI .i64) (kP (kI .i64) (kP (kI .i64) (kP (kI .i64) (kI .i64)))))))) (x := ((bstr [99, 111, 100, 101]), 1, 0, 1, 9999, 1, 0)) (a := [.string (bstr [99, 111, 100, 101]), .int .i64 1, .int .i64 0, .int .i64 1, .int .i64 9999, .int .i64 1, .int .i64 0]) ⟨[.string (bstr [99, 111, 100, 101])], _, rfl, rfl, ⟨[.int .i64 1], _, rfl, rfl, ⟨[.int .i64 0], _, rfl, rfl, ⟨[.int .i64 1], _, rfl, rfl, ⟨[.int .i64 9999], _, rfl, rfl, ⟨[.int .i64 1], _, rfl, rfl, rfl⟩⟩⟩⟩⟩⟩ (Kd.Many.cons (d := (kP kS (kP (kI .i64) (kP (kI .i64) (kP (kI .i64) (kP (kI .i64) (kP (kI .i64) (kI .i64)))))))) (x := ((bstr [115, 101, 118, 101, 114, 105, 116, 121]), 1, 0, 0, 4, 1, 0)) (a := [.string (bstr [115, 101, 118, 101, 114, 105, 116, 121]), .int .i64 1, .int .i64 0, .int .i64 0, .int .i64 4, .int .i64 1, .int .i64 0]) ⟨[.string (bstr [115, 101, 118, 101, 114, 105, 116, 121])], _, rfl, rfl, ⟨[.int .i64 1], _, rfl, rfl, ⟨[.int .i64 0], _, rfl, rfl, ⟨[.int .i64 0], _, rfl, rfl, ⟨[.int .i64 4], _, rfl, rfl, ⟨[.int .i64 1], _, rfl, rfl, rfl⟩⟩⟩⟩⟩⟩ (Kd.Many.cons (d := (kP kS (kP (kI .i64) (kP (kI .i64) (kP (kI .i64) (kP (kI .i64) (kP (kI .i64) (kI .i64)))))))) (x := ((bstr [112, 97, 114, 116]), 1, 0, 0, 255, 2, 0)) (a := [.string (bstr [112, 97, 114, 116]), .int .i64 1, .int .i64 0, .int .i64 0, .int .i64 255, .int .i64 2, .int .i64 0]) ⟨[.string (bstr [112, 97, 114, 116])], _, rfl, rfl, ⟨[.int .i64 1], _, rfl, rfl, ⟨[.int .i64 0], _, rfl, rfl, ⟨[.int .i64 0], _, rfl, rfl, ⟨[.int .i64 255], _, rfl, rfl, ⟨[.int .i64 2], _, rfl, rfl, rfl⟩⟩⟩⟩⟩⟩ (Kd.Many.cons (d := (kP kS (kP (kI .i64) (kP (kI .i64) (kP (kI .i64) (kP (kI .i64) (kP (kI .i64) (kI .i64)))))))) (x := ((bstr [116, 105, 109, 101, 115]), 1, 0, 1, 1000000, 2, 1)) (a := [.string (bstr [116, 105, 109, 101, 115]), .int .i64 1, .int .i64 0, .int .i64 1, .int .i64 1000000, .int .i64 2, .int .i64 1]) ⟨[.string (bstr [116, 105, 109, 101, 115])], _, rfl, rfl, ⟨[.int .i64 1], _, rfl, rfl, ⟨[.int .i64 0], _, rfl, rfl, ⟨[.int .i64 1], _, rfl, rfl, ⟨[.int .i64 1000000], _, rfl, rfl, ⟨[.int .i64 2], _, rfl, rfl, rfl⟩⟩⟩⟩⟩⟩ (Kd.Many.cons (d := (kP kS (kP (kI .i64) (kP (kI .i64) (kP (kI .i64) (kP (kI .i64) (kP (kI .i64) (kI .i64)))))))) (x := ((bstr [116, 101, 120, 116]), 5, 0, 0, 64, 1, 0)) (a := [.string (bstr [116, 101, 120, 116]), .int .i64 5, .int .i64 0, .int .i64 0, .int .i64 64, .int .i64 1, .int .i64 0]) ⟨[.string (bstr [116, 101, 120, 116])], _, rfl, rfl, ⟨[.int .i64 5], _, rfl, rfl, ⟨[.int .i64 0], _, rfl, rfl, ⟨[.int .i64 0], _, rfl, rfl, ⟨[.int .i64 64], _, rfl, rfl, ⟨[.int .i64 1], _, rfl, rfl, rfl⟩⟩⟩⟩⟩⟩ Kd.Many.nil)))))) (fun v52 g53 ho54 => ?_)
            refine Z 3 rfl ?_
            refine st_env (ρ' := [(2, .slice none 0 0), (3, .slice none 0 0), (4, .int .i64 0), (5, v52)]) ⟨rfl, rfl, rfl, rfl, trivial⟩ ?_
            refine st_ord [0] [g53] rfl ?_
            exact hk4 _ _ _ ⟨[((bstr [114, 111, 98, 111, 116]), 1, 0, 0, 65535, 1, 0), ((bstr [99, 111, 100, 101]), 1, 0, 1, 9999, 1, 0), ((bstr [115, 101, 118, 101, 114, 105, 116, 121]), 1, 0, 0, 4, 1, 0), ((bstr [112, 97, 114, 116]), 1, 0, 0, 255, 2, 0), ((bstr [116, 105, 109, 101, 115]), 1, 0, 1, 1000000, 2, 1), ((bstr [116, 101, 120, 116]), 5, 0, 0, 64, 1, 0)], _, _, h, (Sto.Le.refl _), rfl, rfl, ho54⟩
          · replace h := (if_neg (ne_t hc)).mp h
            refine Z 2 rfl ?_
            refine st_env (ρ' := [(2, .slice none 0 0), (3, .slice none 0 0), (4, .int .i64 0), (5, v1)]) ⟨rfl, rfl, rfl, rfl, trivial⟩ ?_
            exact hk4 _ _ _ ⟨([] : List (ByteArray × Int × Int × Int × Int × Int × Int)), _, _, h, (Sto.Le.refl _), rfl, rfl, ho3⟩
theorem ref17_path_ok {a0 : List (List Int)} {v1 : Value} {r : Int} (h : ref17_path a0 r) (σ : Sto) (hs2 : Sl (kA .i64 2) σ v1 a0) :
    Does Tryd.prog 149 [v1] σ [] (fun v τ gs => gs = [] ∧ .int .i64 r = v) := by
  refine call_of Tryd.func149 Tryd.ntmps149 rfl rfl (fun cs fs => ?_)
  refine Z 8 rfl ?_
  refine o_lenI rfl rfl rfl z_slT37 rfl hs2 ?_
  refine Z 2 rfl ?_
  refine st_cond rfl (fun hc => ?_) (fun hc => ?_)
  · replace h := (if_pos hc).mp h
    refine Z 4 rfl ?_
    obtain rfl := Eq.symm h
    exact st_ret (gs' := []) Tryd.func149 rfl (List.Sublist.refl _) (Sto.Le.refl _) ⟨rfl, rfl⟩
  · replace h := (if_neg (ne_t hc)).mp h
    refine Z 5 rfl ?_
    refine o_lenI rfl rfl rfl z_slT37 rfl hs2 ?_
    refine Z 2 rfl ?_
    refine st_cond rfl (fun hc => ?_) (fun hc => ?_)
    · replace h := (if_pos hc).mp h
      refine Z 4 rfl ?_
      obtain rfl := Eq.symm h
      exact st_ret (gs' := []) Tryd.func149 rfl (List.Sublist.refl _) (Sto.Le.refl _) ⟨rfl, rfl⟩
    · replace h := (if_neg (ne_t hc)).mp h
      refine Z 2 rfl ?_
      refine st_cut (fun ρ τ3 gs => ∃ (s3 : Unit), ref17_path_j1 s3 r ∧ σ.Le τ3 ∧ ρ = [(2, .int .i64 0)] ∧ gs = []) ?_ (fun hk3 => ?_)
      · rintro ρ3 τ3 gs3 ⟨s3, h, hl3, rfl, rfl⟩
        refine Z 4 rfl ?_
        obtain rfl := Eq.symm h
        exact st_ret (gs' := []) Tryd.func149 rfl (List.Sublist.refl _) hl3 ⟨rfl, rfl⟩
      refine Z 4 rfl ?_
      obtain ⟨e4, hL4, hA4⟩ := h
      refine st_env (ρ' := [(0, v1), (2, .int .i64 0), (3, .int .i64 0)]) ⟨rfl, rfl, rfl, trivial⟩ ?_
      refine st_loop hL4 (fun (s4 : Int) ρ τ4 gs => σ.Le τ4 ∧ ρ = [(0, v1), (2, .int .i64 0), (3, .int .i64 s4)] ∧ gs = []) ⟨Sto.Le.refl _, rfl, rfl⟩ ?_
      rintro s4 o4 h he4 ρ4 τ4 gs4 ⟨hl4, rfl, rfl⟩ hn4
      refine Z 5 rfl ?_
      refine o_lenI rfl rfl rfl z_slT37 rfl (hs2.up hl4) ?_
      refine Z 2 rfl ?_
      refine st_cond rfl (fun hc => ?_) (fun hc => ?_)
      · replace h := (if_pos hc).mp h
        refine Z 2 rfl ?_
        refine st_cut (fun ρ τ5 gs => ∃ (s5 : Unit), ref17_path_j3 s4 s5 o4 ∧ τ4.Le τ5 ∧ ρ = [(0, v1), (2, .int .i64 0), (3, .int .i64 s4)] ∧ gs = []) ?_ (fun hk5 => ?_)
        · rintro ρ5 τ5 gs5 ⟨s5, h, hl5, rfl, rfl⟩
          refine Z 5 rfl ?_
          refine st_env (ρ' := [(0, v1), (2, .int .i64 0), (3, .int .i64 (IntKind.i64.wrap (s4 + 1)))]) ⟨rfl, rfl, rfl, trivial⟩ ?_
          exact hn4 _ _ _ _ h ⟨(hl4.trans hl5), rfl, rfl⟩
        refine Z 5 rfl ?_
        obtain ⟨e6, hL6, hA6⟩ := h
        refine st_env (ρ' := [(0, v1), (2, .int .i64 0), (3, .int .i64 s4), (4, .int .i64 0)]) ⟨rfl, rfl, rfl, rfl, trivial⟩ ?_
        refine st_loop hL6 (fun (s6 : Int) ρ τ6 gs => τ4.Le τ6 ∧ ρ = [(0, v1), (2, .int .i64 0), (3, .int .i64 s4), (4, .int .i64 s6)] ∧ gs = []) ⟨Sto.Le.refl _, rfl, rfl⟩ ?_
        rintro s6 o6 h he6 ρ6 τ6 gs6 ⟨hl6, rfl, rfl⟩ hn6
        refine Z 6 rfl ?_
        refine st_cond rfl (fun hc => ?_) (fun hc => ?_)
        · replace h := (if_pos hc).mp h
          refine Z 4 rfl ?_
          refine st_cut (fun ρ τ7 gs => ∃ (s7 : Bool), ref17_path_j5 s6 s7 o6 ∧ τ6.Le τ7 ∧ ρ = [(0, v1), (2, .int .i64 0), (3, .int .i64 s4), (4, .int .i64 s6), (36, .bool s7)] ∧ gs = []) ?_ (fun hk7 => ?_)
          · rintro ρ7 τ7 gs7 ⟨s7, h, hl7, rfl, rfl⟩
            refine st_cond rfl (fun hc => ?_) (fun hc => ?_)
            · replace h := (if_pos hc).mp h
              refine Z 4 rfl ?_
              obtain rfl := he6 _ h
              replace h := hA6
              obtain rfl := he4 _ h
              replace h := hA4
              obtain rfl := Eq.symm h
              exact st_ret (gs' := []) Tryd.func149 rfl (List.Sublist.refl _) ((hl4.trans hl6).trans hl7) ⟨rfl, rfl⟩
            · replace h := (if_neg (ne_t hc)).mp h
              refine Z 7 rfl ?_
              refine st_env (ρ' := [(0, v1), (2, .int .i64 0), (3, .int .i64 s4), (4, .int .i64 (IntKind.i64.wrap (s6 + 1)))]) ⟨rfl, rfl, rfl, rfl, trivial⟩ ?_
              exact hn6 _ _ _ _ h ⟨(hl6.trans hl7), rfl, rfl⟩
          refine Z 4 rfl ?_
          obtain ⟨q8, hf9, h⟩ := h
          refine o_index rfl rfl rfl z_slT37 rfl rfl (hs2.up (hl4.trans hl6)) rfl hf9 (fun b10 of11 vs hc12 hrep => ?_)
          obtain rfl := hrep
          obtain ⟨hf13, hf14, h⟩ := h
          refine o_indexA rfl rfl rfl z_arr132 rfl rfl hf13 hf14 ?_
          refine o_loadI (v := .int .i64 (q8.getD s6.toNat 0)) rfl rfl rfl z_sc3 rfl (cel_arr (f := (Value.int .i64)) (zz := 0) (n := 2) (xs := q8) (p := 0) (q := s6.toNat) hc12 rfl (by omega) (by omega)) ?_
          refine o_ibin (v := .bool (decide ((q8.getD s6.toNat 0) < (-1000000)))) rfl rfl rfl rfl rfl rfl ?_
          refine o_moveB rfl rfl rfl rfl (fun hc => ?_) (fun hc => ?_)
          · replace h := (if_pos hc).mp h
            refine Z 9 rfl ?_
            refine st_env (ρ' := [(0, v1), (2, .int .i64 0), (3, .int .i64 s4), (4, .int .i64 s6), (36, .bool true)]) ⟨rfl, rfl, rfl, rfl, rfl, trivial⟩ ?_
            exact hk7 _ _ _ ⟨true, h, (Sto.Le.refl _), rfl, rfl⟩
          · replace h := (if_neg (ne_t hc)).mp h
            refine Z 3 rfl ?_
            obtain ⟨q15, hf16, h⟩ := h
            refine o_index rfl rfl rfl z_slT37 rfl rfl (hs2.up (hl4.trans hl6)) rfl hf16 (fun b17 of18 vs hc19 hrep => ?_)
            obtain rfl := hrep
            obtain ⟨hf20, hf21, h⟩ := h
            refine o_indexA rfl rfl rfl z_arr132 rfl rfl hf20 hf21 ?_
            refine o_loadI (v := .int .i64 (q15.getD s6.toNat 0)) rfl rfl rfl z_sc3 rfl (cel_arr (f := (Value.int .i64)) (zz := 0) (n := 2) (xs := q15) (p := 0) (q := s6.toNat) hc19 rfl (by omega) (by omega)) ?_
            refine Z 3 rfl ?_
            refine st_env (ρ' := [(0, v1), (2, .int .i64 0), (3, .int .i64 s4), (4, .int .i64 s6), (36, .bool (decide (1000000 < (q15.getD s6.toNat 0))))]) ⟨rfl, rfl, rfl, rfl, rfl, trivial⟩ ?_
            exact hk7 _ _ _ ⟨(decide (1000000 < (q15.getD s6.toNat 0))), h, (Sto.Le.refl _), rfl, rfl⟩
        · replace h := (if_neg (ne_t hc)).mp h
          refine Z 2 rfl ?_
          obtain rfl := he6 _ h
          replace h := hA6
          refine st_env (ρ' := [(0, v1), (2, .int .i64 0), (3, .int .i64 s4)]) ⟨rfl, rfl, rfl, trivial⟩ ?_
          exact hk5 _ _ _ ⟨(), h, hl6, rfl, rfl⟩
      · replace h := (if_neg (ne_t hc)).mp h
        refine st_exit rfl ?_
        obtain rfl := he4 _ h
        replace h := hA4
        refine st_env (ρ' := [(2, .int .i64 0)]) ⟨rfl, trivial⟩ ?_
        exact hk3 _ _ _ ⟨(), h, hl4, rfl, rfl⟩
theorem ref17_cells_ok {a0 : List Int} {v1 : Value} {r : Int} (h : ref17_cells a0 r) (σ : Sto) (hs2 : Sl (kI .i64) σ v1 a0) :
    Does Tryd.prog 150 [v1] σ [] (fun v τ gs => gs = [] ∧ .int .i64 r = v) := by
  refine call_of Tryd.func150 Tryd.ntmps150 rfl rfl (fun cs fs => ?_)
  refine Z 8 rfl ?_
  refine o_lenI rfl rfl rfl z_slT24 rfl hs2 ?_
  refine Z 2 rfl ?_
  refine st_cond rfl (fun hc => ?_) (fun hc => ?_)
  · replace h := (if_pos hc).mp h
    refine Z 4 rfl ?_
    obtain rfl := Eq.symm h
    exact st_ret (gs' := []) Tryd.func150 rfl (List.Sublist.refl _) (Sto.Le.refl _) ⟨rfl, rfl⟩
  · replace h := (if_neg (ne_t hc)).mp h
    refine Z 5 rfl ?_
    refine o_lenI rfl rfl rfl z_slT24 rfl hs2 ?_
    refine Z 2 rfl ?_
    refine st_cond rfl (fun hc => ?_) (fun hc => ?_)
    · replace h := (if_pos hc).mp h
      refine Z 4 rfl ?_
      obtain rfl := Eq.symm h
      exact st_ret (gs' := []) Tryd.func150 rfl (List.Sublist.refl _) (Sto.Le.refl _) ⟨rfl, rfl⟩
    · replace h := (if_neg (ne_t hc)).mp h
      refine Z 2 rfl ?_
      refine st_cut (fun ρ τ3 gs => ∃ (s3 : Unit), ref17_cells_j1 s3 r ∧ σ.Le τ3 ∧ ρ = [(2, .int .i64 0)] ∧ gs = []) ?_ (fun hk3 => ?_)
      · rintro ρ3 τ3 gs3 ⟨s3, h, hl3, rfl, rfl⟩
        refine Z 4 rfl ?_
        obtain rfl := Eq.symm h
        exact st_ret (gs' := []) Tryd.func150 rfl (List.Sublist.refl _) hl3 ⟨rfl, rfl⟩
      refine Z 4 rfl ?_
      obtain ⟨e4, hL4, hA4⟩ := h
      refine st_env (ρ' := [(0, v1), (2, .int .i64 0), (3, .int .i64 0)]) ⟨rfl, rfl, rfl, trivial⟩ ?_
      refine st_loop hL4 (fun (s4 : Int) ρ τ4 gs => σ.Le τ4 ∧ ρ = [(0, v1), (2, .int .i64 0), (3, .int .i64 s4)] ∧ gs = []) ⟨Sto.Le.refl _, rfl, rfl⟩ ?_
      rintro s4 o4 h he4 ρ4 τ4 gs4 ⟨hl4, rfl, rfl⟩ hn4
      refine Z 5 rfl ?_
      refine o_lenI rfl rfl rfl z_slT24 rfl (hs2.up hl4) ?_
      refine Z 2 rfl ?_
      refine st_cond rfl (fun hc => ?_) (fun hc => ?_)
      · replace h := (if_pos hc).mp h
        refine Z 5 rfl ?_
        refine st_cut (fun ρ τ5 gs => ∃ (s5 : Bool), ref17_cells_j3 a0 s4 s5 o4 ∧ τ4.Le τ5 ∧ ρ = [(0, v1), (2, .int .i64 0), (3, .int .i64 s4), (27, .bool s5)] ∧ gs = []) ?_ (fun hk5 => ?_)
        · rintro ρ5 τ5 gs5 ⟨s5, h, hl5, rfl, rfl⟩
          refine st_cond rfl (fun hc => ?_) (fun hc => ?_)
          · replace h := (if_pos hc).mp h
            refine Z 4 rfl ?_
            obtain rfl := he4 _ h
            replace h := hA4
            obtain rfl := Eq.symm h
            exact st_ret (gs' := []) Tryd.func150 rfl (List.Sublist.refl _) (hl4.trans hl5) ⟨rfl, rfl⟩
          · replace h := (if_neg (ne_t hc)).mp h
            refine Z 2 rfl ?_
            obtain ⟨q6, hf7, q11, hf12, h⟩ := h
            refine st_draw 14 (tl [fun τ v => (.int .i64 s4 : Value) = v,
    fun τ v => (.bool (decide (0 < s4)) : Value) = v,
    fun τ v => (.bool (decide (0 < s4)) : Value) = v,
    fun τ v => (((decide (0 < s4)) = true) → (v1 : Value) = v) ∧ (¬ ((decide (0 < s4)) = true) → v = undef),
    fun τ v => (((decide (0 < s4)) = true) → (.int .i64 s4 : Value) = v) ∧ (¬ ((decide (0 < s4)) = true) → v = undef),
    fun τ v => (((decide (0 < s4)) = true) → ∃ (b8 : Nat) (of9 : Nat) (vsb8 : List Value), (.pointer (some ⟨b8, of9, none⟩) : Value) = v ∧ CelN τ ⟨b8, of9, none⟩ vsb8 ∧ (kI .i64).rep τ vsb8 q6) ∧ (¬ ((decide (0 < s4)) = true) → v = undef),
    fun τ v => (((decide (0 < s4)) = true) → (.int .i64 q6 : Value) = v) ∧ (¬ ((decide (0 < s4)) = true) → v = undef),
    fun τ v => (((decide (0 < s4)) = true) → (v1 : Value) = v) ∧ (¬ ((decide (0 < s4)) = true) → v = undef),
    fun τ v => (((decide (0 < s4)) = true) → (.int .i64 s4 : Value) = v) ∧ (¬ ((decide (0 < s4)) = true) → v = undef),
    fun τ v => (((decide (0 < s4)) = true) → (.int .i64 (IntKind.i64.wrap (s4 - 1)) : Value) = v) ∧ (¬ ((decide (0 < s4)) = true) → v = undef),
    fun τ v => (((decide (0 < s4)) = true) → ∃ (b13 : Nat) (of14 : Nat) (vsb13 : List Value), (.pointer (some ⟨b13, of14, none⟩) : Value) = v ∧ CelN τ ⟨b13, of14, none⟩ vsb13 ∧ (kI .i64).rep τ vsb13 q11) ∧ (¬ ((decide (0 < s4)) = true) → v = undef),
    fun τ v => (((decide (0 < s4)) = true) → (.int .i64 q11 : Value) = v) ∧ (¬ ((decide (0 < s4)) = true) → v = undef),
    fun τ v => (((decide (0 < s4)) = true) → (.bool (decide (q6 ≤ q11)) : Value) = v) ∧ (¬ ((decide (0 < s4)) = true) → v = undef),
    fun τ v => (.bool ((decide (0 < s4)) && (decide (q6 ≤ q11))) : Value) = v]) (fun _ _ => []) z_mix rfl (tl_mono ⟨fun _ _ _ _ h => h, ⟨fun _ _ _ _ h => h, ⟨fun _ _ _ _ h => h, ⟨fun _ _ _ _ h => h, ⟨fun _ _ _ _ h => h, ⟨fun _ _ _ hl ⟨h1, h2⟩ => ⟨fun hC => let ⟨b8, of9, vsb8, hv, hc10, hrepb8⟩ := h1 hC; ⟨b8, of9, vsb8, hv, hc10.up hl, Kd.mono _ hl hrepb8⟩, h2⟩, ⟨fun _ _ _ _ h => h, ⟨fun _ _ _ _ h => h, ⟨fun _ _ _ _ h => h, ⟨fun _ _ _ _ h => h, ⟨fun _ _ _ hl ⟨h1, h2⟩ => ⟨fun hC => let ⟨b13, of14, vsb13, hv, hc15, hrepb13⟩ := h1 hC; ⟨b13, of14, vsb13, hv, hc15.up hl, Kd.mono _ hl hrepb13⟩, h2⟩, ⟨fun _ _ _ _ h => h, ⟨fun _ _ _ _ h => h, ⟨fun _ _ _ _ h => h, trivial⟩⟩⟩⟩⟩⟩⟩⟩⟩⟩⟩⟩⟩⟩) (allB_cons (allB_cons (allB_cons (allB_cons (allB_cons (allB_cons (allB_cons (allB_cons (allB_cons (allB_cons (allB_cons (allB_cons (allB_cons (allB_cons allB_nil ?_) ?_) ?_) ?_) ?_) ?_) ?_) ?_) ?_) ?_) ?_) ?_) ?_) ?_) ?_
            · intro ρ' τ pool rs hl hd hout hk
              refine o_move rfl rfl rfl ((hout 3 rfl).trans rfl) ?_
              exact st_addNil (hk _ _ (Sto.Le.refl _) rfl)
            · intro ρ' τ pool rs hl hd hout hk
              obtain ⟨_, e0, rfl⟩ := hd 0 rfl
              refine o_ibin (v := .bool (decide (0 < s4))) rfl rfl rfl e0 rfl rfl ?_
              exact st_addNil (hk _ _ (Sto.Le.refl _) rfl)
            · intro ρ' τ pool rs hl hd hout hk
              obtain ⟨_, e1, rfl⟩ := hd 1 rfl
              refine o_move rfl rfl rfl e1 ?_
              exact st_addNil (hk _ _ (Sto.Le.refl _) rfl)
            · intro ρ' τ pool rs hl hd hout hk
              obtain ⟨_, e2, rfl⟩ := hd 2 rfl
              by_cases hG : (decide (0 < s4)) = true
              · have hC := hG
                refine o_move rfl (wants_of rfl e2 hG) rfl ((hout 0 rfl).trans rfl) ?_
                exact st_addNil (hk _ _ (Sto.Le.refl _) ⟨fun _ => rfl, fun hn => absurd hC hn⟩)
              · refine st_pass rfl rfl rfl e2 (beq_off hG) rfl ?_
                exact st_addNil (hk _ _ (Sto.Le.refl _) ⟨fun h => absurd h hG, fun _ => rfl⟩)
            · intro ρ' τ pool rs hl hd hout hk
              obtain ⟨_, e2, rfl⟩ := hd 2 rfl
              by_cases hG : (decide (0 < s4)) = true
              · have hC := hG
                refine o_move rfl (wants_of rfl e2 hG) rfl ((hout 3 rfl).trans rfl) ?_
                exact st_addNil (hk _ _ (Sto.Le.refl _) ⟨fun _ => rfl, fun hn => absurd hC hn⟩)
              · refine st_pass rfl rfl rfl e2 (beq_off hG) rfl ?_
                exact st_addNil (hk _ _ (Sto.Le.refl _) ⟨fun h => absurd h hG, fun _ => rfl⟩)
            · intro ρ' τ pool rs hl hd hout hk
              obtain ⟨_, e2, rfl⟩ := hd 2 rfl
              obtain ⟨w3, e3, t3⟩ := hd 3 rfl
              obtain ⟨w4, e4, t4⟩ := hd 4 rfl
              by_cases hG : (decide (0 < s4)) = true
              · have hC := hG
                replace hf7 := hf7 hC
                obtain ⟨rfl⟩ := t4.1 hC
                obtain ⟨rfl⟩ := t3.1 hC
                refine o_index rfl (wants_of rfl e2 hG) rfl z_slT24 rfl e3 (hs2.up ((hl4.trans hl5).trans hl)) e4 hf7 (fun b8 of9 vsb8 hc10 hrepb8 => ?_)
                exact st_addNil (hk _ _ (Sto.Le.refl _) ⟨fun _ => ⟨b8, of9, _, rfl, hc10, hrepb8⟩, fun hn => absurd hC hn⟩)
              · refine st_pass rfl rfl rfl e2 (beq_off hG) rfl ?_
                exact st_addNil (hk _ _ (Sto.Le.refl _) ⟨fun h => absurd h hG, fun _ => rfl⟩)
            · intro ρ' τ pool rs hl hd hout hk
              obtain ⟨_, e2, rfl⟩ := hd 2 rfl
              obtain ⟨w5, e5, t5⟩ := hd 5 rfl
              by_cases hG : (decide (0 < s4)) = true
              · have hC := hG
                obtain ⟨b8, of9, vsb8, rfl, hc10, hrepb8⟩ := t5.1 hC
                have hrepb8 := hrepb8
                obtain rfl := hrepb8
                refine o_loadI (v := .int .i64 q6) rfl (wants_of rfl e2 hG) rfl z_sc3 e5 (hc10 0 _ rfl) ?_
                exact st_addNil (hk _ _ (Sto.Le.refl _) ⟨fun _ => rfl, fun hn => absurd hC hn⟩)
              · refine st_pass rfl rfl rfl e2 (beq_off hG) rfl ?_
                exact st_addNil (hk _ _ (Sto.Le.refl _) ⟨fun h => absurd h hG, fun _ => rfl⟩)
            · intro ρ' τ pool rs hl hd hout hk
              obtain ⟨_, e2, rfl⟩ := hd 2 rfl
              by_cases hG : (decide (0 < s4)) = true
              · have hC := hG
                refine o_move rfl (wants_of rfl e2 hG) rfl ((hout 0 rfl).trans rfl) ?_
                exact st_addNil (hk _ _ (Sto.Le.refl _) ⟨fun _ => rfl, fun hn => absurd hC hn⟩)
              · refine st_pass rfl rfl rfl e2 (beq_off hG) rfl ?_
                exact st_addNil (hk _ _ (Sto.Le.refl _) ⟨fun h => absurd h hG, fun _ => rfl⟩)
            · intro ρ' τ pool rs hl hd hout hk
              obtain ⟨_, e2, rfl⟩ := hd 2 rfl
              by_cases hG : (decide (0 < s4)) = true
              · have hC := hG
                refine o_move rfl (wants_of rfl e2 hG) rfl ((hout 3 rfl).trans rfl) ?_
                exact st_addNil (hk _ _ (Sto.Le.refl _) ⟨fun _ => rfl, fun hn => absurd hC hn⟩)
              · refine st_pass rfl rfl rfl e2 (beq_off hG) rfl ?_
                exact st_addNil (hk _ _ (Sto.Le.refl _) ⟨fun h => absurd h hG, fun _ => rfl⟩)
            · intro ρ' τ pool rs hl hd hout hk
              obtain ⟨_, e2, rfl⟩ := hd 2 rfl
              obtain ⟨w8, e8, t8⟩ := hd 8 rfl
              by_cases hG : (decide (0 < s4)) = true
              · have hC := hG
                obtain ⟨rfl⟩ := t8.1 hC
                refine o_ibin (v := .int .i64 (IntKind.i64.wrap (s4 - 1))) rfl (wants_of rfl e2 hG) rfl e8 rfl rfl ?_
                exact st_addNil (hk _ _ (Sto.Le.refl _) ⟨fun _ => rfl, fun hn => absurd hC hn⟩)
              · refine st_pass rfl rfl rfl e2 (beq_off hG) rfl ?_
                exact st_addNil (hk _ _ (Sto.Le.refl _) ⟨fun h => absurd h hG, fun _ => rfl⟩)
            · intro ρ' τ pool rs hl hd hout hk
              obtain ⟨_, e2, rfl⟩ := hd 2 rfl
              obtain ⟨w7, e7, t7⟩ := hd 7 rfl
              obtain ⟨w9, e9, t9⟩ := hd 9 rfl
              by_cases hG : (decide (0 < s4)) = true
              · have hC := hG
                replace hf12 := hf12 hC
                obtain ⟨rfl⟩ := t7.1 hC
                obtain ⟨rfl⟩ := t9.1 hC
                refine o_index rfl (wants_of rfl e2 hG) rfl z_slT24 rfl e7 (hs2.up ((hl4.trans hl5).trans hl)) e9 hf12 (fun b13 of14 vsb13 hc15 hrepb13 => ?_)
                exact st_addNil (hk _ _ (Sto.Le.refl _) ⟨fun _ => ⟨b13, of14, _, rfl, hc15, hrepb13⟩, fun hn => absurd hC hn⟩)
              · refine st_pass rfl rfl rfl e2 (beq_off hG) rfl ?_
                exact st_addNil (hk _ _ (Sto.Le.refl _) ⟨fun h => absurd h hG, fun _ => rfl⟩)
            · intro ρ' τ pool rs hl hd hout hk
              obtain ⟨_, e2, rfl⟩ := hd 2 rfl
              obtain ⟨w10, e10, t10⟩ := hd 10 rfl
              by_cases hG : (decide (0 < s4)) = true
              · have hC := hG
                obtain ⟨b13, of14, vsb13, rfl, hc15, hrepb13⟩ := t10.1 hC
                have hrepb13 := hrepb13
                obtain rfl := hrepb13
                refine o_loadI (v := .int .i64 q11) rfl (wants_of rfl e2 hG) rfl z_sc3 e10 (hc15 0 _ rfl) ?_
                exact st_addNil (hk _ _ (Sto.Le.refl _) ⟨fun _ => rfl, fun hn => absurd hC hn⟩)
              · refine st_pass rfl rfl rfl e2 (beq_off hG) rfl ?_
                exact st_addNil (hk _ _ (Sto.Le.refl _) ⟨fun h => absurd h hG, fun _ => rfl⟩)
            · intro ρ' τ pool rs hl hd hout hk
              obtain ⟨_, e2, rfl⟩ := hd 2 rfl
              obtain ⟨w6, e6, t6⟩ := hd 6 rfl
              obtain ⟨w11, e11, t11⟩ := hd 11 rfl
              by_cases hG : (decide (0 < s4)) = true
              · have hC := hG
                obtain ⟨rfl⟩ := t6.1 hC
                obtain ⟨rfl⟩ := t11.1 hC
                refine o_ibin (v := .bool (decide (q6 ≤ q11))) rfl (wants_of rfl e2 hG) rfl e6 e11 rfl ?_
                exact st_addNil (hk _ _ (Sto.Le.refl _) ⟨fun _ => rfl, fun hn => absurd hC hn⟩)
              · refine st_pass rfl rfl rfl e2 (beq_off hG) rfl ?_
                exact st_addNil (hk _ _ (Sto.Le.refl _) ⟨fun h => absurd h hG, fun _ => rfl⟩)
            · intro ρ' τ pool rs hl hd hout hk
              obtain ⟨_, e2, rfl⟩ := hd 2 rfl
              obtain ⟨w12, e12, t12⟩ := hd 12 rfl
              refine o_pickAnd rfl rfl rfl e2 (fun hp => e12.trans (congrArg some (Eq.symm (t12.1 hp)))) rfl ?_
              exact st_addNil (hk _ _ (Sto.Le.refl _) rfl)
            intro ρ' τ16 vals hl16 hv hout
            have l13 : Eng.look ρ' 41 = some (.bool ((decide (0 < s4)) && (decide (q6 ≤ q11)))) := ((hv 13 (by decide)).1).trans (congrArg some (show vals 13 = .bool ((decide (0 < s4)) && (decide (q6 ≤ q11))) from Eq.symm (hv 13 (by decide)).2))
            refine st_ord [] [] rfl ?_
            refine st_env (ρ' := [(41, .bool ((decide (0 < s4)) && (decide (q6 ≤ q11)))), (0, v1), (2, .int .i64 0), (3, .int .i64 s4)]) ⟨l13, (hout 0 rfl).trans rfl, (hout 2 rfl).trans rfl, (hout 3 rfl).trans rfl, trivial⟩ ?_
            refine st_end ?_
            refine st_cond rfl (fun hc => ?_) (fun hc => ?_)
            · replace h := (if_pos hc).mp h
              refine Z 4 rfl ?_
              obtain rfl := he4 _ h
              replace h := hA4
              obtain rfl := Eq.symm h
              exact st_ret (gs' := []) Tryd.func150 rfl (List.Sublist.refl _) ((hl4.trans hl5).trans hl16) ⟨rfl, rfl⟩
            · replace h := (if_neg (ne_t hc)).mp h
              refine Z 7 rfl ?_
              refine st_env (ρ' := [(0, v1), (2, .int .i64 0), (3, .int .i64 (IntKind.i64.wrap (s4 + 1)))]) ⟨rfl, rfl, rfl, trivial⟩ ?_
              exact hn4 _ _ _ _ h ⟨((hl4.trans hl5).trans hl16), rfl, rfl⟩
        refine Z 3 rfl ?_
        obtain ⟨q17, hf18, h⟩ := h
        refine o_index rfl rfl rfl z_slT24 rfl rfl (hs2.up hl4) rfl hf18 (fun b19 of20 vs hc21 hrep => ?_)
        obtain rfl := hrep
        refine o_loadI (v := .int .i64 q17) rfl rfl rfl z_sc3 rfl (hc21 0 _ rfl) ?_
        refine o_ibin (v := .bool (decide (q17 < 0))) rfl rfl rfl rfl rfl rfl ?_
        refine o_moveB rfl rfl rfl rfl (fun hc => ?_) (fun hc => ?_)
        · replace h := (if_pos hc).mp h
          refine Z 7 rfl ?_
          refine st_env (ρ' := [(0, v1), (2, .int .i64 0), (3, .int .i64 s4), (27, .bool true)]) ⟨rfl, rfl, rfl, rfl, trivial⟩ ?_
          exact hk5 _ _ _ ⟨true, h, (Sto.Le.refl _), rfl, rfl⟩
        · replace h := (if_neg (ne_t hc)).mp h
          refine Z 2 rfl ?_
          obtain ⟨q22, hf23, h⟩ := h
          refine o_index rfl rfl rfl z_slT24 rfl rfl (hs2.up hl4) rfl hf23 (fun b24 of25 vs hc26 hrep => ?_)
          obtain rfl := hrep
          refine o_loadI (v := .int .i64 q22) rfl rfl rfl z_sc3 rfl (hc26 0 _ rfl) ?_
          refine Z 3 rfl ?_
          refine st_env (ρ' := [(0, v1), (2, .int .i64 0), (3, .int .i64 s4), (27, .bool (decide (65535 < q22)))]) ⟨rfl, rfl, rfl, rfl, trivial⟩ ?_
          exact hk5 _ _ _ ⟨(decide (65535 < q22)), h, (Sto.Le.refl _), rfl, rfl⟩
      · replace h := (if_neg (ne_t hc)).mp h
        refine st_exit rfl ?_
        obtain rfl := he4 _ h
        replace h := hA4
        refine st_env (ρ' := [(2, .int .i64 0)]) ⟨rfl, trivial⟩ ?_
        exact hk3 _ _ _ ⟨(), h, hl4, rfl, rfl⟩
theorem ref17_text_ok {a0 : ByteArray} {a1 : Int} {r : Int} (h : ref17_text a0 a1 r) (σ : Sto)  :
    Does Tryd.prog 151 [.string a0, .int .i64 a1] σ [] (fun v τ gs => gs = [] ∧ .int .i64 r = v) := by
  refine call_of Tryd.func151 Tryd.ntmps151 rfl rfl (fun cs fs => ?_)
  refine Z 12 rfl ?_
  refine st_cond rfl (fun hc => ?_) (fun hc => ?_)
  · replace h := (if_pos hc).mp h
    refine Z 4 rfl ?_
    obtain rfl := Eq.symm h
    exact st_ret (gs' := []) Tryd.func151 rfl (List.Sublist.refl _) (Sto.Le.refl _) ⟨rfl, rfl⟩
  · replace h := (if_neg (ne_t hc)).mp h
    refine Z 2 rfl ?_
    refine st_cut (fun ρ τ1 gs => ∃ (s1 : Unit), ref17_text_j1 s1 r ∧ σ.Le τ1 ∧ ρ = [(4, .int .i64 0)] ∧ gs = []) ?_ (fun hk1 => ?_)
    · rintro ρ1 τ1 gs1 ⟨s1, h, hl1, rfl, rfl⟩
      refine Z 4 rfl ?_
      obtain rfl := Eq.symm h
      exact st_ret (gs' := []) Tryd.func151 rfl (List.Sublist.refl _) hl1 ⟨rfl, rfl⟩
    refine Z 4 rfl ?_
    obtain ⟨e2, hL2, hA2⟩ := h
    refine st_env (ρ' := [(0, .string a0), (4, .int .i64 0), (5, .int .i64 0)]) ⟨rfl, rfl, rfl, trivial⟩ ?_
    refine st_loop hL2 (fun (s2 : Int) ρ τ2 gs => σ.Le τ2 ∧ ρ = [(0, .string a0), (4, .int .i64 0), (5, .int .i64 s2)] ∧ gs = []) ⟨Sto.Le.refl _, rfl, rfl⟩ ?_
    rintro s2 o2 h he2 ρ2 τ2 gs2 ⟨hl2, rfl, rfl⟩ hn2
    refine Z 8 rfl ?_
    refine st_cond rfl (fun hc => ?_) (fun hc => ?_)
    · replace h := (if_pos hc).mp h
      refine Z 4 rfl ?_
      refine st_cut (fun ρ τ3 gs => ∃ (s3 : Bool), ref17_text_j3 s2 s3 o2 ∧ τ2.Le τ3 ∧ ρ = [(0, .string a0), (4, .int .i64 0), (5, .int .i64 s2), (25, .bool s3)] ∧ gs = []) ?_ (fun hk3 => ?_)
      · rintro ρ3 τ3 gs3 ⟨s3, h, hl3, rfl, rfl⟩
        refine st_cond rfl (fun hc => ?_) (fun hc => ?_)
        · replace h := (if_pos hc).mp h
          refine Z 4 rfl ?_
          obtain rfl := he2 _ h
          replace h := hA2
          obtain rfl := Eq.symm h
          exact st_ret (gs' := []) Tryd.func151 rfl (List.Sublist.refl _) (hl2.trans hl3) ⟨rfl, rfl⟩
        · replace h := (if_neg (ne_t hc)).mp h
          refine Z 7 rfl ?_
          refine st_env (ρ' := [(0, .string a0), (4, .int .i64 0), (5, .int .i64 (IntKind.i64.wrap (s2 + 1)))]) ⟨rfl, rfl, rfl, trivial⟩ ?_
          exact hn2 _ _ _ _ h ⟨(hl2.trans hl3), rfl, rfl⟩
      refine Z 3 rfl ?_
      obtain ⟨q4, hf5, h⟩ := h
      refine o_indexS rfl rfl rfl Tryd.underlying9 rfl rfl hf5 ?_
      refine o_ibin (v := .bool (decide (q4 < 32))) rfl rfl rfl rfl rfl rfl ?_
      refine o_moveB rfl rfl rfl rfl (fun hc => ?_) (fun hc => ?_)
      · replace h := (if_pos hc).mp h
        refine Z 6 rfl ?_
        refine st_env (ρ' := [(0, .string a0), (4, .int .i64 0), (5, .int .i64 s2), (25, .bool true)]) ⟨rfl, rfl, rfl, rfl, trivial⟩ ?_
        exact hk3 _ _ _ ⟨true, h, (Sto.Le.refl _), rfl, rfl⟩
      · replace h := (if_neg (ne_t hc)).mp h
        refine Z 2 rfl ?_
        obtain ⟨q6, hf7, h⟩ := h
        refine o_indexS rfl rfl rfl Tryd.underlying9 rfl rfl hf7 ?_
        refine Z 3 rfl ?_
        refine st_env (ρ' := [(0, .string a0), (4, .int .i64 0), (5, .int .i64 s2), (25, .bool (decide (126 < q6)))]) ⟨rfl, rfl, rfl, rfl, trivial⟩ ?_
        exact hk3 _ _ _ ⟨(decide (126 < q6)), h, (Sto.Le.refl _), rfl, rfl⟩
    · replace h := (if_neg (ne_t hc)).mp h
      refine st_exit rfl ?_
      obtain rfl := he2 _ h
      replace h := hA2
      refine st_env (ρ' := [(4, .int .i64 0)]) ⟨rfl, trivial⟩ ?_
      exact hk1 _ _ _ ⟨(), h, hl2, rfl, rfl⟩
theorem ref17_Check_ok {a0 : Int × List Int × List (List Int) × List Int × ByteArray × ByteArray} {v1 : Value} {v2 : Value} {r : Int} (h : ref17_Check a0 r) (σ : Sto) (hs3 : Sl (kA .i64 2) σ v1 a0.2.2.1) (hs4 : Sl (kI .i64) σ v2 a0.2.2.2.1) :
    Does Tryd.prog 114 [.agg [.int .i64 a0.1, .int .i64 (a0.2.1.getD 0 0), .int .i64 (a0.2.1.getD 1 0), .int .i64 (a0.2.1.getD 2 0), .int .i64 (a0.2.1.getD 3 0), .int .i64 (a0.2.1.getD 4 0), .int .i64 (a0.2.1.getD 5 0), v1, v2, .string a0.2.2.2.2.1, .string a0.2.2.2.2.2].toArray] σ [] (fun v τ gs => gs = [] ∧ .int .i64 r = v) := by
  refine call_of Tryd.func114 Tryd.ntmps114 rfl rfl (fun cs fs => ?_)
  refine Z 2 rfl ?_
  refine o_box (cs := [.int .i64 a0.1, .int .i64 (a0.2.1.getD 0 0), .int .i64 (a0.2.1.getD 1 0), .int .i64 (a0.2.1.getD 2 0), .int .i64 (a0.2.1.getD 3 0), .int .i64 (a0.2.1.getD 4 0), .int .i64 (a0.2.1.getD 5 0), v1, v2, .string a0.2.2.2.2.1, .string a0.2.2.2.2.2]) rfl rfl rfl rfl rfl (fun b5 => ?_)
  refine Z 5 rfl ?_
  refine o_load (j := 0) (v := .int .i64 a0.1) rfl rfl rfl z_sc3 rfl rfl rfl ?_
  obtain ⟨r6, hr7, h⟩ := h
  refine st_call (foot := []) rfl rfl rfl rfl rfl rfl (callV_fn z_en116 (ref16_All_ok hr7 σ)) ?_
  rintro vτ8 τ8 gsτ8 hl9 ⟨v10, rfl, rfl, hs11⟩
  refine Z 6 rfl ?_
  refine o_lenI rfl rfl rfl z_slT180 rfl hs11 ?_
  refine Z 2 rfl ?_
  refine st_cond rfl (fun hc => ?_) (fun hc => ?_)
  · replace h := (if_pos hc).mp h
    refine Z 4 rfl ?_
    refine st_ord [] [] rfl ?_
    obtain rfl := Eq.symm h
    exact st_ret (gs' := []) Tryd.func114 rfl (List.Sublist.refl _) hl9 ⟨rfl, rfl⟩
  · replace h := (if_neg (ne_t hc)).mp h
    refine Z 3 rfl ?_
    refine o_alloc rfl rfl rfl z_zero224 (fun b12 => ?_)
    refine Z 3 rfl ?_
    refine o_alloc rfl rfl rfl z_zero225 (fun b13 => ?_)
    refine Z 2 rfl ?_
    refine st_cut (fun ρ τ14 gs => ∃ (s14 : Bool × Bool × Bool × Bool × Bool × Bool × Bool × Bool × Bool × Bool × Bool × Bool × Bool), ref17_Check_j1 a0 s14 r ∧ τ8.Le τ14 ∧ ρ = [(1, .pointer (some ⟨b5, 0, none⟩)), (2, .int .i64 0), (4, .pointer (some ⟨b12, 0, none⟩)), (5, .pointer (some ⟨b13, 0, none⟩))] ∧ gs = [[(b5, .cells [.int .i64 a0.1, .int .i64 (a0.2.1.getD 0 0), .int .i64 (a0.2.1.getD 1 0), .int .i64 (a0.2.1.getD 2 0), .int .i64 (a0.2.1.getD 3 0), .int .i64 (a0.2.1.getD 4 0), .int .i64 (a0.2.1.getD 5 0), v1, v2, .string a0.2.2.2.2.1, .string a0.2.2.2.2.2].toArray 39 (0, 0))], [(b12, .cells [.bool s14.1, .bool s14.2.1, .bool s14.2.2.1, .bool s14.2.2.2.1, .bool s14.2.2.2.2.1, .bool s14.2.2.2.2.2.1, .bool s14.2.2.2.2.2.2.1].toArray 224 (0, 0))], [(b13, .cells [.bool s14.2.2.2.2.2.2.2.1, .bool s14.2.2.2.2.2.2.2.2.1, .bool s14.2.2.2.2.2.2.2.2.2.1, .bool s14.2.2.2.2.2.2.2.2.2.2.1, .bool s14.2.2.2.2.2.2.2.2.2.2.2.1, .bool s14.2.2.2.2.2.2.2.2.2.2.2.2].toArray 225 (0, 0))]]) ?_ (fun hk14 => ?_)
    · rintro ρ14 τ14 gs14 ⟨s14, h, hl14, rfl, rfl⟩
      refine st_seq ?_
      refine st_cut (fun ρ τ15 gs => ∃ (s15 : Unit), ref17_Check_j2 a0 s14 s15 r ∧ τ14.Le τ15 ∧ ρ = [(1, .pointer (some ⟨b5, 0, none⟩)), (2, .int .i64 0), (4, .pointer (some ⟨b12, 0, none⟩))] ∧ gs = [[(b5, .cells [.int .i64 a0.1, .int .i64 (a0.2.1.getD 0 0), .int .i64 (a0.2.1.getD 1 0), .int .i64 (a0.2.1.getD 2 0), .int .i64 (a0.2.1.getD 3 0), .int .i64 (a0.2.1.getD 4 0), .int .i64 (a0.2.1.getD 5 0), v1, v2, .string a0.2.2.2.2.1, .string a0.2.2.2.2.2].toArray 39 (0, 0))], [(b12, .cells [.bool s14.1, .bool s14.2.1, .bool s14.2.2.1, .bool s14.2.2.2.1, .bool s14.2.2.2.2.1, .bool s14.2.2.2.2.2.1, .bool s14.2.2.2.2.2.2.1].toArray 224 (0, 0))]]) ?_ (fun hk15 => ?_)
      · rintro ρ15 τ15 gs15 ⟨s15, h, hl15, rfl, rfl⟩
        refine Z 2 rfl ?_
        refine st_cut (fun ρ τ16 gs => ∃ (s16 : Bool), ref17_Check_j3 s16 r ∧ τ15.Le τ16 ∧ ρ = [(2, .int .i64 0), (145, .bool s16)] ∧ gs = []) ?_ (fun hk16 => ?_)
        · rintro ρ16 τ16 gs16 ⟨s16, h, hl16, rfl, rfl⟩
          refine st_cond rfl (fun hc => ?_) (fun hc => ?_)
          · replace h := (if_pos hc).mp h
            refine Z 4 rfl ?_
            obtain rfl := Eq.symm h
            exact st_ret (gs' := []) Tryd.func114 rfl (List.Sublist.refl _) (((hl9.trans hl14).trans hl15).trans hl16) ⟨rfl, rfl⟩
          · replace h := (if_neg (ne_t hc)).mp h
            refine Z 5 rfl ?_
            obtain rfl := Eq.symm h
            exact st_ret (gs' := []) Tryd.func114 rfl (List.Sublist.refl _) (((hl9.trans hl14).trans hl15).trans hl16) ⟨rfl, rfl⟩
        refine st_region ?_
        refine o_indexA rfl rfl rfl z_arr224 rfl rfl (by decide) (by decide) ?_
        refine o_load (j := 1) (v := .bool s14.2.2.2.1) rfl rfl rfl z_sc4 rfl rfl rfl ?_
        refine o_not rfl rfl rfl rfl ?_
        refine o_moveB rfl rfl rfl rfl (fun hc => ?_) (fun hc => ?_)
        · replace h := (if_pos hc).mp h
          refine o_fieldAddr rfl rfl rfl z_field39_2 rfl ?_
          refine o_load (j := 0) (v := v1) rfl rfl rfl z_sc37 rfl rfl rfl ?_
          refine o_lenI rfl rfl rfl z_slT37 rfl (hs3.up ((hl9.trans hl14).trans hl15)) ?_
          refine Z 2 rfl ?_
          refine o_moveB rfl rfl rfl rfl (fun hc => ?_) (fun hc => ?_)
          · replace h := (if_pos hc).mp h
            refine Z 31 rfl ?_
            refine st_env (ρ' := [(2, .int .i64 0), (145, .bool true)]) ⟨rfl, rfl, trivial⟩ ?_
            refine st_ord [] [] rfl ?_
            exact hk16 _ _ _ ⟨true, h, (Sto.Le.refl _), rfl, rfl⟩
          · replace h := (if_neg (ne_t hc)).mp h
            refine o_indexA rfl rfl rfl z_arr224 rfl rfl (by decide) (by decide) ?_
            refine o_load (j := 1) (v := .bool s14.2.2.2.2.1) rfl rfl rfl z_sc4 rfl rfl rfl ?_
            refine o_not rfl rfl rfl rfl ?_
            refine o_moveB rfl rfl rfl rfl (fun hc => ?_) (fun hc => ?_)
            · replace h := (if_pos hc).mp h
              refine o_fieldAddr rfl rfl rfl z_field39_3 rfl ?_
              refine o_load (j := 0) (v := v2) rfl rfl rfl z_sc24 rfl rfl rfl ?_
              refine o_lenI rfl rfl rfl z_slT24 rfl (hs4.up ((hl9.trans hl14).trans hl15)) ?_
              refine Z 3 rfl ?_
              refine o_moveB rfl rfl rfl rfl (fun hc => ?_) (fun hc => ?_)
              · replace h := (if_pos hc).mp h
                refine Z 20 rfl ?_
                refine st_env (ρ' := [(2, .int .i64 0), (145, .bool true)]) ⟨rfl, rfl, trivial⟩ ?_
                refine st_ord [] [] rfl ?_
                exact hk16 _ _ _ ⟨true, h, (Sto.Le.refl _), rfl, rfl⟩
              · replace h := (if_neg (ne_t hc)).mp h
                refine o_indexA rfl rfl rfl z_arr224 rfl rfl (by decide) (by decide) ?_
                refine o_load (j := 1) (v := .bool s14.2.2.2.2.2.1) rfl rfl rfl z_sc4 rfl rfl rfl ?_
                refine o_not rfl rfl rfl rfl ?_
                refine o_moveB rfl rfl rfl rfl (fun hc => ?_) (fun hc => ?_)
                · replace h := (if_pos hc).mp h
                  refine o_fieldAddr rfl rfl rfl z_field39_4 rfl ?_
                  refine o_load (j := 0) (v := .string a0.2.2.2.2.1) rfl rfl rfl z_sc9 rfl rfl rfl ?_
                  refine o_sbin (v := .bool (!(decide (a0.2.2.2.2.1 = (bstr []))))) rfl rfl rfl rfl (ev_str z_str19) rfl ?_
                  refine Z 2 rfl ?_
                  refine o_moveB rfl rfl rfl rfl (fun hc => ?_) (fun hc => ?_)
                  · replace h := (if_pos hc).mp h
                    refine Z 10 rfl ?_
                    refine st_env (ρ' := [(2, .int .i64 0), (145, .bool true)]) ⟨rfl, rfl, trivial⟩ ?_
                    refine st_ord [] [] rfl ?_
                    exact hk16 _ _ _ ⟨true, h, (Sto.Le.refl _), rfl, rfl⟩
                  · replace h := (if_neg (ne_t hc)).mp h
                    refine o_indexA rfl rfl rfl z_arr224 rfl rfl (by decide) (by decide) ?_
                    refine o_load (j := 1) (v := .bool s14.2.2.2.2.2.2.1) rfl rfl rfl z_sc4 rfl rfl rfl ?_
                    refine o_not rfl rfl rfl rfl ?_
                    refine o_moveB rfl rfl rfl rfl (fun hc => ?_) (fun hc => ?_)
                    · replace h := (if_pos hc).mp h
                      refine o_fieldAddr rfl rfl rfl z_field39_5 rfl ?_
                      refine o_load (j := 0) (v := .string a0.2.2.2.2.2) rfl rfl rfl z_sc9 rfl rfl rfl ?_
                      refine o_sbin (v := .bool (!(decide (a0.2.2.2.2.2 = (bstr []))))) rfl rfl rfl rfl (ev_str z_str19) rfl ?_
                      refine Z 3 rfl ?_
                      refine st_env (ρ' := [(2, .int .i64 0), (145, .bool (!(decide (a0.2.2.2.2.2 = (bstr [])))))]) ⟨rfl, rfl, trivial⟩ ?_
                      refine st_ord [] [] rfl ?_
                      exact hk16 _ _ _ ⟨(!(decide (a0.2.2.2.2.2 = (bstr [])))), h, (Sto.Le.refl _), rfl, rfl⟩
                    · replace h := (if_neg (ne_t hc)).mp h
                      refine Z 6 rfl ?_
                      refine st_env (ρ' := [(2, .int .i64 0), (145, .bool false)]) ⟨rfl, rfl, trivial⟩ ?_
                      refine st_ord [] [] rfl ?_
                      exact hk16 _ _ _ ⟨false, h, (Sto.Le.refl _), rfl, rfl⟩
                · replace h := (if_neg (ne_t hc)).mp h
                  refine Z 6 rfl ?_
                  refine o_indexA rfl rfl rfl z_arr224 rfl rfl (by decide) (by decide) ?_
                  refine o_load (j := 1) (v := .bool s14.2.2.2.2.2.2.1) rfl rfl rfl z_sc4 rfl rfl rfl ?_
                  refine o_not rfl rfl rfl rfl ?_
                  refine o_moveB rfl rfl rfl rfl (fun hc => ?_) (fun hc => ?_)
                  · replace h := (if_pos hc).mp h
                    refine o_fieldAddr rfl rfl rfl z_field39_5 rfl ?_
                    refine o_load (j := 0) (v := .string a0.2.2.2.2.2) rfl rfl rfl z_sc9 rfl rfl rfl ?_
                    refine o_sbin (v := .bool (!(decide (a0.2.2.2.2.2 = (bstr []))))) rfl rfl rfl rfl (ev_str z_str19) rfl ?_
                    refine Z 3 rfl ?_
                    refine st_env (ρ' := [(2, .int .i64 0), (145, .bool (!(decide (a0.2.2.2.2.2 = (bstr [])))))]) ⟨rfl, rfl, trivial⟩ ?_
                    refine st_ord [] [] rfl ?_
                    exact hk16 _ _ _ ⟨(!(decide (a0.2.2.2.2.2 = (bstr [])))), h, (Sto.Le.refl _), rfl, rfl⟩
                  · replace h := (if_neg (ne_t hc)).mp h
                    refine Z 6 rfl ?_
                    refine st_env (ρ' := [(2, .int .i64 0), (145, .bool false)]) ⟨rfl, rfl, trivial⟩ ?_
                    refine st_ord [] [] rfl ?_
                    exact hk16 _ _ _ ⟨false, h, (Sto.Le.refl _), rfl, rfl⟩
            · replace h := (if_neg (ne_t hc)).mp h
              refine Z 7 rfl ?_
              refine o_indexA rfl rfl rfl z_arr224 rfl rfl (by decide) (by decide) ?_
              refine o_load (j := 1) (v := .bool s14.2.2.2.2.2.1) rfl rfl rfl z_sc4 rfl rfl rfl ?_
              refine o_not rfl rfl rfl rfl ?_
              refine o_moveB rfl rfl rfl rfl (fun hc => ?_) (fun hc => ?_)
              · replace h := (if_pos hc).mp h
                refine o_fieldAddr rfl rfl rfl z_field39_4 rfl ?_
                refine o_load (j := 0) (v := .string a0.2.2.2.2.1) rfl rfl rfl z_sc9 rfl rfl rfl ?_
                refine o_sbin (v := .bool (!(decide (a0.2.2.2.2.1 = (bstr []))))) rfl rfl rfl rfl (ev_str z_str19) rfl ?_
                refine Z 2 rfl ?_
                refine o_moveB rfl rfl rfl rfl (fun hc => ?_) (fun hc => ?_)
                · replace h := (if_pos hc).mp h
                  refine Z 10 rfl ?_
                  refine st_env (ρ' := [(2, .int .i64 0), (145, .bool true)]) ⟨rfl, rfl, trivial⟩ ?_
                  refine st_ord [] [] rfl ?_
                  exact hk16 _ _ _ ⟨true, h, (Sto.Le.refl _), rfl, rfl⟩
                · replace h := (if_neg (ne_t hc)).mp h
                  refine o_indexA rfl rfl rfl z_arr224 rfl rfl (by decide) (by decide) ?_
                  refine o_load (j := 1) (v := .bool s14.2.2.2.2.2.2.1) rfl rfl rfl z_sc4 rfl rfl rfl ?_
                  refine o_not rfl rfl rfl rfl ?_
                  refine o_moveB rfl rfl rfl rfl (fun hc => ?_) (fun hc => ?_)
                  · replace h := (if_pos hc).mp h
                    refine o_fieldAddr rfl rfl rfl z_field39_5 rfl ?_
                    refine o_load (j := 0) (v := .string a0.2.2.2.2.2) rfl rfl rfl z_sc9 rfl rfl rfl ?_
                    refine o_sbin (v := .bool (!(decide (a0.2.2.2.2.2 = (bstr []))))) rfl rfl rfl rfl (ev_str z_str19) rfl ?_
                    refine Z 3 rfl ?_
                    refine st_env (ρ' := [(2, .int .i64 0), (145, .bool (!(decide (a0.2.2.2.2.2 = (bstr [])))))]) ⟨rfl, rfl, trivial⟩ ?_
                    refine st_ord [] [] rfl ?_
                    exact hk16 _ _ _ ⟨(!(decide (a0.2.2.2.2.2 = (bstr [])))), h, (Sto.Le.refl _), rfl, rfl⟩
                  · replace h := (if_neg (ne_t hc)).mp h
                    refine Z 6 rfl ?_
                    refine st_env (ρ' := [(2, .int .i64 0), (145, .bool false)]) ⟨rfl, rfl, trivial⟩ ?_
                    refine st_ord [] [] rfl ?_
                    exact hk16 _ _ _ ⟨false, h, (Sto.Le.refl _), rfl, rfl⟩
              · replace h := (if_neg (ne_t hc)).mp h
                refine Z 6 rfl ?_
                refine o_indexA rfl rfl rfl z_arr224 rfl rfl (by decide) (by decide) ?_
                refine o_load (j := 1) (v := .bool s14.2.2.2.2.2.2.1) rfl rfl rfl z_sc4 rfl rfl rfl ?_
                refine o_not rfl rfl rfl rfl ?_
                refine o_moveB rfl rfl rfl rfl (fun hc => ?_) (fun hc => ?_)
                · replace h := (if_pos hc).mp h
                  refine o_fieldAddr rfl rfl rfl z_field39_5 rfl ?_
                  refine o_load (j := 0) (v := .string a0.2.2.2.2.2) rfl rfl rfl z_sc9 rfl rfl rfl ?_
                  refine o_sbin (v := .bool (!(decide (a0.2.2.2.2.2 = (bstr []))))) rfl rfl rfl rfl (ev_str z_str19) rfl ?_
                  refine Z 3 rfl ?_
                  refine st_env (ρ' := [(2, .int .i64 0), (145, .bool (!(decide (a0.2.2.2.2.2 = (bstr [])))))]) ⟨rfl, rfl, trivial⟩ ?_
                  refine st_ord [] [] rfl ?_
                  exact hk16 _ _ _ ⟨(!(decide (a0.2.2.2.2.2 = (bstr [])))), h, (Sto.Le.refl _), rfl, rfl⟩
                · replace h := (if_neg (ne_t hc)).mp h
                  refine Z 6 rfl ?_
                  refine st_env (ρ' := [(2, .int .i64 0), (145, .bool false)]) ⟨rfl, rfl, trivial⟩ ?_
                  refine st_ord [] [] rfl ?_
                  exact hk16 _ _ _ ⟨false, h, (Sto.Le.refl _), rfl, rfl⟩
        · replace h := (if_neg (ne_t hc)).mp h
          refine Z 6 rfl ?_
          refine o_indexA rfl rfl rfl z_arr224 rfl rfl (by decide) (by decide) ?_
          refine o_load (j := 1) (v := .bool s14.2.2.2.2.1) rfl rfl rfl z_sc4 rfl rfl rfl ?_
          refine o_not rfl rfl rfl rfl ?_
          refine o_moveB rfl rfl rfl rfl (fun hc => ?_) (fun hc => ?_)
          · replace h := (if_pos hc).mp h
            refine o_fieldAddr rfl rfl rfl z_field39_3 rfl ?_
            refine o_load (j := 0) (v := v2) rfl rfl rfl z_sc24 rfl rfl rfl ?_
            refine o_lenI rfl rfl rfl z_slT24 rfl (hs4.up ((hl9.trans hl14).trans hl15)) ?_
            refine Z 3 rfl ?_
            refine o_moveB rfl rfl rfl rfl (fun hc => ?_) (fun hc => ?_)
            · replace h := (if_pos hc).mp h
              refine Z 20 rfl ?_
              refine st_env (ρ' := [(2, .int .i64 0), (145, .bool true)]) ⟨rfl, rfl, trivial⟩ ?_
              refine st_ord [] [] rfl ?_
              exact hk16 _ _ _ ⟨true, h, (Sto.Le.refl _), rfl, rfl⟩
            · replace h := (if_neg (ne_t hc)).mp h
              refine o_indexA rfl rfl rfl z_arr224 rfl rfl (by decide) (by decide) ?_
              refine o_load (j := 1) (v := .bool s14.2.2.2.2.2.1) rfl rfl rfl z_sc4 rfl rfl rfl ?_
              refine o_not rfl rfl rfl rfl ?_
              refine o_moveB rfl rfl rfl rfl (fun hc => ?_) (fun hc => ?_)
              · replace h := (if_pos hc).mp h
                refine o_fieldAddr rfl rfl rfl z_field39_4 rfl ?_
                refine o_load (j := 0) (v := .string a0.2.2.2.2.1) rfl rfl rfl z_sc9 rfl rfl rfl ?_
                refine o_sbin (v := .bool (!(decide (a0.2.2.2.2.1 = (bstr []))))) rfl rfl rfl rfl (ev_str z_str19) rfl ?_
                refine Z 2 rfl ?_
                refine o_moveB rfl rfl rfl rfl (fun hc => ?_) (fun hc => ?_)
                · replace h := (if_pos hc).mp h
                  refine Z 10 rfl ?_
                  refine st_env (ρ' := [(2, .int .i64 0), (145, .bool true)]) ⟨rfl, rfl, trivial⟩ ?_
                  refine st_ord [] [] rfl ?_
                  exact hk16 _ _ _ ⟨true, h, (Sto.Le.refl _), rfl, rfl⟩
                · replace h := (if_neg (ne_t hc)).mp h
                  refine o_indexA rfl rfl rfl z_arr224 rfl rfl (by decide) (by decide) ?_
                  refine o_load (j := 1) (v := .bool s14.2.2.2.2.2.2.1) rfl rfl rfl z_sc4 rfl rfl rfl ?_
                  refine o_not rfl rfl rfl rfl ?_
                  refine o_moveB rfl rfl rfl rfl (fun hc => ?_) (fun hc => ?_)
                  · replace h := (if_pos hc).mp h
                    refine o_fieldAddr rfl rfl rfl z_field39_5 rfl ?_
                    refine o_load (j := 0) (v := .string a0.2.2.2.2.2) rfl rfl rfl z_sc9 rfl rfl rfl ?_
                    refine o_sbin (v := .bool (!(decide (a0.2.2.2.2.2 = (bstr []))))) rfl rfl rfl rfl (ev_str z_str19) rfl ?_
                    refine Z 3 rfl ?_
                    refine st_env (ρ' := [(2, .int .i64 0), (145, .bool (!(decide (a0.2.2.2.2.2 = (bstr [])))))]) ⟨rfl, rfl, trivial⟩ ?_
                    refine st_ord [] [] rfl ?_
                    exact hk16 _ _ _ ⟨(!(decide (a0.2.2.2.2.2 = (bstr [])))), h, (Sto.Le.refl _), rfl, rfl⟩
                  · replace h := (if_neg (ne_t hc)).mp h
                    refine Z 6 rfl ?_
                    refine st_env (ρ' := [(2, .int .i64 0), (145, .bool false)]) ⟨rfl, rfl, trivial⟩ ?_
                    refine st_ord [] [] rfl ?_
                    exact hk16 _ _ _ ⟨false, h, (Sto.Le.refl _), rfl, rfl⟩
              · replace h := (if_neg (ne_t hc)).mp h
                refine Z 6 rfl ?_
                refine o_indexA rfl rfl rfl z_arr224 rfl rfl (by decide) (by decide) ?_
                refine o_load (j := 1) (v := .bool s14.2.2.2.2.2.2.1) rfl rfl rfl z_sc4 rfl rfl rfl ?_
                refine o_not rfl rfl rfl rfl ?_
                refine o_moveB rfl rfl rfl rfl (fun hc => ?_) (fun hc => ?_)
                · replace h := (if_pos hc).mp h
                  refine o_fieldAddr rfl rfl rfl z_field39_5 rfl ?_
                  refine o_load (j := 0) (v := .string a0.2.2.2.2.2) rfl rfl rfl z_sc9 rfl rfl rfl ?_
                  refine o_sbin (v := .bool (!(decide (a0.2.2.2.2.2 = (bstr []))))) rfl rfl rfl rfl (ev_str z_str19) rfl ?_
                  refine Z 3 rfl ?_
                  refine st_env (ρ' := [(2, .int .i64 0), (145, .bool (!(decide (a0.2.2.2.2.2 = (bstr [])))))]) ⟨rfl, rfl, trivial⟩ ?_
                  refine st_ord [] [] rfl ?_
                  exact hk16 _ _ _ ⟨(!(decide (a0.2.2.2.2.2 = (bstr [])))), h, (Sto.Le.refl _), rfl, rfl⟩
                · replace h := (if_neg (ne_t hc)).mp h
                  refine Z 6 rfl ?_
                  refine st_env (ρ' := [(2, .int .i64 0), (145, .bool false)]) ⟨rfl, rfl, trivial⟩ ?_
                  refine st_ord [] [] rfl ?_
                  exact hk16 _ _ _ ⟨false, h, (Sto.Le.refl _), rfl, rfl⟩
          · replace h := (if_neg (ne_t hc)).mp h
            refine Z 7 rfl ?_
            refine o_indexA rfl rfl rfl z_arr224 rfl rfl (by decide) (by decide) ?_
            refine o_load (j := 1) (v := .bool s14.2.2.2.2.2.1) rfl rfl rfl z_sc4 rfl rfl rfl ?_
            refine o_not rfl rfl rfl rfl ?_
            refine o_moveB rfl rfl rfl rfl (fun hc => ?_) (fun hc => ?_)
            · replace h := (if_pos hc).mp h
              refine o_fieldAddr rfl rfl rfl z_field39_4 rfl ?_
              refine o_load (j := 0) (v := .string a0.2.2.2.2.1) rfl rfl rfl z_sc9 rfl rfl rfl ?_
              refine o_sbin (v := .bool (!(decide (a0.2.2.2.2.1 = (bstr []))))) rfl rfl rfl rfl (ev_str z_str19) rfl ?_
              refine Z 2 rfl ?_
              refine o_moveB rfl rfl rfl rfl (fun hc => ?_) (fun hc => ?_)
              · replace h := (if_pos hc).mp h
                refine Z 10 rfl ?_
                refine st_env (ρ' := [(2, .int .i64 0), (145, .bool true)]) ⟨rfl, rfl, trivial⟩ ?_
                refine st_ord [] [] rfl ?_
                exact hk16 _ _ _ ⟨true, h, (Sto.Le.refl _), rfl, rfl⟩
              · replace h := (if_neg (ne_t hc)).mp h
                refine o_indexA rfl rfl rfl z_arr224 rfl rfl (by decide) (by decide) ?_
                refine o_load (j := 1) (v := .bool s14.2.2.2.2.2.2.1) rfl rfl rfl z_sc4 rfl rfl rfl ?_
                refine o_not rfl rfl rfl rfl ?_
                refine o_moveB rfl rfl rfl rfl (fun hc => ?_) (fun hc => ?_)
                · replace h := (if_pos hc).mp h
                  refine o_fieldAddr rfl rfl rfl z_field39_5 rfl ?_
                  refine o_load (j := 0) (v := .string a0.2.2.2.2.2) rfl rfl rfl z_sc9 rfl rfl rfl ?_
                  refine o_sbin (v := .bool (!(decide (a0.2.2.2.2.2 = (bstr []))))) rfl rfl rfl rfl (ev_str z_str19) rfl ?_
                  refine Z 3 rfl ?_
                  refine st_env (ρ' := [(2, .int .i64 0), (145, .bool (!(decide (a0.2.2.2.2.2 = (bstr [])))))]) ⟨rfl, rfl, trivial⟩ ?_
                  refine st_ord [] [] rfl ?_
                  exact hk16 _ _ _ ⟨(!(decide (a0.2.2.2.2.2 = (bstr [])))), h, (Sto.Le.refl _), rfl, rfl⟩
                · replace h := (if_neg (ne_t hc)).mp h
                  refine Z 6 rfl ?_
                  refine st_env (ρ' := [(2, .int .i64 0), (145, .bool false)]) ⟨rfl, rfl, trivial⟩ ?_
                  refine st_ord [] [] rfl ?_
                  exact hk16 _ _ _ ⟨false, h, (Sto.Le.refl _), rfl, rfl⟩
            · replace h := (if_neg (ne_t hc)).mp h
              refine Z 6 rfl ?_
              refine o_indexA rfl rfl rfl z_arr224 rfl rfl (by decide) (by decide) ?_
              refine o_load (j := 1) (v := .bool s14.2.2.2.2.2.2.1) rfl rfl rfl z_sc4 rfl rfl rfl ?_
              refine o_not rfl rfl rfl rfl ?_
              refine o_moveB rfl rfl rfl rfl (fun hc => ?_) (fun hc => ?_)
              · replace h := (if_pos hc).mp h
                refine o_fieldAddr rfl rfl rfl z_field39_5 rfl ?_
                refine o_load (j := 0) (v := .string a0.2.2.2.2.2) rfl rfl rfl z_sc9 rfl rfl rfl ?_
                refine o_sbin (v := .bool (!(decide (a0.2.2.2.2.2 = (bstr []))))) rfl rfl rfl rfl (ev_str z_str19) rfl ?_
                refine Z 3 rfl ?_
                refine st_env (ρ' := [(2, .int .i64 0), (145, .bool (!(decide (a0.2.2.2.2.2 = (bstr [])))))]) ⟨rfl, rfl, trivial⟩ ?_
                refine st_ord [] [] rfl ?_
                exact hk16 _ _ _ ⟨(!(decide (a0.2.2.2.2.2 = (bstr [])))), h, (Sto.Le.refl _), rfl, rfl⟩
              · replace h := (if_neg (ne_t hc)).mp h
                refine Z 6 rfl ?_
                refine st_env (ρ' := [(2, .int .i64 0), (145, .bool false)]) ⟨rfl, rfl, trivial⟩ ?_
                refine st_ord [] [] rfl ?_
                exact hk16 _ _ _ ⟨false, h, (Sto.Le.refl _), rfl, rfl⟩
      refine Z 4 rfl ?_
      obtain ⟨e17, hL17, hA17⟩ := h
      refine st_env (ρ' := [(1, .pointer (some ⟨b5, 0, none⟩)), (2, .int .i64 0), (4, .pointer (some ⟨b12, 0, none⟩)), (5, .pointer (some ⟨b13, 0, none⟩)), (8, .int .i64 0)]) ⟨rfl, rfl, rfl, rfl, rfl, trivial⟩ ?_
      refine st_loop hL17 (fun (s17 : Int) ρ τ17 gs => τ14.Le τ17 ∧ ρ = [(1, .pointer (some ⟨b5, 0, none⟩)), (2, .int .i64 0), (4, .pointer (some ⟨b12, 0, none⟩)), (5, .pointer (some ⟨b13, 0, none⟩)), (8, .int .i64 s17)] ∧ gs = [[(b5, .cells [.int .i64 a0.1, .int .i64 (a0.2.1.getD 0 0), .int .i64 (a0.2.1.getD 1 0), .int .i64 (a0.2.1.getD 2 0), .int .i64 (a0.2.1.getD 3 0), .int .i64 (a0.2.1.getD 4 0), .int .i64 (a0.2.1.getD 5 0), v1, v2, .string a0.2.2.2.2.1, .string a0.2.2.2.2.2].toArray 39 (0, 0))], [(b12, .cells [.bool s14.1, .bool s14.2.1, .bool s14.2.2.1, .bool s14.2.2.2.1, .bool s14.2.2.2.2.1, .bool s14.2.2.2.2.2.1, .bool s14.2.2.2.2.2.2.1].toArray 224 (0, 0))], [(b13, .cells [.bool s14.2.2.2.2.2.2.2.1, .bool s14.2.2.2.2.2.2.2.2.1, .bool s14.2.2.2.2.2.2.2.2.2.1, .bool s14.2.2.2.2.2.2.2.2.2.2.1, .bool s14.2.2.2.2.2.2.2.2.2.2.2.1, .bool s14.2.2.2.2.2.2.2.2.2.2.2.2].toArray 225 (0, 0))]]) ⟨Sto.Le.refl _, rfl, rfl⟩ ?_
      rintro s17 o17 h he17 ρ17 τ17 gs17 ⟨hl17, rfl, rfl⟩ hn17
      refine Z 6 rfl ?_
      refine st_cond rfl (fun hc => ?_) (fun hc => ?_)
      · replace h := (if_pos hc).mp h
        refine Z 4 rfl ?_
        refine st_cut (fun ρ τ18 gs => ∃ (s18 : Bool), ref17_Check_j5 s17 s18 o17 ∧ τ17.Le τ18 ∧ ρ = [(1, .pointer (some ⟨b5, 0, none⟩)), (2, .int .i64 0), (4, .pointer (some ⟨b12, 0, none⟩)), (5, .pointer (some ⟨b13, 0, none⟩)), (8, .int .i64 s17), (105, .bool s18)] ∧ gs = [[(b5, .cells [.int .i64 a0.1, .int .i64 (a0.2.1.getD 0 0), .int .i64 (a0.2.1.getD 1 0), .int .i64 (a0.2.1.getD 2 0), .int .i64 (a0.2.1.getD 3 0), .int .i64 (a0.2.1.getD 4 0), .int .i64 (a0.2.1.getD 5 0), v1, v2, .string a0.2.2.2.2.1, .string a0.2.2.2.2.2].toArray 39 (0, 0))], [(b12, .cells [.bool s14.1, .bool s14.2.1, .bool s14.2.2.1, .bool s14.2.2.2.1, .bool s14.2.2.2.2.1, .bool s14.2.2.2.2.2.1, .bool s14.2.2.2.2.2.2.1].toArray 224 (0, 0))], [(b13, .cells [.bool s14.2.2.2.2.2.2.2.1, .bool s14.2.2.2.2.2.2.2.2.1, .bool s14.2.2.2.2.2.2.2.2.2.1, .bool s14.2.2.2.2.2.2.2.2.2.2.1, .bool s14.2.2.2.2.2.2.2.2.2.2.2.1, .bool s14.2.2.2.2.2.2.2.2.2.2.2.2].toArray 225 (0, 0))]]) ?_ (fun hk18 => ?_)
        · rintro ρ18 τ18 gs18 ⟨s18, h, hl18, rfl, rfl⟩
          refine st_cond rfl (fun hc => ?_) (fun hc => ?_)
          · replace h := (if_pos hc).mp h
            refine Z 4 rfl ?_
            refine st_ord [] [] rfl ?_
            obtain rfl := he17 _ h
            replace h := hA17
            obtain rfl := Eq.symm h
            exact st_ret (gs' := []) Tryd.func114 rfl (List.Sublist.refl _) (((hl9.trans hl14).trans hl17).trans hl18) ⟨rfl, rfl⟩
          · replace h := (if_neg (ne_t hc)).mp h
            refine Z 7 rfl ?_
            refine st_env (ρ' := [(1, .pointer (some ⟨b5, 0, none⟩)), (2, .int .i64 0), (4, .pointer (some ⟨b12, 0, none⟩)), (5, .pointer (some ⟨b13, 0, none⟩)), (8, .int .i64 (IntKind.i64.wrap (s17 + 1)))]) ⟨rfl, rfl, rfl, rfl, rfl, trivial⟩ ?_
            exact hn17 _ _ _ _ h ⟨(hl17.trans hl18), rfl, rfl⟩
        refine Z 2 rfl ?_
        obtain ⟨hf19, hf20, h⟩ := h
        refine o_indexA rfl rfl rfl z_arr225 rfl rfl hf19 hf20 ?_
        refine o_loadV (j := 2) (s17.toNat) (f := Value.bool) (zz := false) (l := 6) (xs := [s14.2.2.2.2.2.2.2.1, s14.2.2.2.2.2.2.2.2.1, s14.2.2.2.2.2.2.2.2.2.1, s14.2.2.2.2.2.2.2.2.2.2.1, s14.2.2.2.2.2.2.2.2.2.2.2.1, s14.2.2.2.2.2.2.2.2.2.2.2.2]) [] [] rfl rfl rfl z_sc4 rfl rfl (by simp only [List.length_cons, List.length_nil]; omega) (by omega) ?_
        refine o_not rfl rfl rfl rfl ?_
        refine o_moveB rfl rfl rfl rfl (fun hc => ?_) (fun hc => ?_)
        · replace h := (if_pos hc).mp h
          refine Z 2 rfl ?_
          obtain ⟨hf21, hf22, h⟩ := h
          refine o_indexA rfl rfl rfl z_arr22 rfl rfl hf21 hf22 ?_
          refine o_loadV (j := 0) (s17.toNat) (f := (Value.int .i64)) (zz := 0) (l := 6) (xs := a0.2.1) [.int .i64 a0.1] [v1, v2, .string a0.2.2.2.2.1, .string a0.2.2.2.2.2] rfl rfl rfl z_sc3 rfl rfl (by simp only [List.length_cons, List.length_nil]; omega) (by omega) ?_
          refine Z 3 rfl ?_
          refine st_env (ρ' := [(1, .pointer (some ⟨b5, 0, none⟩)), (2, .int .i64 0), (4, .pointer (some ⟨b12, 0, none⟩)), (5, .pointer (some ⟨b13, 0, none⟩)), (8, .int .i64 s17), (105, .bool (!(decide ((a0.2.1.getD s17.toNat 0) = 0))))]) ⟨rfl, rfl, rfl, rfl, rfl, rfl, trivial⟩ ?_
          exact hk18 _ _ _ ⟨(!(decide ((a0.2.1.getD s17.toNat 0) = 0))), h, (Sto.Le.refl _), rfl, rfl⟩
        · replace h := (if_neg (ne_t hc)).mp h
          refine Z 7 rfl ?_
          refine st_env (ρ' := [(1, .pointer (some ⟨b5, 0, none⟩)), (2, .int .i64 0), (4, .pointer (some ⟨b12, 0, none⟩)), (5, .pointer (some ⟨b13, 0, none⟩)), (8, .int .i64 s17), (105, .bool false)]) ⟨rfl, rfl, rfl, rfl, rfl, rfl, trivial⟩ ?_
          exact hk18 _ _ _ ⟨false, h, (Sto.Le.refl _), rfl, rfl⟩
      · replace h := (if_neg (ne_t hc)).mp h
        refine st_exit rfl ?_
        obtain rfl := he17 _ h
        replace h := hA17
        refine st_env (ρ' := [(1, .pointer (some ⟨b5, 0, none⟩)), (2, .int .i64 0), (4, .pointer (some ⟨b12, 0, none⟩))]) ⟨rfl, rfl, rfl, trivial⟩ ?_
        refine st_ord [0, 0] [[(b5, .cells [.int .i64 a0.1, .int .i64 (a0.2.1.getD 0 0), .int .i64 (a0.2.1.getD 1 0), .int .i64 (a0.2.1.getD 2 0), .int .i64 (a0.2.1.getD 3 0), .int .i64 (a0.2.1.getD 4 0), .int .i64 (a0.2.1.getD 5 0), v1, v2, .string a0.2.2.2.2.1, .string a0.2.2.2.2.2].toArray 39 (0, 0))], [(b12, .cells [.bool s14.1, .bool s14.2.1, .bool s14.2.2.1, .bool s14.2.2.2.1, .bool s14.2.2.2.2.1, .bool s14.2.2.2.2.2.1, .bool s14.2.2.2.2.2.2.1].toArray 224 (0, 0))]] rfl ?_
        exact hk15 _ _ _ ⟨(), h, hl17, rfl, rfl⟩
    refine Z 4 rfl ?_
    obtain ⟨e25, hL25, hA25⟩ := h
    refine st_env (ρ' := [(1, .pointer (some ⟨b5, 0, none⟩)), (2, .int .i64 0), (3, v10), (4, .pointer (some ⟨b12, 0, none⟩)), (5, .pointer (some ⟨b13, 0, none⟩)), (6, .int .i64 0)]) ⟨rfl, rfl, rfl, rfl, rfl, rfl, trivial⟩ ?_
    refine st_ord [2, 1, 0] [[(b5, .cells [.int .i64 a0.1, .int .i64 (a0.2.1.getD 0 0), .int .i64 (a0.2.1.getD 1 0), .int .i64 (a0.2.1.getD 2 0), .int .i64 (a0.2.1.getD 3 0), .int .i64 (a0.2.1.getD 4 0), .int .i64 (a0.2.1.getD 5 0), v1, v2, .string a0.2.2.2.2.1, .string a0.2.2.2.2.2].toArray 39 (0, 0))], [(b12, .cells [.bool false, .bool false, .bool false, .bool false, .bool false, .bool false, .bool false].toArray 224 (0, 0))], [(b13, .cells [.bool false, .bool false, .bool false, .bool false, .bool false, .bool false].toArray 225 (0, 0))]] rfl ?_
    refine st_loop hL25 (fun (s25 : Int × Bool × Bool × Bool × Bool × Bool × Bool × Bool × Bool × Bool × Bool × Bool × Bool × Bool) ρ τ25 gs => τ8.Le τ25 ∧ ρ = [(1, .pointer (some ⟨b5, 0, none⟩)), (2, .int .i64 0), (3, v10), (4, .pointer (some ⟨b12, 0, none⟩)), (5, .pointer (some ⟨b13, 0, none⟩)), (6, .int .i64 s25.1)] ∧ gs = [[(b5, .cells [.int .i64 a0.1, .int .i64 (a0.2.1.getD 0 0), .int .i64 (a0.2.1.getD 1 0), .int .i64 (a0.2.1.getD 2 0), .int .i64 (a0.2.1.getD 3 0), .int .i64 (a0.2.1.getD 4 0), .int .i64 (a0.2.1.getD 5 0), v1, v2, .string a0.2.2.2.2.1, .string a0.2.2.2.2.2].toArray 39 (0, 0))], [(b12, .cells [.bool s25.2.1, .bool s25.2.2.1, .bool s25.2.2.2.1, .bool s25.2.2.2.2.1, .bool s25.2.2.2.2.2.1, .bool s25.2.2.2.2.2.2.1, .bool s25.2.2.2.2.2.2.2.1].toArray 224 (0, 0))], [(b13, .cells [.bool s25.2.2.2.2.2.2.2.2.1, .bool s25.2.2.2.2.2.2.2.2.2.1, .bool s25.2.2.2.2.2.2.2.2.2.2.1, .bool s25.2.2.2.2.2.2.2.2.2.2.2.1, .bool s25.2.2.2.2.2.2.2.2.2.2.2.2.1, .bool s25.2.2.2.2.2.2.2.2.2.2.2.2.2].toArray 225 (0, 0))]]) ⟨Sto.Le.refl _, rfl, rfl⟩ ?_
    rintro s25 o25 h he25 ρ25 τ25 gs25 ⟨hl25, rfl, rfl⟩ hn25
    refine Z 5 rfl ?_
    refine o_lenI rfl rfl rfl z_slT180 rfl (hs11.up hl25) ?_
    refine Z 2 rfl ?_
    refine st_cond rfl (fun hc => ?_) (fun hc => ?_)
    · replace h := (if_pos hc).mp h
      refine Z 11 rfl ?_
      obtain ⟨q26, hf27, h⟩ := h
      refine o_index rfl rfl rfl z_slT180 rfl rfl (hs11.up hl25) rfl hf27 (fun b28 of29 vs hc30 hrep => ?_)
      obtain ⟨_, _, rfl, rfl, ⟨_, _, rfl, rfl, ⟨_, _, rfl, rfl, ⟨_, _, rfl, rfl, ⟨_, _, rfl, rfl, ⟨_, _, rfl, rfl, rfl⟩⟩⟩⟩⟩⟩ := hrep
      refine o_fieldAddr rfl rfl rfl z_field182_1 rfl ?_
      refine o_loadI (v := .int .i64 q26.2.1) rfl rfl rfl z_sc3 rfl (hc30 1 _ rfl) ?_
      obtain ⟨hf31, hf32, h⟩ := h
      refine o_indexA rfl rfl rfl z_arr224 rfl rfl hf31 hf32 ?_
      refine o_storeV (j := 1) (q26.2.1.toNat) (f := Value.bool) (zz := false) (a := true) (l := 7) (xs := [s25.2.1, s25.2.2.1, s25.2.2.2.1, s25.2.2.2.2.1, s25.2.2.2.2.2.1, s25.2.2.2.2.2.2.1, s25.2.2.2.2.2.2.2.1]) [] [] rfl rfl rfl z_size4 rfl rfl rfl rfl rfl (by simp only [List.length_cons, List.length_nil]; omega) (by omega) ?_
      refine st_gs [[(b5, .cells [.int .i64 a0.1, .int .i64 (a0.2.1.getD 0 0), .int .i64 (a0.2.1.getD 1 0), .int .i64 (a0.2.1.getD 2 0), .int .i64 (a0.2.1.getD 3 0), .int .i64 (a0.2.1.getD 4 0), .int .i64 (a0.2.1.getD 5 0), v1, v2, .string a0.2.2.2.2.1, .string a0.2.2.2.2.2].toArray 39 (0, 0))], [(b12, .cells [.bool ((putN 7 false [s25.2.1, s25.2.2.1, s25.2.2.2.1, s25.2.2.2.2.1, s25.2.2.2.2.2.1, s25.2.2.2.2.2.2.1, s25.2.2.2.2.2.2.2.1] q26.2.1.toNat true).getD 0 false), .bool ((putN 7 false [s25.2.1, s25.2.2.1, s25.2.2.2.1, s25.2.2.2.2.1, s25.2.2.2.2.2.1, s25.2.2.2.2.2.2.1, s25.2.2.2.2.2.2.2.1] q26.2.1.toNat true).getD 1 false), .bool ((putN 7 false [s25.2.1, s25.2.2.1, s25.2.2.2.1, s25.2.2.2.2.1, s25.2.2.2.2.2.1, s25.2.2.2.2.2.2.1, s25.2.2.2.2.2.2.2.1] q26.2.1.toNat true).getD 2 false), .bool ((putN 7 false [s25.2.1, s25.2.2.1, s25.2.2.2.1, s25.2.2.2.2.1, s25.2.2.2.2.2.1, s25.2.2.2.2.2.2.1, s25.2.2.2.2.2.2.2.1] q26.2.1.toNat true).getD 3 false), .bool ((putN 7 false [s25.2.1, s25.2.2.1, s25.2.2.2.1, s25.2.2.2.2.1, s25.2.2.2.2.2.1, s25.2.2.2.2.2.2.1, s25.2.2.2.2.2.2.2.1] q26.2.1.toNat true).getD 4 false), .bool ((putN 7 false [s25.2.1, s25.2.2.1, s25.2.2.2.1, s25.2.2.2.2.1, s25.2.2.2.2.2.1, s25.2.2.2.2.2.2.1, s25.2.2.2.2.2.2.2.1] q26.2.1.toNat true).getD 5 false), .bool ((putN 7 false [s25.2.1, s25.2.2.1, s25.2.2.2.1, s25.2.2.2.2.1, s25.2.2.2.2.2.1, s25.2.2.2.2.2.2.1, s25.2.2.2.2.2.2.2.1] q26.2.1.toNat true).getD 6 false)].toArray 224 (0, 0))], [(b13, .cells [.bool s25.2.2.2.2.2.2.2.2.1, .bool s25.2.2.2.2.2.2.2.2.2.1, .bool s25.2.2.2.2.2.2.2.2.2.2.1, .bool s25.2.2.2.2.2.2.2.2.2.2.2.1, .bool s25.2.2.2.2.2.2.2.2.2.2.2.2.1, .bool s25.2.2.2.2.2.2.2.2.2.2.2.2.2].toArray 225 (0, 0))]] rfl ?_
      refine Z 2 rfl ?_
      refine st_cut (fun ρ τ33 gs => ∃ (s33 : Int × Bool × Bool × Bool × Bool × Bool × Bool), ref17_Check_j7 s25 q26 s33 o25 ∧ τ25.Le τ33 ∧ ρ = [(1, .pointer (some ⟨b5, 0, none⟩)), (2, .int .i64 0), (3, v10), (4, .pointer (some ⟨b12, 0, none⟩)), (5, .pointer (some ⟨b13, 0, none⟩)), (6, .int .i64 s25.1), (7, .int .i64 s33.1)] ∧ gs = [[(b5, .cells [.int .i64 a0.1, .int .i64 (a0.2.1.getD 0 0), .int .i64 (a0.2.1.getD 1 0), .int .i64 (a0.2.1.getD 2 0), .int .i64 (a0.2.1.getD 3 0), .int .i64 (a0.2.1.getD 4 0), .int .i64 (a0.2.1.getD 5 0), v1, v2, .string a0.2.2.2.2.1, .string a0.2.2.2.2.2].toArray 39 (0, 0))], [(b12, .cells [.bool ((putN 7 false [s25.2.1, s25.2.2.1, s25.2.2.2.1, s25.2.2.2.2.1, s25.2.2.2.2.2.1, s25.2.2.2.2.2.2.1, s25.2.2.2.2.2.2.2.1] q26.2.1.toNat true).getD 0 false), .bool ((putN 7 false [s25.2.1, s25.2.2.1, s25.2.2.2.1, s25.2.2.2.2.1, s25.2.2.2.2.2.1, s25.2.2.2.2.2.2.1, s25.2.2.2.2.2.2.2.1] q26.2.1.toNat true).getD 1 false), .bool ((putN 7 false [s25.2.1, s25.2.2.1, s25.2.2.2.1, s25.2.2.2.2.1, s25.2.2.2.2.2.1, s25.2.2.2.2.2.2.1, s25.2.2.2.2.2.2.2.1] q26.2.1.toNat true).getD 2 false), .bool ((putN 7 false [s25.2.1, s25.2.2.1, s25.2.2.2.1, s25.2.2.2.2.1, s25.2.2.2.2.2.1, s25.2.2.2.2.2.2.1, s25.2.2.2.2.2.2.2.1] q26.2.1.toNat true).getD 3 false), .bool ((putN 7 false [s25.2.1, s25.2.2.1, s25.2.2.2.1, s25.2.2.2.2.1, s25.2.2.2.2.2.1, s25.2.2.2.2.2.2.1, s25.2.2.2.2.2.2.2.1] q26.2.1.toNat true).getD 4 false), .bool ((putN 7 false [s25.2.1, s25.2.2.1, s25.2.2.2.1, s25.2.2.2.2.1, s25.2.2.2.2.2.1, s25.2.2.2.2.2.2.1, s25.2.2.2.2.2.2.2.1] q26.2.1.toNat true).getD 5 false), .bool ((putN 7 false [s25.2.1, s25.2.2.1, s25.2.2.2.1, s25.2.2.2.2.1, s25.2.2.2.2.2.1, s25.2.2.2.2.2.2.1, s25.2.2.2.2.2.2.2.1] q26.2.1.toNat true).getD 6 false)].toArray 224 (0, 0))], [(b13, .cells [.bool s33.2.1, .bool s33.2.2.1, .bool s33.2.2.2.1, .bool s33.2.2.2.2.1, .bool s33.2.2.2.2.2.1, .bool s33.2.2.2.2.2.2].toArray 225 (0, 0))]]) ?_ (fun hk33 => ?_)
      · rintro ρ33 τ33 gs33 ⟨s33, h, hl33, rfl, rfl⟩
        refine Z 5 rfl ?_
        refine st_cond rfl (fun hc => ?_) (fun hc => ?_)
        · replace h := (if_pos hc).mp h
          refine Z 5 rfl ?_
          refine st_ord [] [] rfl ?_
          obtain rfl := he25 _ h
          replace h := hA25
          obtain rfl := Eq.symm h
          exact st_ret (gs' := []) Tryd.func114 rfl (List.Sublist.refl _) ((hl9.trans hl25).trans hl33) ⟨rfl, rfl⟩
        · replace h := (if_neg (ne_t hc)).mp h
          refine Z 7 rfl ?_
          refine st_env (ρ' := [(1, .pointer (some ⟨b5, 0, none⟩)), (2, .int .i64 0), (3, v10), (4, .pointer (some ⟨b12, 0, none⟩)), (5, .pointer (some ⟨b13, 0, none⟩)), (6, .int .i64 (IntKind.i64.wrap (s25.1 + 1)))]) ⟨rfl, rfl, rfl, rfl, rfl, rfl, trivial⟩ ?_
          exact hn25 _ _ _ _ h ⟨(hl25.trans hl33), rfl, rfl⟩
      refine Z 4 rfl ?_
      obtain ⟨q34, hf35, h⟩ := h
      refine o_index rfl rfl rfl z_slT180 rfl rfl (hs11.up hl25) rfl hf35 (fun b36 of37 vs hc38 hrep => ?_)
      obtain ⟨_, _, rfl, rfl, ⟨_, _, rfl, rfl, ⟨_, _, rfl, rfl, ⟨_, _, rfl, rfl, ⟨_, _, rfl, rfl, ⟨_, _, rfl, rfl, rfl⟩⟩⟩⟩⟩⟩ := hrep
      refine o_fieldAddr rfl rfl rfl z_field182_1 rfl ?_
      refine o_loadI (v := .int .i64 q34.2.1) rfl rfl rfl z_sc3 rfl (hc38 1 _ rfl) ?_
      refine Z 7 rfl ?_
      refine st_cond rfl (fun hc => ?_) (fun hc => ?_)
      · replace h := (if_pos hc).mp h
        refine Z 2 rfl ?_
        refine o_load (j := 0) (v := v1) rfl rfl rfl z_sc37 rfl rfl rfl ?_
        obtain ⟨r39, hr40, h⟩ := h
        refine st_call (foot := []) rfl rfl rfl rfl rfl rfl (callV_fn z_en149 (ref17_path_ok hr40 τ25 (hs3.up (hl9.trans hl25)))) ?_
        rintro vτ41 τ41 gsτ41 hl42 ⟨rfl, rfl⟩
        refine Z 3 rfl ?_
        refine st_env (ρ' := [(1, .pointer (some ⟨b5, 0, none⟩)), (2, .int .i64 0), (3, v10), (4, .pointer (some ⟨b12, 0, none⟩)), (5, .pointer (some ⟨b13, 0, none⟩)), (6, .int .i64 s25.1), (7, .int .i64 r39)]) ⟨rfl, rfl, rfl, rfl, rfl, rfl, rfl, trivial⟩ ?_
        exact hk33 _ _ _ ⟨(r39, s25.2.2.2.2.2.2.2.2.1, s25.2.2.2.2.2.2.2.2.2.1, s25.2.2.2.2.2.2.2.2.2.2.1, s25.2.2.2.2.2.2.2.2.2.2.2.1, s25.2.2.2.2.2.2.2.2.2.2.2.2.1, s25.2.2.2.2.2.2.2.2.2.2.2.2.2), h, hl42, rfl, rfl⟩
      · replace h := (if_neg (ne_t hc)).mp h
        refine Z 5 rfl ?_
        refine st_cond rfl (fun hc => ?_) (fun hc => ?_)
        · replace h := (if_pos hc).mp h
          refine Z 2 rfl ?_
          refine o_load (j := 0) (v := v2) rfl rfl rfl z_sc24 rfl rfl rfl ?_
          obtain ⟨r43, hr44, h⟩ := h
          refine st_call (foot := []) rfl rfl rfl rfl rfl rfl (callV_fn z_en150 (ref17_cells_ok hr44 τ25 (hs4.up (hl9.trans hl25)))) ?_
          rintro vτ45 τ45 gsτ45 hl46 ⟨rfl, rfl⟩
          refine Z 3 rfl ?_
          refine st_env (ρ' := [(1, .pointer (some ⟨b5, 0, none⟩)), (2, .int .i64 0), (3, v10), (4, .pointer (some ⟨b12, 0, none⟩)), (5, .pointer (some ⟨b13, 0, none⟩)), (6, .int .i64 s25.1), (7, .int .i64 r43)]) ⟨rfl, rfl, rfl, rfl, rfl, rfl, rfl, trivial⟩ ?_
          exact hk33 _ _ _ ⟨(r43, s25.2.2.2.2.2.2.2.2.1, s25.2.2.2.2.2.2.2.2.2.1, s25.2.2.2.2.2.2.2.2.2.2.1, s25.2.2.2.2.2.2.2.2.2.2.2.1, s25.2.2.2.2.2.2.2.2.2.2.2.2.1, s25.2.2.2.2.2.2.2.2.2.2.2.2.2), h, hl46, rfl, rfl⟩
        · replace h := (if_neg (ne_t hc)).mp h
          refine Z 5 rfl ?_
          refine st_cond rfl (fun hc => ?_) (fun hc => ?_)
          · replace h := (if_pos hc).mp h
            refine Z 2 rfl ?_
            refine o_load (j := 0) (v := .string a0.2.2.2.2.1) rfl rfl rfl z_sc9 rfl rfl rfl ?_
            obtain ⟨r47, hr48, h⟩ := h
            refine st_call (foot := []) rfl rfl rfl rfl rfl rfl (callV_fn z_en151 (ref17_text_ok hr48 τ25)) ?_
            rintro vτ49 τ49 gsτ49 hl50 ⟨rfl, rfl⟩
            refine Z 3 rfl ?_
            refine st_env (ρ' := [(1, .pointer (some ⟨b5, 0, none⟩)), (2, .int .i64 0), (3, v10), (4, .pointer (some ⟨b12, 0, none⟩)), (5, .pointer (some ⟨b13, 0, none⟩)), (6, .int .i64 s25.1), (7, .int .i64 r47)]) ⟨rfl, rfl, rfl, rfl, rfl, rfl, rfl, trivial⟩ ?_
            exact hk33 _ _ _ ⟨(r47, s25.2.2.2.2.2.2.2.2.1, s25.2.2.2.2.2.2.2.2.2.1, s25.2.2.2.2.2.2.2.2.2.2.1, s25.2.2.2.2.2.2.2.2.2.2.2.1, s25.2.2.2.2.2.2.2.2.2.2.2.2.1, s25.2.2.2.2.2.2.2.2.2.2.2.2.2), h, hl50, rfl, rfl⟩
          · replace h := (if_neg (ne_t hc)).mp h
            refine Z 5 rfl ?_
            refine st_cond rfl (fun hc => ?_) (fun hc => ?_)
            · replace h := (if_pos hc).mp h
              refine Z 2 rfl ?_
              refine o_load (j := 0) (v := .string a0.2.2.2.2.2) rfl rfl rfl z_sc9 rfl rfl rfl ?_
              obtain ⟨r51, hr52, h⟩ := h
              refine st_call (foot := []) rfl rfl rfl rfl rfl rfl (callV_fn z_en151 (ref17_text_ok hr52 τ25)) ?_
              rintro vτ53 τ53 gsτ53 hl54 ⟨rfl, rfl⟩
              refine Z 3 rfl ?_
              refine st_env (ρ' := [(1, .pointer (some ⟨b5, 0, none⟩)), (2, .int .i64 0), (3, v10), (4, .pointer (some ⟨b12, 0, none⟩)), (5, .pointer (some ⟨b13, 0, none⟩)), (6, .int .i64 s25.1), (7, .int .i64 r51)]) ⟨rfl, rfl, rfl, rfl, rfl, rfl, rfl, trivial⟩ ?_
              exact hk33 _ _ _ ⟨(r51, s25.2.2.2.2.2.2.2.2.1, s25.2.2.2.2.2.2.2.2.2.1, s25.2.2.2.2.2.2.2.2.2.2.1, s25.2.2.2.2.2.2.2.2.2.2.2.1, s25.2.2.2.2.2.2.2.2.2.2.2.2.1, s25.2.2.2.2.2.2.2.2.2.2.2.2.2), h, hl54, rfl, rfl⟩
            · replace h := (if_neg (ne_t hc)).mp h
              refine Z 4 rfl ?_
              obtain ⟨q55, hf56, h⟩ := h
              refine o_index rfl rfl rfl z_slT180 rfl rfl (hs11.up hl25) rfl hf56 (fun b57 of58 vs hc59 hrep => ?_)
              obtain ⟨_, _, rfl, rfl, ⟨_, _, rfl, rfl, ⟨_, _, rfl, rfl, ⟨_, _, rfl, rfl, ⟨_, _, rfl, rfl, ⟨_, _, rfl, rfl, rfl⟩⟩⟩⟩⟩⟩ := hrep
              refine o_fieldAddr rfl rfl rfl z_field182_2 rfl ?_
              refine o_loadI (v := .int .i64 q55.2.2.1) rfl rfl rfl z_sc3 rfl (hc59 2 _ rfl) ?_
              obtain ⟨hf60, hf61, h⟩ := h
              refine o_indexA rfl rfl rfl z_arr225 rfl rfl hf60 hf61 ?_
              refine o_storeV (j := 2) (q55.2.2.1.toNat) (f := Value.bool) (zz := false) (a := true) (l := 6) (xs := [s25.2.2.2.2.2.2.2.2.1, s25.2.2.2.2.2.2.2.2.2.1, s25.2.2.2.2.2.2.2.2.2.2.1, s25.2.2.2.2.2.2.2.2.2.2.2.1, s25.2.2.2.2.2.2.2.2.2.2.2.2.1, s25.2.2.2.2.2.2.2.2.2.2.2.2.2]) [] [] rfl rfl rfl z_size4 rfl rfl rfl rfl rfl (by simp only [List.length_cons, List.length_nil]; omega) (by omega) ?_
              refine st_gs [[(b5, .cells [.int .i64 a0.1, .int .i64 (a0.2.1.getD 0 0), .int .i64 (a0.2.1.getD 1 0), .int .i64 (a0.2.1.getD 2 0), .int .i64 (a0.2.1.getD 3 0), .int .i64 (a0.2.1.getD 4 0), .int .i64 (a0.2.1.getD 5 0), v1, v2, .string a0.2.2.2.2.1, .string a0.2.2.2.2.2].toArray 39 (0, 0))], [(b12, .cells [.bool ((putN 7 false [s25.2.1, s25.2.2.1, s25.2.2.2.1, s25.2.2.2.2.1, s25.2.2.2.2.2.1, s25.2.2.2.2.2.2.1, s25.2.2.2.2.2.2.2.1] q26.2.1.toNat true).getD 0 false), .bool ((putN 7 false [s25.2.1, s25.2.2.1, s25.2.2.2.1, s25.2.2.2.2.1, s25.2.2.2.2.2.1, s25.2.2.2.2.2.2.1, s25.2.2.2.2.2.2.2.1] q26.2.1.toNat true).getD 1 false), .bool ((putN 7 false [s25.2.1, s25.2.2.1, s25.2.2.2.1, s25.2.2.2.2.1, s25.2.2.2.2.2.1, s25.2.2.2.2.2.2.1, s25.2.2.2.2.2.2.2.1] q26.2.1.toNat true).getD 2 false), .bool ((putN 7 false [s25.2.1, s25.2.2.1, s25.2.2.2.1, s25.2.2.2.2.1, s25.2.2.2.2.2.1, s25.2.2.2.2.2.2.1, s25.2.2.2.2.2.2.2.1] q26.2.1.toNat true).getD 3 false), .bool ((putN 7 false [s25.2.1, s25.2.2.1, s25.2.2.2.1, s25.2.2.2.2.1, s25.2.2.2.2.2.1, s25.2.2.2.2.2.2.1, s25.2.2.2.2.2.2.2.1] q26.2.1.toNat true).getD 4 false), .bool ((putN 7 false [s25.2.1, s25.2.2.1, s25.2.2.2.1, s25.2.2.2.2.1, s25.2.2.2.2.2.1, s25.2.2.2.2.2.2.1, s25.2.2.2.2.2.2.2.1] q26.2.1.toNat true).getD 5 false), .bool ((putN 7 false [s25.2.1, s25.2.2.1, s25.2.2.2.1, s25.2.2.2.2.1, s25.2.2.2.2.2.1, s25.2.2.2.2.2.2.1, s25.2.2.2.2.2.2.2.1] q26.2.1.toNat true).getD 6 false)].toArray 224 (0, 0))], [(b13, .cells [.bool ((putN 6 false [s25.2.2.2.2.2.2.2.2.1, s25.2.2.2.2.2.2.2.2.2.1, s25.2.2.2.2.2.2.2.2.2.2.1, s25.2.2.2.2.2.2.2.2.2.2.2.1, s25.2.2.2.2.2.2.2.2.2.2.2.2.1, s25.2.2.2.2.2.2.2.2.2.2.2.2.2] q55.2.2.1.toNat true).getD 0 false), .bool ((putN 6 false [s25.2.2.2.2.2.2.2.2.1, s25.2.2.2.2.2.2.2.2.2.1, s25.2.2.2.2.2.2.2.2.2.2.1, s25.2.2.2.2.2.2.2.2.2.2.2.1, s25.2.2.2.2.2.2.2.2.2.2.2.2.1, s25.2.2.2.2.2.2.2.2.2.2.2.2.2] q55.2.2.1.toNat true).getD 1 false), .bool ((putN 6 false [s25.2.2.2.2.2.2.2.2.1, s25.2.2.2.2.2.2.2.2.2.1, s25.2.2.2.2.2.2.2.2.2.2.1, s25.2.2.2.2.2.2.2.2.2.2.2.1, s25.2.2.2.2.2.2.2.2.2.2.2.2.1, s25.2.2.2.2.2.2.2.2.2.2.2.2.2] q55.2.2.1.toNat true).getD 2 false), .bool ((putN 6 false [s25.2.2.2.2.2.2.2.2.1, s25.2.2.2.2.2.2.2.2.2.1, s25.2.2.2.2.2.2.2.2.2.2.1, s25.2.2.2.2.2.2.2.2.2.2.2.1, s25.2.2.2.2.2.2.2.2.2.2.2.2.1, s25.2.2.2.2.2.2.2.2.2.2.2.2.2] q55.2.2.1.toNat true).getD 3 false), .bool ((putN 6 false [s25.2.2.2.2.2.2.2.2.1, s25.2.2.2.2.2.2.2.2.2.1, s25.2.2.2.2.2.2.2.2.2.2.1, s25.2.2.2.2.2.2.2.2.2.2.2.1, s25.2.2.2.2.2.2.2.2.2.2.2.2.1, s25.2.2.2.2.2.2.2.2.2.2.2.2.2] q55.2.2.1.toNat true).getD 4 false), .bool ((putN 6 false [s25.2.2.2.2.2.2.2.2.1, s25.2.2.2.2.2.2.2.2.2.1, s25.2.2.2.2.2.2.2.2.2.2.1, s25.2.2.2.2.2.2.2.2.2.2.2.1, s25.2.2.2.2.2.2.2.2.2.2.2.2.1, s25.2.2.2.2.2.2.2.2.2.2.2.2.2] q55.2.2.1.toNat true).getD 5 false)].toArray 225 (0, 0))]] rfl ?_
              refine Z 2 rfl ?_
              obtain ⟨q62, hf63, hf67, hf68, q69, hf70, q74, hf75, hf79, hf80, q81, hf82, h⟩ := h
              refine st_draw 30 (tl [fun τ v => (v10 : Value) = v,
    fun τ v => (.int .i64 s25.1 : Value) = v,
    fun τ v => ∃ (b64 : Nat) (of65 : Nat) (vsb64 : List Value), (.pointer (some ⟨b64, of65, none⟩) : Value) = v ∧ CelN τ ⟨b64, of65, none⟩ vsb64 ∧ (kP kS (kP (kI .i64) (kP (kI .i64) (kP (kI .i64) (kP (kI .i64) (kP (kI .i64) (kI .i64))))))).rep τ vsb64 q62,
    fun τ v => ∃ (b64 : Nat) (of65 : Nat) (vsb64 : List Value), (.pointer (some ⟨b64, of65 + 2, none⟩) : Value) = v ∧ CelN τ ⟨b64, of65, none⟩ vsb64 ∧ (kP kS (kP (kI .i64) (kP (kI .i64) (kP (kI .i64) (kP (kI .i64) (kP (kI .i64) (kI .i64))))))).rep τ vsb64 q62,
    fun τ v => (.int .i64 q62.2.2.1 : Value) = v,
    fun τ v => (.pointer (some ⟨b5, 1, none⟩) : Value) = v,
    fun τ v => (.pointer (some ⟨b5, 1 + q62.2.2.1.toNat * 1, none⟩) : Value) = v,
    fun τ v => (.int .i64 (a0.2.1.getD q62.2.2.1.toNat 0) : Value) = v,
    fun τ v => (v10 : Value) = v,
    fun τ v => (.int .i64 s25.1 : Value) = v,
    fun τ v => ∃ (b71 : Nat) (of72 : Nat) (vsb71 : List Value), (.pointer (some ⟨b71, of72, none⟩) : Value) = v ∧ CelN τ ⟨b71, of72, none⟩ vsb71 ∧ (kP kS (kP (kI .i64) (kP (kI .i64) (kP (kI .i64) (kP (kI .i64) (kP (kI .i64) (kI .i64))))))).rep τ vsb71 q69,
    fun τ v => ∃ (b71 : Nat) (of72 : Nat) (vsb71 : List Value), (.pointer (some ⟨b71, of72 + 3, none⟩) : Value) = v ∧ CelN τ ⟨b71, of72, none⟩ vsb71 ∧ (kP kS (kP (kI .i64) (kP (kI .i64) (kP (kI .i64) (kP (kI .i64) (kP (kI .i64) (kI .i64))))))).rep τ vsb71 q69,
    fun τ v => (.int .i64 q69.2.2.2.1 : Value) = v,
    fun τ v => (.bool (decide ((a0.2.1.getD q62.2.2.1.toNat 0) < q69.2.2.2.1)) : Value) = v,
    fun τ v => (.bool (decide ((a0.2.1.getD q62.2.2.1.toNat 0) < q69.2.2.2.1)) : Value) = v,
    fun τ v => (((decide ((a0.2.1.getD q62.2.2.1.toNat 0) < q69.2.2.2.1)) = false) → (v10 : Value) = v) ∧ (¬ ((decide ((a0.2.1.getD q62.2.2.1.toNat 0) < q69.2.2.2.1)) = false) → v = undef),
    fun τ v => (((decide ((a0.2.1.getD q62.2.2.1.toNat 0) < q69.2.2.2.1)) = false) → (.int .i64 s25.1 : Value) = v) ∧ (¬ ((decide ((a0.2.1.getD q62.2.2.1.toNat 0) < q69.2.2.2.1)) = false) → v = undef),
    fun τ v => (((decide ((a0.2.1.getD q62.2.2.1.toNat 0) < q69.2.2.2.1)) = false) → ∃ (b76 : Nat) (of77 : Nat) (vsb76 : List Value), (.pointer (some ⟨b76, of77, none⟩) : Value) = v ∧ CelN τ ⟨b76, of77, none⟩ vsb76 ∧ (kP kS (kP (kI .i64) (kP (kI .i64) (kP (kI .i64) (kP (kI .i64) (kP (kI .i64) (kI .i64))))))).rep τ vsb76 q74) ∧ (¬ ((decide ((a0.2.1.getD q62.2.2.1.toNat 0) < q69.2.2.2.1)) = false) → v = undef),
    fun τ v => (((decide ((a0.2.1.getD q62.2.2.1.toNat 0) < q69.2.2.2.1)) = false) → ∃ (b76 : Nat) (of77 : Nat) (vsb76 : List Value), (.pointer (some ⟨b76, of77 + 2, none⟩) : Value) = v ∧ CelN τ ⟨b76, of77, none⟩ vsb76 ∧ (kP kS (kP (kI .i64) (kP (kI .i64) (kP (kI .i64) (kP (kI .i64) (kP (kI .i64) (kI .i64))))))).rep τ vsb76 q74) ∧ (¬ ((decide ((a0.2.1.getD q62.2.2.1.toNat 0) < q69.2.2.2.1)) = false) → v = undef),
    fun τ v => (((decide ((a0.2.1.getD q62.2.2.1.toNat 0) < q69.2.2.2.1)) = false) → (.int .i64 q74.2.2.1 : Value) = v) ∧ (¬ ((decide ((a0.2.1.getD q62.2.2.1.toNat 0) < q69.2.2.2.1)) = false) → v = undef),
    fun τ v => (((decide ((a0.2.1.getD q62.2.2.1.toNat 0) < q69.2.2.2.1)) = false) → (.pointer (some ⟨b5, 1, none⟩) : Value) = v) ∧ (¬ ((decide ((a0.2.1.getD q62.2.2.1.toNat 0) < q69.2.2.2.1)) = false) → v = undef),
    fun τ v => (((decide ((a0.2.1.getD q62.2.2.1.toNat 0) < q69.2.2.2.1)) = false) → (.pointer (some ⟨b5, 1 + q74.2.2.1.toNat * 1, none⟩) : Value) = v) ∧ (¬ ((decide ((a0.2.1.getD q62.2.2.1.toNat 0) < q69.2.2.2.1)) = false) → v = undef),
    fun τ v => (((decide ((a0.2.1.getD q62.2.2.1.toNat 0) < q69.2.2.2.1)) = false) → (.int .i64 (a0.2.1.getD q74.2.2.1.toNat 0) : Value) = v) ∧ (¬ ((decide ((a0.2.1.getD q62.2.2.1.toNat 0) < q69.2.2.2.1)) = false) → v = undef),
    fun τ v => (((decide ((a0.2.1.getD q62.2.2.1.toNat 0) < q69.2.2.2.1)) = false) → (v10 : Value) = v) ∧ (¬ ((decide ((a0.2.1.getD q62.2.2.1.toNat 0) < q69.2.2.2.1)) = false) → v = undef),
    fun τ v => (((decide ((a0.2.1.getD q62.2.2.1.toNat 0) < q69.2.2.2.1)) = false) → (.int .i64 s25.1 : Value) = v) ∧ (¬ ((decide ((a0.2.1.getD q62.2.2.1.toNat 0) < q69.2.2.2.1)) = false) → v = undef),
    fun τ v => (((decide ((a0.2.1.getD q62.2.2.1.toNat 0) < q69.2.2.2.1)) = false) → ∃ (b83 : Nat) (of84 : Nat) (vsb83 : List Value), (.pointer (some ⟨b83, of84, none⟩) : Value) = v ∧ CelN τ ⟨b83, of84, none⟩ vsb83 ∧ (kP kS (kP (kI .i64) (kP (kI .i64) (kP (kI .i64) (kP (kI .i64) (kP (kI .i64) (kI .i64))))))).rep τ vsb83 q81) ∧ (¬ ((decide ((a0.2.1.getD q62.2.2.1.toNat 0) < q69.2.2.2.1)) = false) → v = undef),
    fun τ v => (((decide ((a0.2.1.getD q62.2.2.1.toNat 0) < q69.2.2.2.1)) = false) → ∃ (b83 : Nat) (of84 : Nat) (vsb83 : List Value), (.pointer (some ⟨b83, of84 + 4, none⟩) : Value) = v ∧ CelN τ ⟨b83, of84, none⟩ vsb83 ∧ (kP kS (kP (kI .i64) (kP (kI .i64) (kP (kI .i64) (kP (kI .i64) (kP (kI .i64) (kI .i64))))))).rep τ vsb83 q81) ∧ (¬ ((decide ((a0.2.1.getD q62.2.2.1.toNat 0) < q69.2.2.2.1)) = false) → v = undef),
    fun τ v => (((decide ((a0.2.1.getD q62.2.2.1.toNat 0) < q69.2.2.2.1)) = false) → (.int .i64 q81.2.2.2.2.1 : Value) = v) ∧ (¬ ((decide ((a0.2.1.getD q62.2.2.1.toNat 0) < q69.2.2.2.1)) = false) → v = undef),
    fun τ v => (((decide ((a0.2.1.getD q62.2.2.1.toNat 0) < q69.2.2.2.1)) = false) → (.bool (decide (q81.2.2.2.2.1 < (a0.2.1.getD q74.2.2.1.toNat 0))) : Value) = v) ∧ (¬ ((decide ((a0.2.1.getD q62.2.2.1.toNat 0) < q69.2.2.2.1)) = false) → v = undef),
    fun τ v => (.bool ((decide ((a0.2.1.getD q62.2.2.1.toNat 0) < q69.2.2.2.1)) || (decide (q81.2.2.2.2.1 < (a0.2.1.getD q74.2.2.1.toNat 0)))) : Value) = v]) (fun _ _ => []) z_mix rfl (tl_mono ⟨fun _ _ _ _ h => h, ⟨fun _ _ _ _ h => h, ⟨fun _ _ _ hl ⟨b64, of65, vsb64, hv, hc66, hrepb64⟩ => ⟨b64, of65, vsb64, hv, hc66.up hl, Kd.mono _ hl hrepb64⟩, ⟨fun _ _ _ hl ⟨b64, of65, vsb64, hv, hc66, hrepb64⟩ => ⟨b64, of65, vsb64, hv, hc66.up hl, Kd.mono _ hl hrepb64⟩, ⟨fun _ _ _ _ h => h, ⟨fun _ _ _ _ h => h, ⟨fun _ _ _ _ h => h, ⟨fun _ _ _ _ h => h, ⟨fun _ _ _ _ h => h, ⟨fun _ _ _ _ h => h, ⟨fun _ _ _ hl ⟨b71, of72, vsb71, hv, hc73, hrepb71⟩ => ⟨b71, of72, vsb71, hv, hc73.up hl, Kd.mono _ hl hrepb71⟩, ⟨fun _ _ _ hl ⟨b71, of72, vsb71, hv, hc73, hrepb71⟩ => ⟨b71, of72, vsb71, hv, hc73.up hl, Kd.mono _ hl hrepb71⟩, ⟨fun _ _ _ _ h => h, ⟨fun _ _ _ _ h => h, ⟨fun _ _ _ _ h => h, ⟨fun _ _ _ _ h => h, ⟨fun _ _ _ _ h => h, ⟨fun _ _ _ hl ⟨h1, h2⟩ => ⟨fun hC => let ⟨b76, of77, vsb76, hv, hc78, hrepb76⟩ := h1 hC; ⟨b76, of77, vsb76, hv, hc78.up hl, Kd.mono _ hl hrepb76⟩, h2⟩, ⟨fun _ _ _ hl ⟨h1, h2⟩ => ⟨fun hC => let ⟨b76, of77, vsb76, hv, hc78, hrepb76⟩ := h1 hC; ⟨b76, of77, vsb76, hv, hc78.up hl, Kd.mono _ hl hrepb76⟩, h2⟩, ⟨fun _ _ _ _ h => h, ⟨fun _ _ _ _ h => h, ⟨fun _ _ _ _ h => h, ⟨fun _ _ _ _ h => h, ⟨fun _ _ _ _ h => h, ⟨fun _ _ _ _ h => h, ⟨fun _ _ _ hl ⟨h1, h2⟩ => ⟨fun hC => let ⟨b83, of84, vsb83, hv, hc85, hrepb83⟩ := h1 hC; ⟨b83, of84, vsb83, hv, hc85.up hl, Kd.mono _ hl hrepb83⟩, h2⟩, ⟨fun _ _ _ hl ⟨h1, h2⟩ => ⟨fun hC => let ⟨b83, of84, vsb83, hv, hc85, hrepb83⟩ := h1 hC; ⟨b83, of84, vsb83, hv, hc85.up hl, Kd.mono _ hl hrepb83⟩, h2⟩, ⟨fun _ _ _ _ h => h, ⟨fun _ _ _ _ h => h, ⟨fun _ _ _ _ h => h, trivial⟩⟩⟩⟩⟩⟩⟩⟩⟩⟩⟩⟩⟩⟩⟩⟩⟩⟩⟩⟩⟩⟩⟩⟩⟩⟩⟩⟩⟩⟩) (allB_cons (allB_cons (allB_cons (allB_cons (allB_cons (allB_cons (allB_cons (allB_cons (allB_cons (allB_cons (allB_cons (allB_cons (allB_cons (allB_cons (allB_cons (allB_cons (allB_cons (allB_cons (allB_cons (allB_cons (allB_cons (allB_cons (allB_cons (allB_cons (allB_cons (allB_cons (allB_cons (allB_cons (allB_cons (allB_cons allB_nil ?_) ?_) ?_) ?_) ?_) ?_) ?_) ?_) ?_) ?_) ?_) ?_) ?_) ?_) ?_) ?_) ?_) ?_) ?_) ?_) ?_) ?_) ?_) ?_) ?_) ?_) ?_) ?_) ?_) ?_) ?_
              · intro ρ' τ pool rs hl hd hout hk
                refine o_move rfl rfl rfl ((hout 3 rfl).trans rfl) ?_
                exact st_addNil (hk _ _ (Sto.Le.refl _) rfl)
              · intro ρ' τ pool rs hl hd hout hk
                refine o_move rfl rfl rfl ((hout 6 rfl).trans rfl) ?_
                exact st_addNil (hk _ _ (Sto.Le.refl _) rfl)
              · intro ρ' τ pool rs hl hd hout hk
                obtain ⟨_, e0, rfl⟩ := hd 0 rfl
                obtain ⟨_, e1, rfl⟩ := hd 1 rfl
                refine o_index rfl rfl rfl z_slT180 rfl e0 (hs11.up (hl25.trans hl)) e1 hf63 (fun b64 of65 vsb64 hc66 hrepb64 => ?_)
                exact st_addNil (hk _ _ (Sto.Le.refl _) ⟨b64, of65, _, rfl, hc66, hrepb64⟩)
              · intro ρ' τ pool rs hl hd hout hk
                obtain ⟨_, e2, b64, of65, vsb64, rfl, hc66, hrepb64⟩ := hd 2 rfl
                have hrepb64 := hrepb64
                obtain ⟨_, _, rfl, rfl, ⟨_, _, rfl, rfl, ⟨_, _, rfl, rfl, ⟨_, _, rfl, rfl, ⟨_, _, rfl, rfl, ⟨_, _, rfl, rfl, rfl⟩⟩⟩⟩⟩⟩ := hrepb64
                refine o_fieldAddr rfl rfl rfl z_field182_2 e2 ?_
                exact st_addNil (hk _ _ (Sto.Le.refl _) ⟨b64, of65, _, rfl, hc66, hrepb64⟩)
              · intro ρ' τ pool rs hl hd hout hk
                obtain ⟨_, e3, b64, of65, vsb64, rfl, hc66, hrepb64⟩ := hd 3 rfl
                have hrepb64 := hrepb64
                obtain ⟨_, _, rfl, rfl, ⟨_, _, rfl, rfl, ⟨_, _, rfl, rfl, ⟨_, _, rfl, rfl, ⟨_, _, rfl, rfl, ⟨_, _, rfl, rfl, rfl⟩⟩⟩⟩⟩⟩ := hrepb64
                refine o_loadI (v := .int .i64 q62.2.2.1) rfl rfl rfl z_sc3 e3 (hc66 2 _ rfl) ?_
                exact st_addNil (hk _ _ (Sto.Le.refl _) rfl)
              · intro ρ' τ pool rs hl hd hout hk
                refine o_fieldAddr rfl rfl rfl z_field39_1 ((hout 1 rfl).trans rfl) ?_
                exact st_addNil (hk _ _ (Sto.Le.refl _) rfl)
              · intro ρ' τ pool rs hl hd hout hk
                obtain ⟨_, e4, rfl⟩ := hd 4 rfl
                obtain ⟨_, e5, rfl⟩ := hd 5 rfl
                refine o_indexA rfl rfl rfl z_arr22 e5 e4 hf67 hf68 ?_
                exact st_addNil (hk _ _ (Sto.Le.refl _) rfl)
              · intro ρ' τ pool rs hl hd hout hk
                obtain ⟨_, e6, rfl⟩ := hd 6 rfl
                refine o_loadV (j := 0) (q62.2.2.1.toNat) (f := (Value.int .i64)) (zz := 0) (l := 6) (xs := a0.2.1) [.int .i64 a0.1] [v1, v2, .string a0.2.2.2.2.1, .string a0.2.2.2.2.2] rfl rfl rfl z_sc3 e6 rfl (by simp only [List.length_cons, List.length_nil]; omega) (by omega) ?_
                exact st_addNil (hk _ _ (Sto.Le.refl _) rfl)
              · intro ρ' τ pool rs hl hd hout hk
                refine o_move rfl rfl rfl ((hout 3 rfl).trans rfl) ?_
                exact st_addNil (hk _ _ (Sto.Le.refl _) rfl)
              · intro ρ' τ pool rs hl hd hout hk
                refine o_move rfl rfl rfl ((hout 6 rfl).trans rfl) ?_
                exact st_addNil (hk _ _ (Sto.Le.refl _) rfl)
              · intro ρ' τ pool rs hl hd hout hk
                obtain ⟨_, e8, rfl⟩ := hd 8 rfl
                obtain ⟨_, e9, rfl⟩ := hd 9 rfl
                refine o_index rfl rfl rfl z_slT180 rfl e8 (hs11.up (hl25.trans hl)) e9 hf70 (fun b71 of72 vsb71 hc73 hrepb71 => ?_)
                exact st_addNil (hk _ _ (Sto.Le.refl _) ⟨b71, of72, _, rfl, hc73, hrepb71⟩)
              · intro ρ' τ pool rs hl hd hout hk
                obtain ⟨_, e10, b71, of72, vsb71, rfl, hc73, hrepb71⟩ := hd 10 rfl
                have hrepb71 := hrepb71
                obtain ⟨_, _, rfl, rfl, ⟨_, _, rfl, rfl, ⟨_, _, rfl, rfl, ⟨_, _, rfl, rfl, ⟨_, _, rfl, rfl, ⟨_, _, rfl, rfl, rfl⟩⟩⟩⟩⟩⟩ := hrepb71
                refine o_fieldAddr rfl rfl rfl z_field182_3 e10 ?_
                exact st_addNil (hk _ _ (Sto.Le.refl _) ⟨b71, of72, _, rfl, hc73, hrepb71⟩)
              · intro ρ' τ pool rs hl hd hout hk
                obtain ⟨_, e11, b71, of72, vsb71, rfl, hc73, hrepb71⟩ := hd 11 rfl
                have hrepb71 := hrepb71
                obtain ⟨_, _, rfl, rfl, ⟨_, _, rfl, rfl, ⟨_, _, rfl, rfl, ⟨_, _, rfl, rfl, ⟨_, _, rfl, rfl, ⟨_, _, rfl, rfl, rfl⟩⟩⟩⟩⟩⟩ := hrepb71
                refine o_loadI (v := .int .i64 q69.2.2.2.1) rfl rfl rfl z_sc3 e11 (hc73 3 _ rfl) ?_
                exact st_addNil (hk _ _ (Sto.Le.refl _) rfl)
              · intro ρ' τ pool rs hl hd hout hk
                obtain ⟨_, e7, rfl⟩ := hd 7 rfl
                obtain ⟨_, e12, rfl⟩ := hd 12 rfl
                refine o_ibin (v := .bool (decide ((a0.2.1.getD q62.2.2.1.toNat 0) < q69.2.2.2.1))) rfl rfl rfl e7 e12 rfl ?_
                exact st_addNil (hk _ _ (Sto.Le.refl _) rfl)
              · intro ρ' τ pool rs hl hd hout hk
                obtain ⟨_, e13, rfl⟩ := hd 13 rfl
                refine o_move rfl rfl rfl e13 ?_
                exact st_addNil (hk _ _ (Sto.Le.refl _) rfl)
              · intro ρ' τ pool rs hl hd hout hk
                obtain ⟨_, e14, rfl⟩ := hd 14 rfl
                by_cases hG : (decide ((a0.2.1.getD q62.2.2.1.toNat 0) < q69.2.2.2.1)) = false
                · have hC := hG
                  refine o_move rfl (wants_of rfl e14 hG) rfl ((hout 3 rfl).trans rfl) ?_
                  exact st_addNil (hk _ _ (Sto.Le.refl _) ⟨fun _ => rfl, fun hn => absurd hC hn⟩)
                · refine st_pass rfl rfl rfl e14 (beq_off hG) rfl ?_
                  exact st_addNil (hk _ _ (Sto.Le.refl _) ⟨fun h => absurd h hG, fun _ => rfl⟩)
              · intro ρ' τ pool rs hl hd hout hk
                obtain ⟨_, e14, rfl⟩ := hd 14 rfl
                by_cases hG : (decide ((a0.2.1.getD q62.2.2.1.toNat 0) < q69.2.2.2.1)) = false
                · have hC := hG
                  refine o_move rfl (wants_of rfl e14 hG) rfl ((hout 6 rfl).trans rfl) ?_
                  exact st_addNil (hk _ _ (Sto.Le.refl _) ⟨fun _ => rfl, fun hn => absurd hC hn⟩)
                · refine st_pass rfl rfl rfl e14 (beq_off hG) rfl ?_
                  exact st_addNil (hk _ _ (Sto.Le.refl _) ⟨fun h => absurd h hG, fun _ => rfl⟩)
              · intro ρ' τ pool rs hl hd hout hk
                obtain ⟨_, e14, rfl⟩ := hd 14 rfl
                obtain ⟨w15, e15, t15⟩ := hd 15 rfl
                obtain ⟨w16, e16, t16⟩ := hd 16 rfl
                by_cases hG : (decide ((a0.2.1.getD q62.2.2.1.toNat 0) < q69.2.2.2.1)) = false
                · have hC := hG
                  replace hf75 := hf75 hC
                  obtain ⟨rfl⟩ := t15.1 hC
                  obtain ⟨rfl⟩ := t16.1 hC
                  refine o_index rfl (wants_of rfl e14 hG) rfl z_slT180 rfl e15 (hs11.up (hl25.trans hl)) e16 hf75 (fun b76 of77 vsb76 hc78 hrepb76 => ?_)
                  exact st_addNil (hk _ _ (Sto.Le.refl _) ⟨fun _ => ⟨b76, of77, _, rfl, hc78, hrepb76⟩, fun hn => absurd hC hn⟩)
                · refine st_pass rfl rfl rfl e14 (beq_off hG) rfl ?_
                  exact st_addNil (hk _ _ (Sto.Le.refl _) ⟨fun h => absurd h hG, fun _ => rfl⟩)
              · intro ρ' τ pool rs hl hd hout hk
                obtain ⟨_, e14, rfl⟩ := hd 14 rfl
                obtain ⟨w17, e17, t17⟩ := hd 17 rfl
                by_cases hG : (decide ((a0.2.1.getD q62.2.2.1.toNat 0) < q69.2.2.2.1)) = false
                · have hC := hG
                  obtain ⟨b76, of77, vsb76, rfl, hc78, hrepb76⟩ := t17.1 hC
                  have hrepb76 := hrepb76
                  obtain ⟨_, _, rfl, rfl, ⟨_, _, rfl, rfl, ⟨_, _, rfl, rfl, ⟨_, _, rfl, rfl, ⟨_, _, rfl, rfl, ⟨_, _, rfl, rfl, rfl⟩⟩⟩⟩⟩⟩ := hrepb76
                  refine o_fieldAddr rfl (wants_of rfl e14 hG) rfl z_field182_2 e17 ?_
                  exact st_addNil (hk _ _ (Sto.Le.refl _) ⟨fun _ => ⟨b76, of77, _, rfl, hc78, hrepb76⟩, fun hn => absurd hC hn⟩)
                · refine st_pass rfl rfl rfl e14 (beq_off hG) rfl ?_
                  exact st_addNil (hk _ _ (Sto.Le.refl _) ⟨fun h => absurd h hG, fun _ => rfl⟩)
              · intro ρ' τ pool rs hl hd hout hk
                obtain ⟨_, e14, rfl⟩ := hd 14 rfl
                obtain ⟨w18, e18, t18⟩ := hd 18 rfl
                by_cases hG : (decide ((a0.2.1.getD q62.2.2.1.toNat 0) < q69.2.2.2.1)) = false
                · have hC := hG
                  obtain ⟨b76, of77, vsb76, rfl, hc78, hrepb76⟩ := t18.1 hC
                  have hrepb76 := hrepb76
                  obtain ⟨_, _, rfl, rfl, ⟨_, _, rfl, rfl, ⟨_, _, rfl, rfl, ⟨_, _, rfl, rfl, ⟨_, _, rfl, rfl, ⟨_, _, rfl, rfl, rfl⟩⟩⟩⟩⟩⟩ := hrepb76
                  refine o_loadI (v := .int .i64 q74.2.2.1) rfl (wants_of rfl e14 hG) rfl z_sc3 e18 (hc78 2 _ rfl) ?_
                  exact st_addNil (hk _ _ (Sto.Le.refl _) ⟨fun _ => rfl, fun hn => absurd hC hn⟩)
                · refine st_pass rfl rfl rfl e14 (beq_off hG) rfl ?_
                  exact st_addNil (hk _ _ (Sto.Le.refl _) ⟨fun h => absurd h hG, fun _ => rfl⟩)
              · intro ρ' τ pool rs hl hd hout hk
                obtain ⟨_, e14, rfl⟩ := hd 14 rfl
                by_cases hG : (decide ((a0.2.1.getD q62.2.2.1.toNat 0) < q69.2.2.2.1)) = false
                · have hC := hG
                  refine o_fieldAddr rfl (wants_of rfl e14 hG) rfl z_field39_1 ((hout 1 rfl).trans rfl) ?_
                  exact st_addNil (hk _ _ (Sto.Le.refl _) ⟨fun _ => rfl, fun hn => absurd hC hn⟩)
                · refine st_pass rfl rfl rfl e14 (beq_off hG) rfl ?_
                  exact st_addNil (hk _ _ (Sto.Le.refl _) ⟨fun h => absurd h hG, fun _ => rfl⟩)
              · intro ρ' τ pool rs hl hd hout hk
                obtain ⟨_, e14, rfl⟩ := hd 14 rfl
                obtain ⟨w19, e19, t19⟩ := hd 19 rfl
                obtain ⟨w20, e20, t20⟩ := hd 20 rfl
                by_cases hG : (decide ((a0.2.1.getD q62.2.2.1.toNat 0) < q69.2.2.2.1)) = false
                · have hC := hG
                  replace hf79 := hf79 hC
                  replace hf80 := hf80 hC
                  obtain ⟨rfl⟩ := t19.1 hC
                  obtain ⟨rfl⟩ := t20.1 hC
                  refine o_indexA rfl (wants_of rfl e14 hG) rfl z_arr22 e20 e19 hf79 hf80 ?_
                  exact st_addNil (hk _ _ (Sto.Le.refl _) ⟨fun _ => rfl, fun hn => absurd hC hn⟩)
                · refine st_pass rfl rfl rfl e14 (beq_off hG) rfl ?_
                  exact st_addNil (hk _ _ (Sto.Le.refl _) ⟨fun h => absurd h hG, fun _ => rfl⟩)
              · intro ρ' τ pool rs hl hd hout hk
                obtain ⟨_, e14, rfl⟩ := hd 14 rfl
                obtain ⟨w21, e21, t21⟩ := hd 21 rfl
                by_cases hG : (decide ((a0.2.1.getD q62.2.2.1.toNat 0) < q69.2.2.2.1)) = false
                · have hC := hG
                  obtain ⟨rfl⟩ := t21.1 hC
                  replace hf79 := hf79 hC
                  replace hf80 := hf80 hC
                  refine o_loadV (j := 0) (q74.2.2.1.toNat) (f := (Value.int .i64)) (zz := 0) (l := 6) (xs := a0.2.1) [.int .i64 a0.1] [v1, v2, .string a0.2.2.2.2.1, .string a0.2.2.2.2.2] rfl (wants_of rfl e14 hG) rfl z_sc3 e21 rfl (by simp only [List.length_cons, List.length_nil]; omega) (by omega) ?_
                  exact st_addNil (hk _ _ (Sto.Le.refl _) ⟨fun _ => rfl, fun hn => absurd hC hn⟩)
                · refine st_pass rfl rfl rfl e14 (beq_off hG) rfl ?_
                  exact st_addNil (hk _ _ (Sto.Le.refl _) ⟨fun h => absurd h hG, fun _ => rfl⟩)
              · intro ρ' τ pool rs hl hd hout hk
                obtain ⟨_, e14, rfl⟩ := hd 14 rfl
                by_cases hG : (decide ((a0.2.1.getD q62.2.2.1.toNat 0) < q69.2.2.2.1)) = false
                · have hC := hG
                  refine o_move rfl (wants_of rfl e14 hG) rfl ((hout 3 rfl).trans rfl) ?_
                  exact st_addNil (hk _ _ (Sto.Le.refl _) ⟨fun _ => rfl, fun hn => absurd hC hn⟩)
                · refine st_pass rfl rfl rfl e14 (beq_off hG) rfl ?_
                  exact st_addNil (hk _ _ (Sto.Le.refl _) ⟨fun h => absurd h hG, fun _ => rfl⟩)
              · intro ρ' τ pool rs hl hd hout hk
                obtain ⟨_, e14, rfl⟩ := hd 14 rfl
                by_cases hG : (decide ((a0.2.1.getD q62.2.2.1.toNat 0) < q69.2.2.2.1)) = false
                · have hC := hG
                  refine o_move rfl (wants_of rfl e14 hG) rfl ((hout 6 rfl).trans rfl) ?_
                  exact st_addNil (hk _ _ (Sto.Le.refl _) ⟨fun _ => rfl, fun hn => absurd hC hn⟩)
                · refine st_pass rfl rfl rfl e14 (beq_off hG) rfl ?_
                  exact st_addNil (hk _ _ (Sto.Le.refl _) ⟨fun h => absurd h hG, fun _ => rfl⟩)
              · intro ρ' τ pool rs hl hd hout hk
                obtain ⟨_, e14, rfl⟩ := hd 14 rfl
                obtain ⟨w23, e23, t23⟩ := hd 23 rfl
                obtain ⟨w24, e24, t24⟩ := hd 24 rfl
                by_cases hG : (decide ((a0.2.1.getD q62.2.2.1.toNat 0) < q69.2.2.2.1)) = false
                · have hC := hG
                  replace hf82 := hf82 hC
                  obtain ⟨rfl⟩ := t23.1 hC
                  obtain ⟨rfl⟩ := t24.1 hC
                  refine o_index rfl (wants_of rfl e14 hG) rfl z_slT180 rfl e23 (hs11.up (hl25.trans hl)) e24 hf82 (fun b83 of84 vsb83 hc85 hrepb83 => ?_)
                  exact st_addNil (hk _ _ (Sto.Le.refl _) ⟨fun _ => ⟨b83, of84, _, rfl, hc85, hrepb83⟩, fun hn => absurd hC hn⟩)
                · refine st_pass rfl rfl rfl e14 (beq_off hG) rfl ?_
                  exact st_addNil (hk _ _ (Sto.Le.refl _) ⟨fun h => absurd h hG, fun _ => rfl⟩)
              · intro ρ' τ pool rs hl hd hout hk
                obtain ⟨_, e14, rfl⟩ := hd 14 rfl
                obtain ⟨w25, e25, t25⟩ := hd 25 rfl
                by_cases hG : (decide ((a0.2.1.getD q62.2.2.1.toNat 0) < q69.2.2.2.1)) = false
                · have hC := hG
                  obtain ⟨b83, of84, vsb83, rfl, hc85, hrepb83⟩ := t25.1 hC
                  have hrepb83 := hrepb83
                  obtain ⟨_, _, rfl, rfl, ⟨_, _, rfl, rfl, ⟨_, _, rfl, rfl, ⟨_, _, rfl, rfl, ⟨_, _, rfl, rfl, ⟨_, _, rfl, rfl, rfl⟩⟩⟩⟩⟩⟩ := hrepb83
                  refine o_fieldAddr rfl (wants_of rfl e14 hG) rfl z_field182_4 e25 ?_
                  exact st_addNil (hk _ _ (Sto.Le.refl _) ⟨fun _ => ⟨b83, of84, _, rfl, hc85, hrepb83⟩, fun hn => absurd hC hn⟩)
                · refine st_pass rfl rfl rfl e14 (beq_off hG) rfl ?_
                  exact st_addNil (hk _ _ (Sto.Le.refl _) ⟨fun h => absurd h hG, fun _ => rfl⟩)
              · intro ρ' τ pool rs hl hd hout hk
                obtain ⟨_, e14, rfl⟩ := hd 14 rfl
                obtain ⟨w26, e26, t26⟩ := hd 26 rfl
                by_cases hG : (decide ((a0.2.1.getD q62.2.2.1.toNat 0) < q69.2.2.2.1)) = false
                · have hC := hG
                  obtain ⟨b83, of84, vsb83, rfl, hc85, hrepb83⟩ := t26.1 hC
                  have hrepb83 := hrepb83
                  obtain ⟨_, _, rfl, rfl, ⟨_, _, rfl, rfl, ⟨_, _, rfl, rfl, ⟨_, _, rfl, rfl, ⟨_, _, rfl, rfl, ⟨_, _, rfl, rfl, rfl⟩⟩⟩⟩⟩⟩ := hrepb83
                  refine o_loadI (v := .int .i64 q81.2.2.2.2.1) rfl (wants_of rfl e14 hG) rfl z_sc3 e26 (hc85 4 _ rfl) ?_
                  exact st_addNil (hk _ _ (Sto.Le.refl _) ⟨fun _ => rfl, fun hn => absurd hC hn⟩)
                · refine st_pass rfl rfl rfl e14 (beq_off hG) rfl ?_
                  exact st_addNil (hk _ _ (Sto.Le.refl _) ⟨fun h => absurd h hG, fun _ => rfl⟩)
              · intro ρ' τ pool rs hl hd hout hk
                obtain ⟨_, e14, rfl⟩ := hd 14 rfl
                obtain ⟨w22, e22, t22⟩ := hd 22 rfl
                obtain ⟨w27, e27, t27⟩ := hd 27 rfl
                by_cases hG : (decide ((a0.2.1.getD q62.2.2.1.toNat 0) < q69.2.2.2.1)) = false
                · have hC := hG
                  obtain ⟨rfl⟩ := t27.1 hC
                  obtain ⟨rfl⟩ := t22.1 hC
                  refine o_ibin (v := .bool (decide (q81.2.2.2.2.1 < (a0.2.1.getD q74.2.2.1.toNat 0)))) rfl (wants_of rfl e14 hG) rfl e22 e27 rfl ?_
                  exact st_addNil (hk _ _ (Sto.Le.refl _) ⟨fun _ => rfl, fun hn => absurd hC hn⟩)
                · refine st_pass rfl rfl rfl e14 (beq_off hG) rfl ?_
                  exact st_addNil (hk _ _ (Sto.Le.refl _) ⟨fun h => absurd h hG, fun _ => rfl⟩)
              · intro ρ' τ pool rs hl hd hout hk
                obtain ⟨_, e14, rfl⟩ := hd 14 rfl
                obtain ⟨w28, e28, t28⟩ := hd 28 rfl
                refine o_pickOr rfl rfl rfl e14 rfl (fun hp => e28.trans (congrArg some (Eq.symm (t28.1 hp)))) ?_
                exact st_addNil (hk _ _ (Sto.Le.refl _) rfl)
              intro ρ' τ86 vals hl86 hv hout
              have l29 : Eng.look ρ' 67 = some (.bool ((decide ((a0.2.1.getD q62.2.2.1.toNat 0) < q69.2.2.2.1)) || (decide (q81.2.2.2.2.1 < (a0.2.1.getD q74.2.2.1.toNat 0))))) := ((hv 29 (by decide)).1).trans (congrArg some (show vals 29 = .bool ((decide ((a0.2.1.getD q62.2.2.1.toNat 0) < q69.2.2.2.1)) || (decide (q81.2.2.2.2.1 < (a0.2.1.getD q74.2.2.1.toNat 0)))) from Eq.symm (hv 29 (by decide)).2))
              refine st_ord [0, 0, 0] [[(b5, .cells [.int .i64 a0.1, .int .i64 (a0.2.1.getD 0 0), .int .i64 (a0.2.1.getD 1 0), .int .i64 (a0.2.1.getD 2 0), .int .i64 (a0.2.1.getD 3 0), .int .i64 (a0.2.1.getD 4 0), .int .i64 (a0.2.1.getD 5 0), v1, v2, .string a0.2.2.2.2.1, .string a0.2.2.2.2.2].toArray 39 (0, 0))], [(b12, .cells [.bool ((putN 7 false [s25.2.1, s25.2.2.1, s25.2.2.2.1, s25.2.2.2.2.1, s25.2.2.2.2.2.1, s25.2.2.2.2.2.2.1, s25.2.2.2.2.2.2.2.1] q26.2.1.toNat true).getD 0 false), .bool ((putN 7 false [s25.2.1, s25.2.2.1, s25.2.2.2.1, s25.2.2.2.2.1, s25.2.2.2.2.2.1, s25.2.2.2.2.2.2.1, s25.2.2.2.2.2.2.2.1] q26.2.1.toNat true).getD 1 false), .bool ((putN 7 false [s25.2.1, s25.2.2.1, s25.2.2.2.1, s25.2.2.2.2.1, s25.2.2.2.2.2.1, s25.2.2.2.2.2.2.1, s25.2.2.2.2.2.2.2.1] q26.2.1.toNat true).getD 2 false), .bool ((putN 7 false [s25.2.1, s25.2.2.1, s25.2.2.2.1, s25.2.2.2.2.1, s25.2.2.2.2.2.1, s25.2.2.2.2.2.2.1, s25.2.2.2.2.2.2.2.1] q26.2.1.toNat true).getD 3 false), .bool ((putN 7 false [s25.2.1, s25.2.2.1, s25.2.2.2.1, s25.2.2.2.2.1, s25.2.2.2.2.2.1, s25.2.2.2.2.2.2.1, s25.2.2.2.2.2.2.2.1] q26.2.1.toNat true).getD 4 false), .bool ((putN 7 false [s25.2.1, s25.2.2.1, s25.2.2.2.1, s25.2.2.2.2.1, s25.2.2.2.2.2.1, s25.2.2.2.2.2.2.1, s25.2.2.2.2.2.2.2.1] q26.2.1.toNat true).getD 5 false), .bool ((putN 7 false [s25.2.1, s25.2.2.1, s25.2.2.2.1, s25.2.2.2.2.1, s25.2.2.2.2.2.1, s25.2.2.2.2.2.2.1, s25.2.2.2.2.2.2.2.1] q26.2.1.toNat true).getD 6 false)].toArray 224 (0, 0))], [(b13, .cells [.bool ((putN 6 false [s25.2.2.2.2.2.2.2.2.1, s25.2.2.2.2.2.2.2.2.2.1, s25.2.2.2.2.2.2.2.2.2.2.1, s25.2.2.2.2.2.2.2.2.2.2.2.1, s25.2.2.2.2.2.2.2.2.2.2.2.2.1, s25.2.2.2.2.2.2.2.2.2.2.2.2.2] q55.2.2.1.toNat true).getD 0 false), .bool ((putN 6 false [s25.2.2.2.2.2.2.2.2.1, s25.2.2.2.2.2.2.2.2.2.1, s25.2.2.2.2.2.2.2.2.2.2.1, s25.2.2.2.2.2.2.2.2.2.2.2.1, s25.2.2.2.2.2.2.2.2.2.2.2.2.1, s25.2.2.2.2.2.2.2.2.2.2.2.2.2] q55.2.2.1.toNat true).getD 1 false), .bool ((putN 6 false [s25.2.2.2.2.2.2.2.2.1, s25.2.2.2.2.2.2.2.2.2.1, s25.2.2.2.2.2.2.2.2.2.2.1, s25.2.2.2.2.2.2.2.2.2.2.2.1, s25.2.2.2.2.2.2.2.2.2.2.2.2.1, s25.2.2.2.2.2.2.2.2.2.2.2.2.2] q55.2.2.1.toNat true).getD 2 false), .bool ((putN 6 false [s25.2.2.2.2.2.2.2.2.1, s25.2.2.2.2.2.2.2.2.2.1, s25.2.2.2.2.2.2.2.2.2.2.1, s25.2.2.2.2.2.2.2.2.2.2.2.1, s25.2.2.2.2.2.2.2.2.2.2.2.2.1, s25.2.2.2.2.2.2.2.2.2.2.2.2.2] q55.2.2.1.toNat true).getD 3 false), .bool ((putN 6 false [s25.2.2.2.2.2.2.2.2.1, s25.2.2.2.2.2.2.2.2.2.1, s25.2.2.2.2.2.2.2.2.2.2.1, s25.2.2.2.2.2.2.2.2.2.2.2.1, s25.2.2.2.2.2.2.2.2.2.2.2.2.1, s25.2.2.2.2.2.2.2.2.2.2.2.2.2] q55.2.2.1.toNat true).getD 4 false), .bool ((putN 6 false [s25.2.2.2.2.2.2.2.2.1, s25.2.2.2.2.2.2.2.2.2.1, s25.2.2.2.2.2.2.2.2.2.2.1, s25.2.2.2.2.2.2.2.2.2.2.2.1, s25.2.2.2.2.2.2.2.2.2.2.2.2.1, s25.2.2.2.2.2.2.2.2.2.2.2.2.2] q55.2.2.1.toNat true).getD 5 false)].toArray 225 (0, 0))]] rfl ?_
              refine st_env (ρ' := [(67, .bool ((decide ((a0.2.1.getD q62.2.2.1.toNat 0) < q69.2.2.2.1)) || (decide (q81.2.2.2.2.1 < (a0.2.1.getD q74.2.2.1.toNat 0))))), (1, .pointer (some ⟨b5, 0, none⟩)), (2, .int .i64 0), (3, v10), (4, .pointer (some ⟨b12, 0, none⟩)), (5, .pointer (some ⟨b13, 0, none⟩)), (6, .int .i64 s25.1), (7, .int .i64 0)]) ⟨l29, (hout 1 rfl).trans rfl, (hout 2 rfl).trans rfl, (hout 3 rfl).trans rfl, (hout 4 rfl).trans rfl, (hout 5 rfl).trans rfl, (hout 6 rfl).trans rfl, (hout 7 rfl).trans rfl, trivial⟩ ?_
              refine st_end ?_
              refine st_cond rfl (fun hc => ?_) (fun hc => ?_)
              · replace h := (if_pos hc).mp h
                refine Z 4 rfl ?_
                refine st_env (ρ' := [(1, .pointer (some ⟨b5, 0, none⟩)), (2, .int .i64 0), (3, v10), (4, .pointer (some ⟨b12, 0, none⟩)), (5, .pointer (some ⟨b13, 0, none⟩)), (6, .int .i64 s25.1), (7, .int .i64 5)]) ⟨rfl, rfl, rfl, rfl, rfl, rfl, rfl, trivial⟩ ?_
                exact hk33 _ _ _ ⟨(5, ((putN 6 false [s25.2.2.2.2.2.2.2.2.1, s25.2.2.2.2.2.2.2.2.2.1, s25.2.2.2.2.2.2.2.2.2.2.1, s25.2.2.2.2.2.2.2.2.2.2.2.1, s25.2.2.2.2.2.2.2.2.2.2.2.2.1, s25.2.2.2.2.2.2.2.2.2.2.2.2.2] q55.2.2.1.toNat true).getD 0 false), ((putN 6 false [s25.2.2.2.2.2.2.2.2.1, s25.2.2.2.2.2.2.2.2.2.1, s25.2.2.2.2.2.2.2.2.2.2.1, s25.2.2.2.2.2.2.2.2.2.2.2.1, s25.2.2.2.2.2.2.2.2.2.2.2.2.1, s25.2.2.2.2.2.2.2.2.2.2.2.2.2] q55.2.2.1.toNat true).getD 1 false), ((putN 6 false [s25.2.2.2.2.2.2.2.2.1, s25.2.2.2.2.2.2.2.2.2.1, s25.2.2.2.2.2.2.2.2.2.2.1, s25.2.2.2.2.2.2.2.2.2.2.2.1, s25.2.2.2.2.2.2.2.2.2.2.2.2.1, s25.2.2.2.2.2.2.2.2.2.2.2.2.2] q55.2.2.1.toNat true).getD 2 false), ((putN 6 false [s25.2.2.2.2.2.2.2.2.1, s25.2.2.2.2.2.2.2.2.2.1, s25.2.2.2.2.2.2.2.2.2.2.1, s25.2.2.2.2.2.2.2.2.2.2.2.1, s25.2.2.2.2.2.2.2.2.2.2.2.2.1, s25.2.2.2.2.2.2.2.2.2.2.2.2.2] q55.2.2.1.toNat true).getD 3 false), ((putN 6 false [s25.2.2.2.2.2.2.2.2.1, s25.2.2.2.2.2.2.2.2.2.1, s25.2.2.2.2.2.2.2.2.2.2.1, s25.2.2.2.2.2.2.2.2.2.2.2.1, s25.2.2.2.2.2.2.2.2.2.2.2.2.1, s25.2.2.2.2.2.2.2.2.2.2.2.2.2] q55.2.2.1.toNat true).getD 4 false), ((putN 6 false [s25.2.2.2.2.2.2.2.2.1, s25.2.2.2.2.2.2.2.2.2.1, s25.2.2.2.2.2.2.2.2.2.2.1, s25.2.2.2.2.2.2.2.2.2.2.2.1, s25.2.2.2.2.2.2.2.2.2.2.2.2.1, s25.2.2.2.2.2.2.2.2.2.2.2.2.2] q55.2.2.1.toNat true).getD 5 false)), h, hl86, rfl, rfl⟩
              · replace h := (if_neg (ne_t hc)).mp h
                refine Z 2 rfl ?_
                refine st_env (ρ' := [(1, .pointer (some ⟨b5, 0, none⟩)), (2, .int .i64 0), (3, v10), (4, .pointer (some ⟨b12, 0, none⟩)), (5, .pointer (some ⟨b13, 0, none⟩)), (6, .int .i64 s25.1), (7, .int .i64 0)]) ⟨rfl, rfl, rfl, rfl, rfl, rfl, rfl, trivial⟩ ?_
                exact hk33 _ _ _ ⟨(0, ((putN 6 false [s25.2.2.2.2.2.2.2.2.1, s25.2.2.2.2.2.2.2.2.2.1, s25.2.2.2.2.2.2.2.2.2.2.1, s25.2.2.2.2.2.2.2.2.2.2.2.1, s25.2.2.2.2.2.2.2.2.2.2.2.2.1, s25.2.2.2.2.2.2.2.2.2.2.2.2.2] q55.2.2.1.toNat true).getD 0 false), ((putN 6 false [s25.2.2.2.2.2.2.2.2.1, s25.2.2.2.2.2.2.2.2.2.1, s25.2.2.2.2.2.2.2.2.2.2.1, s25.2.2.2.2.2.2.2.2.2.2.2.1, s25.2.2.2.2.2.2.2.2.2.2.2.2.1, s25.2.2.2.2.2.2.2.2.2.2.2.2.2] q55.2.2.1.toNat true).getD 1 false), ((putN 6 false [s25.2.2.2.2.2.2.2.2.1, s25.2.2.2.2.2.2.2.2.2.1, s25.2.2.2.2.2.2.2.2.2.2.1, s25.2.2.2.2.2.2.2.2.2.2.2.1, s25.2.2.2.2.2.2.2.2.2.2.2.2.1, s25.2.2.2.2.2.2.2.2.2.2.2.2.2] q55.2.2.1.toNat true).getD 2 false), ((putN 6 false [s25.2.2.2.2.2.2.2.2.1, s25.2.2.2.2.2.2.2.2.2.1, s25.2.2.2.2.2.2.2.2.2.2.1, s25.2.2.2.2.2.2.2.2.2.2.2.1, s25.2.2.2.2.2.2.2.2.2.2.2.2.1, s25.2.2.2.2.2.2.2.2.2.2.2.2.2] q55.2.2.1.toNat true).getD 3 false), ((putN 6 false [s25.2.2.2.2.2.2.2.2.1, s25.2.2.2.2.2.2.2.2.2.1, s25.2.2.2.2.2.2.2.2.2.2.1, s25.2.2.2.2.2.2.2.2.2.2.2.1, s25.2.2.2.2.2.2.2.2.2.2.2.2.1, s25.2.2.2.2.2.2.2.2.2.2.2.2.2] q55.2.2.1.toNat true).getD 4 false), ((putN 6 false [s25.2.2.2.2.2.2.2.2.1, s25.2.2.2.2.2.2.2.2.2.1, s25.2.2.2.2.2.2.2.2.2.2.1, s25.2.2.2.2.2.2.2.2.2.2.2.1, s25.2.2.2.2.2.2.2.2.2.2.2.2.1, s25.2.2.2.2.2.2.2.2.2.2.2.2.2] q55.2.2.1.toNat true).getD 5 false)), h, hl86, rfl, rfl⟩
    · replace h := (if_neg (ne_t hc)).mp h
      refine st_exit rfl ?_
      obtain rfl := he25 _ h
      replace h := hA25
      refine st_env (ρ' := [(1, .pointer (some ⟨b5, 0, none⟩)), (2, .int .i64 0), (4, .pointer (some ⟨b12, 0, none⟩)), (5, .pointer (some ⟨b13, 0, none⟩))]) ⟨rfl, rfl, rfl, rfl, trivial⟩ ?_
      exact hk14 _ _ _ ⟨(s25.2.1, s25.2.2.1, s25.2.2.2.1, s25.2.2.2.2.1, s25.2.2.2.2.2.1, s25.2.2.2.2.2.2.1, s25.2.2.2.2.2.2.2.1, s25.2.2.2.2.2.2.2.2.1, s25.2.2.2.2.2.2.2.2.2.1, s25.2.2.2.2.2.2.2.2.2.2.1, s25.2.2.2.2.2.2.2.2.2.2.2.1, s25.2.2.2.2.2.2.2.2.2.2.2.2.1, s25.2.2.2.2.2.2.2.2.2.2.2.2.2), h, hl25, rfl, rfl⟩
theorem ref16_Word_ok {a0 : Int} {r : ByteArray} (h : ref16_Word a0 r) (σ : Sto)  :
    Does Tryd.prog 115 [.int .i64 a0] σ [] (fun v τ gs => gs = [] ∧ .string r = v) := by
  refine call_of Tryd.func115 Tryd.ntmps115 rfl rfl (fun cs fs => ?_)
  refine Z 2 rfl ?_
  refine o_assign rfl rfl rfl (ev_str z_str19) ?_
  refine Z 3 rfl ?_
  refine st_cut (fun ρ τ1 gs => ∃ (s1 : Bool), ref16_Word_j1 a0 s1 r ∧ σ.Le τ1 ∧ ρ = [(0, .int .i64 a0), (2, .string (bstr [])), (8, .bool s1)] ∧ gs = []) ?_ (fun hk1 => ?_)
  · rintro ρ1 τ1 gs1 ⟨s1, h, hl1, rfl, rfl⟩
    refine st_cond rfl (fun hc => ?_) (fun hc => ?_)
    · replace h := (if_pos hc).mp h
      refine Z 2 rfl ?_
      refine o_assign rfl rfl rfl (ev_str z_str19) ?_
      refine st_end ?_
      obtain rfl := Eq.symm h
      exact st_ret (gs' := []) Tryd.func115 rfl (List.Sublist.refl _) hl1 ⟨rfl, rfl⟩
    · replace h := (if_neg (ne_t hc)).mp h
      refine Z 3 rfl ?_
      refine o_lit (dk := kS) (xs := [(bstr [109, 111, 118, 101]), (bstr [104, 111, 108, 100]), (bstr [103, 114, 97, 110, 116]), (bstr [112, 111, 115, 101]), (bstr [102, 97, 117, 108, 116])]) (ps := [(0, [.string (bstr [109, 111, 118, 101])]), (1, [.string (bstr [104, 111, 108, 100])]), (2, [.string (bstr [103, 114, 97, 110, 116])]), (3, [.string (bstr [112, 111, 115, 101])]), (4, [.string (bstr [102, 97, 117, 108, 116])])]) (cs := [.string (bstr [109, 111, 118, 101]), .string (bstr [104, 111, 108, 100]), .string (bstr [103, 114, 97, 110, 116]), .string (bstr [112, 111, 115, 101]), .string (bstr [102, 97, 117, 108, 116])]) rfl rfl rfl z_slT68 z_zero9 ⟨rfl, ⟨_, (ev_str z_str20), rfl⟩, ⟨rfl, ⟨_, (ev_str z_str21), rfl⟩, ⟨rfl, ⟨_, (ev_str z_str22), rfl⟩, ⟨rfl, ⟨_, (ev_str z_str23), rfl⟩, ⟨rfl, ⟨_, (ev_str z_str24), rfl⟩, trivial⟩⟩⟩⟩⟩ rfl rfl rfl rfl (Kd.Many.cons (d := kS) (x := (bstr [109, 111, 118, 101])) (a := [.string (bstr [109, 111, 118, 101])]) rfl (Kd.Many.cons (d := kS) (x := (bstr [104, 111, 108, 100])) (a := [.string (bstr [104, 111, 108, 100])]) rfl (Kd.Many.cons (d := kS) (x := (bstr [103, 114, 97, 110, 116])) (a := [.string (bstr [103, 114, 97, 110, 116])]) rfl (Kd.Many.cons (d := kS) (x := (bstr [112, 111, 115, 101])) (a := [.string (bstr [112, 111, 115, 101])]) rfl (Kd.Many.cons (d := kS) (x := (bstr [102, 97, 117, 108, 116])) (a := [.string (bstr [102, 97, 117, 108, 116])]) rfl Kd.Many.nil))))) (fun v2 g3 ho4 => ?_)
      refine Z 2 rfl ?_
      obtain ⟨q5, hf6, h⟩ := h
      refine o_indexOw rfl rfl rfl z_slT68 rfl rfl ho4 rfl hf6 (fun b7 hb8 => ?_)
      obtain ⟨vs9, hrep10, hat11⟩ := Ow.at ho4 hb8 hf6
      obtain rfl := hrep10
      refine o_loadOw (off := 0) (j := 0) (v := .string q5) rfl rfl rfl z_sc9 rfl hat11 rfl rfl ?_
      refine Z 2 rfl ?_
      refine st_ord [] [] rfl ?_
      obtain rfl := Eq.symm h
      exact st_ret (gs' := []) Tryd.func115 rfl (List.Sublist.refl _) hl1 ⟨rfl, rfl⟩
  refine Z 3 rfl ?_
  refine o_moveB rfl rfl rfl rfl (fun hc => ?_) (fun hc => ?_)
  · replace h := (if_pos hc).mp h
    refine Z 4 rfl ?_
    refine st_env (ρ' := [(0, .int .i64 a0), (2, .string (bstr [])), (8, .bool true)]) ⟨rfl, rfl, rfl, trivial⟩ ?_
    exact hk1 _ _ _ ⟨true, h, (Sto.Le.refl _), rfl, rfl⟩
  · replace h := (if_neg (ne_t hc)).mp h
    refine Z 4 rfl ?_
    refine st_env (ρ' := [(0, .int .i64 a0), (2, .string (bstr [])), (8, .bool (decide (5 < a0)))]) ⟨rfl, rfl, rfl, trivial⟩ ?_
    exact hk1 _ _ _ ⟨(decide (5 < a0)), h, (Sto.Le.refl _), rfl, rfl⟩
theorem ref20_digit_ok {a0 : Int} {r : Int} (h : ref20_digit a0 r) (σ : Sto)  :
    Does Tryd.prog 152 [.int .u8 a0] σ [] (fun v τ gs => gs = [] ∧ .int .u8 r = v) := by
  refine call_of Tryd.func152 Tryd.ntmps152 rfl rfl (fun cs fs => ?_)
  refine Z 10 rfl ?_
  refine st_cond rfl (fun hc => ?_) (fun hc => ?_)
  · replace h := (if_pos hc).mp h
    refine Z 6 rfl ?_
    obtain rfl := Eq.symm h
    exact st_ret (gs' := []) Tryd.func152 rfl (List.Sublist.refl _) (Sto.Le.refl _) ⟨rfl, rfl⟩
  · replace h := (if_neg (ne_t hc)).mp h
    refine Z 7 rfl ?_
    obtain rfl := Eq.symm h
    exact st_ret (gs' := []) Tryd.func152 rfl (List.Sublist.refl _) (Sto.Le.refl _) ⟨rfl, rfl⟩
theorem ref20_hex_ok {a0 : ByteArray} {r : ByteArray} (h : ref20_hex a0 r) (σ : Sto)  :
    Does Tryd.prog 117 [.string a0] σ [] (fun v τ gs => gs = [] ∧ .string r = v) := by
  refine call_of Tryd.func117 Tryd.ntmps117 rfl rfl (fun cs fs => ?_)
  refine Z 2 rfl ?_
  refine o_assign rfl rfl rfl (ev_str z_str19) ?_
  refine Z 5 rfl ?_
  refine o_sbin (v := .bool (decide (a0 = (bstr [])))) rfl rfl rfl rfl (ev_str z_str19) rfl ?_
  refine st_end ?_
  refine st_cond rfl (fun hc => ?_) (fun hc => ?_)
  · replace h := (if_pos hc).mp h
    refine Z 2 rfl ?_
    refine o_assign rfl rfl rfl (ev_str z_str28) ?_
    refine st_end ?_
    obtain rfl := Eq.symm h
    exact st_ret (gs' := []) Tryd.func117 rfl (List.Sublist.refl _) (Sto.Le.refl _) ⟨rfl, rfl⟩
  · replace h := (if_neg (ne_t hc)).mp h
    refine Z 3 rfl ?_
    refine o_assign rfl rfl rfl (ev_str z_str19) ?_
    refine Z 2 rfl ?_
    refine st_cut (fun ρ τ1 gs => ∃ (s1 : ByteArray), ref20_hex_j1 s1 r ∧ σ.Le τ1 ∧ ρ = [(2, .string (bstr [])), (3, .string s1)] ∧ gs = []) ?_ (fun hk1 => ?_)
    · rintro ρ1 τ1 gs1 ⟨s1, h, hl1, rfl, rfl⟩
      refine Z 5 rfl ?_
      obtain rfl := Eq.symm h
      exact st_ret (gs' := []) Tryd.func117 rfl (List.Sublist.refl _) hl1 ⟨rfl, rfl⟩
    refine Z 4 rfl ?_
    obtain ⟨e2, hL2, hA2⟩ := h
    refine st_env (ρ' := [(0, .string a0), (2, .string (bstr [])), (3, .string (bstr [])), (4, .int .i64 0)]) ⟨rfl, rfl, rfl, rfl, trivial⟩ ?_
    refine st_loop hL2 (fun (s2 : ByteArray × Int) ρ τ2 gs => σ.Le τ2 ∧ ρ = [(0, .string a0), (2, .string (bstr [])), (3, .string s2.1), (4, .int .i64 s2.2)] ∧ gs = []) ⟨Sto.Le.refl _, rfl, rfl⟩ ?_
    rintro s2 o2 h he2 ρ2 τ2 gs2 ⟨hl2, rfl, rfl⟩ hn2
    refine Z 8 rfl ?_
    refine st_cond rfl (fun hc => ?_) (fun hc => ?_)
    · replace h := (if_pos hc).mp h
      refine Z 3 rfl ?_
      obtain ⟨q3, hf4, r5, hr6, q9, hf10, r11, hr12, hf22, h⟩ := h
      refine st_draw 14 (tl [fun τ v => (.string s2.1 : Value) = v,
    fun τ v => (.string a0 : Value) = v,
    fun τ v => (.int .i64 s2.2 : Value) = v,
    fun τ v => (.int .u8 q3 : Value) = v,
    fun τ v => (.int .u8 (IntKind.u8.wrap (q3.tdiv 16)) : Value) = v,
    fun τ v => (.int .u8 r5 : Value) = v,
    fun τ v => (.string a0 : Value) = v,
    fun τ v => (.int .i64 s2.2 : Value) = v,
    fun τ v => (.int .u8 q9 : Value) = v,
    fun τ v => (.int .u8 (q9.tmod 16) : Value) = v,
    fun τ v => (.int .u8 r11 : Value) = v,
    fun τ v => ∃ (v15 : Value), (v15 : Value) = v ∧ Sl (kI .u8) τ v15 [r5, r11],
    fun τ v => (.string (bstr [r5, r11]) : Value) = v,
    fun τ v => (.string (s2.1 ++ (bstr [r5, r11])) : Value) = v]) (fun _ _ => []) z_mix rfl (tl_mono ⟨fun _ _ _ _ h => h, ⟨fun _ _ _ _ h => h, ⟨fun _ _ _ _ h => h, ⟨fun _ _ _ _ h => h, ⟨fun _ _ _ _ h => h, ⟨fun _ _ _ _ h => h, ⟨fun _ _ _ _ h => h, ⟨fun _ _ _ _ h => h, ⟨fun _ _ _ _ h => h, ⟨fun _ _ _ _ h => h, ⟨fun _ _ _ _ h => h, ⟨fun _ _ _ hl ⟨v15, hv, hs21⟩ => ⟨v15, hv, hs21.up hl⟩, ⟨fun _ _ _ _ h => h, ⟨fun _ _ _ _ h => h, trivial⟩⟩⟩⟩⟩⟩⟩⟩⟩⟩⟩⟩⟩⟩) (allB_cons (allB_cons (allB_cons (allB_cons (allB_cons (allB_cons (allB_cons (allB_cons (allB_cons (allB_cons (allB_cons (allB_cons (allB_cons (allB_cons allB_nil ?_) ?_) ?_) ?_) ?_) ?_) ?_) ?_) ?_) ?_) ?_) ?_) ?_) ?_) ?_
      · intro ρ' τ pool rs hl hd hout hk
        refine o_move rfl rfl rfl ((hout 3 rfl).trans rfl) ?_
        exact st_addNil (hk _ _ (Sto.Le.refl _) rfl)
      · intro ρ' τ pool rs hl hd hout hk
        refine o_move rfl rfl rfl ((hout 0 rfl).trans rfl) ?_
        exact st_addNil (hk _ _ (Sto.Le.refl _) rfl)
      · intro ρ' τ pool rs hl hd hout hk
        refine o_move rfl rfl rfl ((hout 4 rfl).trans rfl) ?_
        exact st_addNil (hk _ _ (Sto.Le.refl _) rfl)
      · intro ρ' τ pool rs hl hd hout hk
        obtain ⟨_, e1, rfl⟩ := hd 1 rfl
        obtain ⟨_, e2, rfl⟩ := hd 2 rfl
        refine o_indexS rfl rfl rfl Tryd.underlying9 e1 e2 hf4 ?_
        exact st_addNil (hk _ _ (Sto.Le.refl _) rfl)
      · intro ρ' τ pool rs hl hd hout hk
        obtain ⟨_, e3, rfl⟩ := hd 3 rfl
        refine o_quo rfl rfl rfl e3 rfl (by decide) ?_
        exact st_addNil (hk _ _ (Sto.Le.refl _) rfl)
      · intro ρ' τ pool rs hl hd hout hk
        obtain ⟨_, e4, rfl⟩ := hd 4 rfl
        refine st_call (foot := []) rfl rfl rfl rfl (evs_cons e4 rfl) rfl (callV_fn z_en152 (ref20_digit_ok hr6 τ)) ?_
        rintro vτ7 τ7 gsτ7 hl8 ⟨rfl, rfl⟩
        exact st_addNil (hk _ _ hl8 rfl)
      · intro ρ' τ pool rs hl hd hout hk
        refine o_move rfl rfl rfl ((hout 0 rfl).trans rfl) ?_
        exact st_addNil (hk _ _ (Sto.Le.refl _) rfl)
      · intro ρ' τ pool rs hl hd hout hk
        refine o_move rfl rfl rfl ((hout 4 rfl).trans rfl) ?_
        exact st_addNil (hk _ _ (Sto.Le.refl _) rfl)
      · intro ρ' τ pool rs hl hd hout hk
        obtain ⟨_, e6, rfl⟩ := hd 6 rfl
        obtain ⟨_, e7, rfl⟩ := hd 7 rfl
        refine o_indexS rfl rfl rfl Tryd.underlying9 e6 e7 hf10 ?_
        exact st_addNil (hk _ _ (Sto.Le.refl _) rfl)
      · intro ρ' τ pool rs hl hd hout hk
        obtain ⟨_, e8, rfl⟩ := hd 8 rfl
        refine o_rem rfl rfl rfl e8 rfl (by decide) ?_
        exact st_addNil (hk _ _ (Sto.Le.refl _) rfl)
      · intro ρ' τ pool rs hl hd hout hk
        obtain ⟨_, e9, rfl⟩ := hd 9 rfl
        refine st_call (foot := []) rfl rfl rfl rfl (evs_cons e9 rfl) rfl (callV_fn z_en152 (ref20_digit_ok hr12 τ)) ?_
        rintro vτ13 τ13 gsτ13 hl14 ⟨rfl, rfl⟩
        exact st_addNil (hk _ _ hl14 rfl)
      · intro ρ' τ pool rs hl hd hout hk
        obtain ⟨_, e5, rfl⟩ := hd 5 rfl
        obtain ⟨_, e10, rfl⟩ := hd 10 rfl
        refine o_lit (dk := (kI .u8)) (xs := [r5, r11]) (ps := [(0, [.int .u8 r5]), (1, [.int .u8 r11])]) (cs := [.int .u8 r5, .int .u8 r11]) rfl rfl rfl z_slT67 z_zero5 ⟨rfl, ⟨_, e5, rfl⟩, ⟨rfl, ⟨_, e10, rfl⟩, trivial⟩⟩ rfl rfl rfl rfl (Kd.Many.cons (d := (kI .u8)) (x := r5) (a := [.int .u8 r5]) rfl (Kd.Many.cons (d := (kI .u8)) (x := r11) (a := [.int .u8 r11]) rfl Kd.Many.nil)) (fun v15 g16 ho17 => ?_)
        refine st_freeze (fun τ18 hl19 hg20 => ?_)
        have hs21 := ho17.freeze hl19 hg20
        exact st_addNil (hk _ _ hl19 ⟨v15, rfl, hs21⟩)
      · intro ρ' τ pool rs hl hd hout hk
        obtain ⟨_, e11, v15, rfl, hs21⟩ := hd 11 rfl
        refine o_bstr (xs := [r5, r11]) rfl rfl rfl Tryd.underlying67 Tryd.underlying5 Tryd.underlying9 e11 hs21 ?_
        exact st_addNil (hk _ _ (Sto.Le.refl _) rfl)
      · intro ρ' τ pool rs hl hd hout hk
        obtain ⟨_, e0, rfl⟩ := hd 0 rfl
        obtain ⟨_, e12, rfl⟩ := hd 12 rfl
        refine o_sadd rfl rfl rfl e0 e12 hf22 ?_
        exact st_addNil (hk _ _ (Sto.Le.refl _) rfl)
      intro ρ' τ23 vals hl23 hv hout
      have l13 : Eng.look ρ' 26 = some (.string (s2.1 ++ (bstr [r5, r11]))) := ((hv 13 (by decide)).1).trans (congrArg some (show vals 13 = .string (s2.1 ++ (bstr [r5, r11])) from Eq.symm (hv 13 (by decide)).2))
      refine st_ord [] [] rfl ?_
      refine st_env (ρ' := [(26, .string (s2.1 ++ (bstr [r5, r11]))), (0, .string a0), (2, .string (bstr [])), (4, .int .i64 s2.2)]) ⟨l13, (hout 0 rfl).trans rfl, (hout 2 rfl).trans rfl, (hout 4 rfl).trans rfl, trivial⟩ ?_
      refine Z 8 rfl ?_
      refine st_env (ρ' := [(0, .string a0), (2, .string (bstr [])), (3, .string (s2.1 ++ (bstr [r5, r11]))), (4, .int .i64 (IntKind.i64.wrap (s2.2 + 1)))]) ⟨rfl, rfl, rfl, rfl, trivial⟩ ?_
      exact hn2 _ _ _ _ h ⟨(hl2.trans hl23), rfl, rfl⟩
    · replace h := (if_neg (ne_t hc)).mp h
      refine st_exit rfl ?_
      obtain rfl := he2 _ h
      replace h := hA2
      refine st_env (ρ' := [(2, .string (bstr [])), (3, .string s2.1)]) ⟨rfl, rfl, trivial⟩ ?_
      exact hk1 _ _ _ ⟨s2.1, h, hl2, rfl, rfl⟩
end Go.Rel
