import Derived.Test.YtonmgcebhhdplaaGreatURel
import Derived.Test.YtonmgcebhhdplaaGreatUFacts
/-! The walks. -/
set_option linter.unusedVariables false
set_option linter.unusedSimpArgs false
set_option maxRecDepth 4000
set_option maxHeartbeats 4000000
namespace Go.Rel
open Go Go.Eng Go.Proofs
theorem law17_Of_ok {a0 : TyM} {v1 : Value} {v2 : Value} {r : (TyR)} (h : law17_Of a0 r) (σ : Sto) (hs3 : Sl (kP (kI .i64) (kI .i64)) σ v1 a0.2.2.1) (hs4 : Sl (kI .i64) σ v2 a0.2.2.2.1) :
    Does Tryz.prog 20 [.agg (lM a0 v1 v2).toArray] σ [] (fun v τ gs => ∃ (v49 : Value) (v50 : Value), gs = [] ∧ .agg (lM r v49 v50).toArray = v ∧ Sl (kA .i64 2) τ v49 r.2.2.1 ∧ Sl (kI .i64) τ v50 r.2.2.2.1) := by
 refine call_of Tryz.func20 Tryz.ntmps20 rfl rfl (fun cs fs => ?_)
 refine Z 2 rfl ?_
 refine o_box (cs := (lM a0 v1 v2)) rfl rfl rfl rfl rfl (fun b5 => ?_)
 refine o_alloc rfl rfl rfl z_zero36 (fun b6 => ?_)
 refine ZZ 13 [1, 1, 1, 1, 1] rfl rfl ?_
 refine o_build (ps := [(0, [.I a0.1]), (1, [.I (a0.2.1.getD 0 0), .I (a0.2.1.getD 1 0), .I (a0.2.1.getD 2 0), .I (a0.2.1.getD 3 0), .I (a0.2.1.getD 4 0), .I (a0.2.1.getD 5 0)]), (3, [v2]), (4, [.string a0.t4.1]), (5, [.string a0.t4.2])]) (cs := (lM a0 .N0 v2)) rfl rfl rfl z_struct36 ⟨rfl, ⟨_, rfl, rfl⟩, ⟨rfl, ⟨_, rfl, rfl⟩, ⟨rfl, ⟨_, rfl, (oneL_sl hs4)⟩, ⟨rfl, ⟨_, rfl, rfl⟩, ⟨rfl, ⟨_, rfl, rfl⟩, trivial⟩⟩⟩⟩⟩ rfl ?_
 refine o_alloc rfl rfl rfl z_zero36 (fun b7 => ?_)
 refine o_store (j := 0) (vs := (lM a0 .N0 v2)) (cs' := (lM a0 .N0 v2)) rfl rfl rfl z_size36 rfl rfl rfl (ones_cons rfl (ones_cons rfl (ones_cons rfl (ones_cons rfl (ones_cons rfl (ones_cons rfl (ones_cons rfl (ones_cons rfl (ones_cons hs4.one' (ones_cons rfl (ones_cons rfl ones_nil))))))))))) rfl rfl rfl ?_
 refine Z 2 rfl ?_
 refine st_cut (fun ρ τ8 gs => ∃ (s8 : List (List Int)) (v9 : Value) (g10 : Grp), law17_Of_j1 a0 s8 r ∧ σ.Le τ8 ∧ ESub ρ [(2, .Pb b6), (3, .Pb b7)] ∧ gs = [[(b6, .cells lY.toArray 36 (0, 0))], [(b7, .cells (lM a0 v9 v2).toArray 36 (0, 0))], g10] ∧ Ow (kA .i64 2) 85 τ8 v9 s8 g10) ?_ (fun hk8 => ?_)
 ·rintro ρ8 τ8 gs8 ⟨s8, v9, g10, h, hl8, hρ, rfl, ho11⟩
  refine st_es hρ ?_
  refine ZZ 3 [1] rfl rfl ?_
  refine o_store (j := 0) (vs := (lM a0 v9 v2)) (cs' := (lM a0 v9 v2)) rfl rfl rfl z_size36 rfl rfl rfl (ones_cons rfl (ones_cons rfl (ones_cons rfl (ones_cons rfl (ones_cons rfl (ones_cons rfl (ones_cons rfl (ones_cons ho11.one' (ones_cons (hs4.up hl8).one' (ones_cons rfl (ones_cons rfl ones_nil))))))))))) rfl rfl rfl ?_
  refine st_end ?_
  refine st_ord [2, 0, 0] _ rfl ?_
  refine st_freeze (fun τ12 hl13 hg14 => ?_)
  have hs15 := ho11.freeze hl13 hg14
  obtain rfl := Eq.symm h
  exact st_retC (gs' := []) [.agg (lM a0 v9 v2).toArray] Tryz.func20 ⟨⟨_, _, _, _, rfl, mem_flat 0 rfl, fun w hw => cellOfN (vs := (lM a0 v9 v2)) z_agg36 rfl w hw⟩, trivial⟩ (by simp) (hl8.trans hl13) ⟨_, _, rfl, rfl, hs15, (hs4.up (hl8.trans hl13))⟩
 refine Z 4 rfl ?_
 obtain ⟨e18, hL18, hA18⟩ := h
 refine st_addNil ?_
 refine st_ord [3, 2, 1, 0] _ rfl ?_
 refine st_loop hL18 (fun (s18 : Int × List (List Int)) ρ τ18 gs => σ.Le τ18 ∧ ∃ (v19 : Value) (g20 : Grp), ESub ρ [(1, .Pb b5), (2, .Pb b6), (3, .Pb b7), (4, .I s18.1)] ∧ gs = [[(b5, .cells (lM a0 v1 v2).toArray 30 (0, 0))], [(b6, .cells lY.toArray 36 (0, 0))], [(b7, .cells (lM a0 v19 v2).toArray 36 (0, 0))], g20] ∧ Ow (kA .i64 2) 85 τ18 v19 s18.2 g20) ⟨Sto.Le.refl _, _, _, rfl, rfl, Ow.nil⟩ ?_
 rintro s18 o18 h he18 ρ18 τ18 gs18 ⟨hl18, v19, g20, hρ, rfl, ho21⟩ hn18
 refine st_es hρ ?_
 refine ZZ 6 [0] rfl rfl ?_
 refine o_lenI rfl rfl rfl z_slT27 rfl (hs3.up hl18) ?_
 refine Z 2 rfl ?_
 refine st_if rfl h (fun h => ?_) (fun h => ?_)
 ·refine Z 3 rfl ?_
  obtain ⟨q22, hf23, q27, hf28, hf42, hf43, h⟩ := h
  refine st_d41 [[(b5, .cells (lM a0 v1 v2).toArray 30 (0, 0))], [(b6, .cells lY.toArray 36 (0, 0))]] [[(b7, .cells (lM a0 v19 v2).toArray 36 (0, 0))], g20] 17 2 [none, some (0, 0), none, none, none, none, none, none, none, none, none, none, none, none, none, none, some (0, 1)] [none, none, none, none, none, none, none, none, none, none, none, none, none, none, none, none, none] [[none, some 24, some 39]] [.v (.pointer (some ⟨b7, 7, none⟩)), .v (v19), .v (.pointer (some ⟨b5, 7, none⟩)), .v (v1), .v (.I s18.1), .t fun τ v => ∃ (b24 : Nat) (of25 : Nat) (vsb24 : List Value), (.pointer (some ⟨b24, of25, none⟩) : Value) = v ∧ CelN τ ⟨b24, of25, none⟩ vsb24 ∧ (kP (kI .i64) (kI .i64)).rep τ vsb24 q22, .t fun τ v => ∃ (b24 : Nat) (of25 : Nat) (vsb24 : List Value), (.pointer (some ⟨b24, of25, none⟩) : Value) = v ∧ CelN τ ⟨b24, of25, none⟩ vsb24 ∧ (kP (kI .i64) (kI .i64)).rep τ vsb24 q22, .v (.I q22.1), .v (.pointer (some ⟨b5, 7, none⟩)), .v (v1), .v (.I s18.1), .t fun τ v => ∃ (b29 : Nat) (of30 : Nat) (vsb29 : List Value), (.pointer (some ⟨b29, of30, none⟩) : Value) = v ∧ CelN τ ⟨b29, of30, none⟩ vsb29 ∧ (kP (kI .i64) (kI .i64)).rep τ vsb29 q27, .t fun τ v => ∃ (b29 : Nat) (of30 : Nat) (vsb29 : List Value), (.pointer (some ⟨b29, of30 + 1, none⟩) : Value) = v ∧ CelN τ ⟨b29, of30, none⟩ vsb29 ∧ (kP (kI .i64) (kI .i64)).rep τ vsb29 q27, .v (.I q27.2), .v (.agg #[.I q22.1, .I q27.2]), .t fun τ v => ∃ (v32 : Value), (v32 : Value) = v ∧ Sl (kA .i64 2) τ v32 [[q22.1, q27.2]], .t fun _ _ => True] [[fun τ u F => F = [[(b7, .cells (lM a0 v19 v2).toArray 36 (0, 0))], g20], fun τ u F => F = [[(b7, .cells (lM a0 v19 v2).toArray 36 (0, 0))], g20], fun τ u F => ∃ (v44 : Value) (g45 : Grp), F = [g45, [(b7, .cells (lM a0 v19 v2).toArray 36 (0, 0))]] ∧ v44 = u ∧ Ow (kA .i64 2) 85 τ v44 (s18.2 ++ [[q22.1, q27.2]]) g45]] rfl z_mix rfl ⟨fun _ _ _ hl ⟨b24, of25, vsb24, hv, hc26, hrepb24⟩ => ⟨b24, of25, vsb24, hv, hc26.up hl, Kd.mono _ hl hrepb24⟩, ⟨fun _ _ _ hl ⟨b24, of25, vsb24, hv, hc26, hrepb24⟩ => ⟨b24, of25, vsb24, hv, hc26.up hl, Kd.mono _ hl hrepb24⟩, ⟨fun _ _ _ hl ⟨b29, of30, vsb29, hv, hc31, hrepb29⟩ => ⟨b29, of30, vsb29, hv, hc31.up hl, Kd.mono _ hl hrepb29⟩, ⟨fun _ _ _ hl ⟨b29, of30, vsb29, hv, hc31, hrepb29⟩ => ⟨b29, of30, vsb29, hv, hc31.up hl, Kd.mono _ hl hrepb29⟩, ⟨fun _ _ _ hl ⟨v32, hv, hs38⟩ => ⟨v32, hv, hs38.up hl⟩, ⟨fun _ _ _ _ _ => trivial, trivial⟩⟩⟩⟩⟩⟩ ⟨⟨fun _ _ _ _ hl h => h, ⟨fun _ _ _ _ hl h => h, ⟨fun _ _ _ _ hl h => (let ⟨v44, g45, hF, hU, ho46⟩ := h; ⟨v44, g45, hF, hU, ho46.up hl⟩), trivial⟩⟩⟩, trivial⟩ rfl rfl ?_ (allB_cons (allB_cons (allB_cons (allB_cons (allB_cons (allB_cons (allB_cons (allB_cons (allB_cons (allB_cons (allB_cons (allB_cons (allB_cons (allB_cons (allB_cons (allB_cons (allB_cons allB_nil (p4 dA)) ?_) (p4 dA)) ?_) (p4 dA)) ?_) ?_) ?_) (p4 dA)) ?_) (p4 dA)) ?_) ?_) ?_) ?_) ?_) ?_) ?_
  ·exact rfl
  ·intro ρ' τ u Fv pool rs hl hI hu hd hout hw hk
   obtain ⟨_, e0, rfl⟩ := hd 0 rfl _ rfl
   have hI0 := hI
   obtain rfl := hI
   refine o_load (j := 2) (v := v19) rfl rfl rfl z_sc34 e0 rfl rfl ?_
   exact hk _ _ [[(b7, .cells (lM a0 v19 v2).toArray 36 (0, 0))], g20] (Sto.Le.refl _) rfl (by exact hI0)
  ·intro ρ' τ pool rs hl hd hout hw hk
   obtain ⟨_, e2, rfl⟩ := hd 2 rfl _ rfl
   refine o_load (j := 0) (v := v1) rfl rfl rfl z_sc27 e2 rfl rfl ?_
   exact hk _ _ (Sto.Le.refl _) rfl
  ·intro ρ' τ pool rs hl hd hout hw hk
   obtain ⟨_, e3, rfl⟩ := hd 3 rfl _ rfl
   obtain ⟨_, e4, rfl⟩ := hd 4 rfl _ rfl
   refine o_index rfl rfl rfl z_slT27 rfl e3 (hs3.up (hl18.trans hl)) e4 hf23 (fun b24 of25 vsb24 hc26 hrepb24 => ?_)
   exact hk _ _ (Sto.Le.refl _) ⟨b24, of25, _, rfl, hc26, hrepb24⟩
  ·intro ρ' τ pool rs hl hd hout hw hk
   obtain ⟨_, e5, b24, of25, vsb24, rfl, hc26, hrepb24⟩ := hd 5 rfl _ rfl
   have hrepb24 := hrepb24
   obtain ⟨_, _, rfl, rfl, rfl⟩ := hrepb24
   refine o_fieldAddr rfl rfl rfl z_field84_0 e5 ?_
   exact hk _ _ (Sto.Le.refl _) ⟨b24, of25, _, rfl, hc26, hrepb24⟩
  ·intro ρ' τ pool rs hl hd hout hw hk
   obtain ⟨_, e6, b24, of25, vsb24, rfl, hc26, hrepb24⟩ := hd 6 rfl _ rfl
   have hrepb24 := hrepb24
   obtain ⟨_, _, rfl, rfl, rfl⟩ := hrepb24
   refine o_loadI (v := .I q22.1) rfl rfl rfl z_sc3 e6 (hc26 0 _ rfl) ?_
   exact hk _ _ (Sto.Le.refl _) rfl
  ·intro ρ' τ pool rs hl hd hout hw hk
   obtain ⟨_, e8, rfl⟩ := hd 8 rfl _ rfl
   refine o_load (j := 0) (v := v1) rfl rfl rfl z_sc27 e8 rfl rfl ?_
   exact hk _ _ (Sto.Le.refl _) rfl
  ·intro ρ' τ pool rs hl hd hout hw hk
   obtain ⟨_, e9, rfl⟩ := hd 9 rfl _ rfl
   obtain ⟨_, e10, rfl⟩ := hd 10 rfl _ rfl
   refine o_index rfl rfl rfl z_slT27 rfl e9 (hs3.up (hl18.trans hl)) e10 hf28 (fun b29 of30 vsb29 hc31 hrepb29 => ?_)
   exact hk _ _ (Sto.Le.refl _) ⟨b29, of30, _, rfl, hc31, hrepb29⟩
  ·intro ρ' τ pool rs hl hd hout hw hk
   obtain ⟨_, e11, b29, of30, vsb29, rfl, hc31, hrepb29⟩ := hd 11 rfl _ rfl
   have hrepb29 := hrepb29
   obtain ⟨_, _, rfl, rfl, rfl⟩ := hrepb29
   refine o_fieldAddr rfl rfl rfl z_field84_1 e11 ?_
   exact hk _ _ (Sto.Le.refl _) ⟨b29, of30, _, rfl, hc31, hrepb29⟩
  ·intro ρ' τ pool rs hl hd hout hw hk
   obtain ⟨_, e12, b29, of30, vsb29, rfl, hc31, hrepb29⟩ := hd 12 rfl _ rfl
   have hrepb29 := hrepb29
   obtain ⟨_, _, rfl, rfl, rfl⟩ := hrepb29
   refine o_loadI (v := .I q27.2) rfl rfl rfl z_sc3 e12 (hc31 1 _ rfl) ?_
   exact hk _ _ (Sto.Le.refl _) rfl
  ·intro ρ' τ pool rs hl hd hout hw hk
   obtain ⟨_, e7, rfl⟩ := hd 7 rfl _ rfl
   obtain ⟨_, e13, rfl⟩ := hd 13 rfl _ rfl
   refine o_buildA (ps := [(0, [.I q22.1]), (1, [.I q27.2])]) (cs := [.I q22.1, .I q27.2]) rfl rfl rfl z_arrz85 ⟨rfl, ⟨_, e7, rfl⟩, ⟨rfl, ⟨_, e13, rfl⟩, trivial⟩⟩ (fill_all [.I q22.1, .I q27.2] _ rfl) ?_
   exact hk _ _ (Sto.Le.refl _) rfl
  ·intro ρ' τ pool rs hl hd hout hw hk
   obtain ⟨_, e14, rfl⟩ := hd 14 rfl _ rfl
   refine o_litE (eA .i64 2) [[q22.1, q27.2]] rfl rfl rfl z_slT34 z_zero85 ⟨rfl, ⟨_, e14, rfl⟩, trivial⟩ rfl rfl rfl rfl (fun v32 g33 ho34 => ?_)
   refine st_freeze (fun τ35 hl36 hg37 => ?_)
   have hs38 := ho34.freeze hl36 hg37
   exact hk _ _ hl36 ⟨v32, rfl, hs38⟩
  ·intro ρ' τ u Fv pool rs hl hI hu hd hout hw hk
   obtain ⟨_, e1, rfl⟩ := hd 1 rfl _ rfl
   obtain ⟨_, e15, v32, rfl, hs38⟩ := hd 15 rfl _ rfl
   have hI0 := hI
   obtain rfl := hI
   refine st_ord [3, 0, 0, 0, 0] _ rfl ?_
   refine o_append (dk := (kA .i64 2)) (xs := s18.2) (ys := [[q22.1, q27.2]]) rfl rfl rfl rfl z_slT34 e1 (ho21.up hl) e15 (Sl.src hs38) hf42 hf43 (fun v39 g40 ho41 => ?_)
   refine st_ord [1, 1, 0, 0, 0] _ rfl ?_
   exact hk _ _ [g40, [(b7, .cells (lM a0 v19 v2).toArray 36 (0, 0))]] (Sto.Le.refl _) trivial (by exact ⟨v39, g40, rfl, rfl, ho41⟩)
  intro ρ' τ47 vals u Fv hl47 hI hu hv hout
  obtain ⟨v44, g45, rfl, rfl, ho46⟩ := hI
  refine st_env (ρ' := [(1, .Pb b5), (2, .Pb b6), (3, .Pb b7), (4, .I s18.1), (39, v44)]) ⟨(hout 1 rfl).trans rfl, (hout 2 rfl).trans rfl, (hout 3 rfl).trans rfl, (hout 4 rfl).trans rfl, (by exact hu _ rfl), trivial⟩ ?_
  refine o_fieldAddr rfl rfl rfl z_field36_2 rfl ?_
  refine o_store (j := 3) (vs := [v44]) (cs' := (lM a0 v44 v2)) rfl rfl rfl z_size34 rfl rfl (oneL_ow ho46) (ones_cons ho46.one' ones_nil) rfl rfl rfl ?_
  refine Z 7 rfl ?_
  refine st_ord [0, 0, 1, 0] _ rfl ?_
  exact hn18 _ _ _ _ h ⟨(hl18.trans hl47), _, _, rfl, rfl, ho46⟩
 ·refine st_exit rfl ?_
  obtain rfl := he18 _ h
  replace h := hA18
  refine st_ord [1, 1, 1] _ rfl ?_
  exact hk8 _ _ _ ⟨s18.2, _, _, h, hl18, rfl, rfl, ho21⟩
theorem law23_Of_ok {a0 : Int × Int × Int × Int × (TyM)} {v1 : Value} {v2 : Value} {r : (Int × Int × Int × Int × (TyR))} (h : law23_Of a0 r) (σ : Sto) (hs3 : Sl (kP (kI .i64) (kI .i64)) σ v1 a0.t4.2.2.1) (hs4 : Sl (kI .i64) σ v2 a0.t4.2.2.2.1) :
    Does Tryz.prog 6 [.agg [.I a0.1, .int .u32 a0.2.1, .I a0.2.2.1, .I a0.2.2.2.1, .I a0.t4.1, .I (a0.t4.2.1.getD 0 0), .I (a0.t4.2.1.getD 1 0), .I (a0.t4.2.1.getD 2 0), .I (a0.t4.2.1.getD 3 0), .I (a0.t4.2.1.getD 4 0), .I (a0.t4.2.1.getD 5 0), v1, v2, .string a0.t4.t4.1, .string a0.t4.t4.2].toArray] σ [] (fun v τ gs => ∃ (v16 : Value) (v17 : Value), gs = [] ∧ .agg [.I r.1, .int .u32 r.2.1, .I r.2.2.1, .I r.2.2.2.1, .I r.t4.1, .I (r.t4.2.1.getD 0 0), .I (r.t4.2.1.getD 1 0), .I (r.t4.2.1.getD 2 0), .I (r.t4.2.1.getD 3 0), .I (r.t4.2.1.getD 4 0), .I (r.t4.2.1.getD 5 0), v16, v17, .string r.t4.t4.1, .string r.t4.t4.2].toArray = v ∧ Sl (kA .i64 2) τ v16 r.t4.2.2.1 ∧ Sl (kI .i64) τ v17 r.t4.2.2.2.1) := by
 refine call_of Tryz.func6 Tryz.ntmps6 rfl rfl (fun cs fs => ?_)
 refine Z 2 rfl ?_
 refine o_box (cs := [.I a0.1, .int .u32 a0.2.1, .I a0.2.2.1, .I a0.2.2.2.1, .I a0.t4.1, .I (a0.t4.2.1.getD 0 0), .I (a0.t4.2.1.getD 1 0), .I (a0.t4.2.1.getD 2 0), .I (a0.t4.2.1.getD 3 0), .I (a0.t4.2.1.getD 4 0), .I (a0.t4.2.1.getD 5 0), v1, v2, .string a0.t4.t4.1, .string a0.t4.t4.2]) rfl rfl rfl rfl rfl (fun b5 => ?_)
 refine o_alloc rfl rfl rfl z_zero38 (fun b6 => ?_)
 refine Z 2 rfl ?_
 obtain ⟨r7, hr8, h⟩ := h
 refine st_draw 12 (dl [.v (.Pb b5), .v (.I a0.1), .v (.pointer (some ⟨b5, 1, none⟩)), .v (.int .u32 a0.2.1), .v (.pointer (some ⟨b5, 2, none⟩)), .v (.I a0.2.2.1), .v (.pointer (some ⟨b5, 3, none⟩)), .v (.I a0.2.2.2.1), .v (.pointer (some ⟨b5, 4, none⟩)), .v (.agg (lM a0.t4 v1 v2).toArray), .t fun τ v => ∃ (v11 : Value) (v12 : Value), (.agg (lM r7 v11 v12).toArray : Value) = v ∧ Sl (kA .i64 2) τ v11 r7.2.2.1 ∧ Sl (kI .i64) τ v12 r7.2.2.2.1, .t fun τ v => ∃ (v11 : Value) (v12 : Value), (.agg #[.I a0.1, .int .u32 a0.2.1, .I a0.2.2.1, .I a0.2.2.2.1, .I r7.1, .I (r7.2.1.getD 0 0), .I (r7.2.1.getD 1 0), .I (r7.2.1.getD 2 0), .I (r7.2.1.getD 3 0), .I (r7.2.1.getD 4 0), .I (r7.2.1.getD 5 0), v11, v12, .string r7.t4.1, .string r7.t4.2] : Value) = v ∧ Sl (kA .i64 2) τ v11 r7.2.2.1 ∧ Sl (kI .i64) τ v12 r7.2.2.2.1]) (fun _ _ => []) z_mix rfl (dl_mono ⟨fun _ _ _ hl ⟨v11, v12, hv, hs13, hs14⟩ => ⟨v11, v12, hv, hs13.up hl, hs14.up hl⟩, ⟨fun _ _ _ hl ⟨v11, v12, hv, hs13, hs14⟩ => ⟨v11, v12, hv, hs13.up hl, hs14.up hl⟩, trivial⟩⟩) (allB_cons (allB_cons (allB_cons (allB_cons (allB_cons (allB_cons (allB_cons (allB_cons (allB_cons (allB_cons (allB_cons (allB_cons allB_nil (p1 dA)) ?_) (p1 dA)) ?_) (p1 dA)) ?_) (p1 dA)) ?_) (p1 dA)) ?_) ?_) ?_) ?_
 ·intro ρ' τ pool rs hl hd hout hk
  obtain ⟨_, e0, rfl⟩ := hd 0 rfl
  refine o_load (j := 1) (v := .I a0.1) rfl rfl rfl z_sc3 e0 rfl rfl ?_
  exact st_addNil (hk _ _ (Sto.Le.refl _) rfl)
 ·intro ρ' τ pool rs hl hd hout hk
  obtain ⟨_, e2, rfl⟩ := hd 2 rfl
  refine o_load (j := 1) (v := .int .u32 a0.2.1) rfl rfl rfl z_sc24 e2 rfl rfl ?_
  exact st_addNil (hk _ _ (Sto.Le.refl _) rfl)
 ·intro ρ' τ pool rs hl hd hout hk
  obtain ⟨_, e4, rfl⟩ := hd 4 rfl
  refine o_load (j := 1) (v := .I a0.2.2.1) rfl rfl rfl z_sc3 e4 rfl rfl ?_
  exact st_addNil (hk _ _ (Sto.Le.refl _) rfl)
 ·intro ρ' τ pool rs hl hd hout hk
  obtain ⟨_, e6, rfl⟩ := hd 6 rfl
  refine o_load (j := 1) (v := .I a0.2.2.2.1) rfl rfl rfl z_sc25 e6 rfl rfl ?_
  exact st_addNil (hk _ _ (Sto.Le.refl _) rfl)
 ·intro ρ' τ pool rs hl hd hout hk
  obtain ⟨_, e8, rfl⟩ := hd 8 rfl
  refine o_loadN (j := 1) (vs := (lM a0.t4 v1 v2)) rfl rfl rfl z_agg30 e8 rfl rfl ?_
  exact st_addNil (hk _ _ (Sto.Le.refl _) rfl)
 ·intro ρ' τ pool rs hl hd hout hk
  obtain ⟨_, e9, rfl⟩ := hd 9 rfl
  refine st_call (foot := []) rfl rfl rfl rfl (evs_cons e9 rfl) rfl (callV_fn z_en20 (law17_Of_ok hr8 τ (hs3.up hl) (hs4.up hl))) ?_
  rintro vτ9 τ9 gsτ9 hl10 ⟨v11, v12, rfl, rfl, hs13, hs14⟩
  exact st_addNil (hk _ _ hl10 ⟨v11, v12, rfl, hs13, hs14⟩)
 ·intro ρ' τ pool rs hl hd hout hk
  obtain ⟨_, e1, rfl⟩ := hd 1 rfl
  obtain ⟨_, e3, rfl⟩ := hd 3 rfl
  obtain ⟨_, e5, rfl⟩ := hd 5 rfl
  obtain ⟨_, e7, rfl⟩ := hd 7 rfl
  obtain ⟨_, e10, v11, v12, rfl, hs13, hs14⟩ := hd 10 rfl
  refine o_build (ps := [(0, [.I a0.1]), (1, [.int .u32 a0.2.1]), (2, [.I a0.2.2.1]), (3, [.I a0.2.2.2.1]), (4, (lM r7 v11 v12))]) (cs := [.I a0.1, .int .u32 a0.2.1, .I a0.2.2.1, .I a0.2.2.2.1, .I r7.1, .I (r7.2.1.getD 0 0), .I (r7.2.1.getD 1 0), .I (r7.2.1.getD 2 0), .I (r7.2.1.getD 3 0), .I (r7.2.1.getD 4 0), .I (r7.2.1.getD 5 0), v11, v12, .string r7.t4.1, .string r7.t4.2]) rfl rfl rfl z_struct38 ⟨rfl, ⟨_, e1, rfl⟩, ⟨rfl, ⟨_, e3, rfl⟩, ⟨rfl, ⟨_, e5, rfl⟩, ⟨rfl, ⟨_, e7, rfl⟩, ⟨rfl, ⟨_, e10, rfl⟩, trivial⟩⟩⟩⟩⟩ rfl ?_
  exact st_addNil (hk _ _ (Sto.Le.refl _) ⟨v11, v12, rfl, hs13, hs14⟩)
 intro ρ' τ15 vals hl15 hv hout
 obtain ⟨l11, v11, v12, t11, hs13, hs14⟩ := hv 11 (by decide)
 replace l11 : Eng.look ρ' 14 = some (.agg #[.I a0.1, .int .u32 a0.2.1, .I a0.2.2.1, .I a0.2.2.2.1, .I r7.1, .I (r7.2.1.getD 0 0), .I (r7.2.1.getD 1 0), .I (r7.2.1.getD 2 0), .I (r7.2.1.getD 3 0), .I (r7.2.1.getD 4 0), .I (r7.2.1.getD 5 0), v11, v12, .string r7.t4.1, .string r7.t4.2]) := l11.trans (congrArg some (Eq.symm t11))
 refine st_ord [0, 0] _ rfl ?_
 refine st_env (ρ' := [(14, .agg #[.I a0.1, .int .u32 a0.2.1, .I a0.2.2.1, .I a0.2.2.2.1, .I r7.1, .I (r7.2.1.getD 0 0), .I (r7.2.1.getD 1 0), .I (r7.2.1.getD 2 0), .I (r7.2.1.getD 3 0), .I (r7.2.1.getD 4 0), .I (r7.2.1.getD 5 0), v11, v12, .string r7.t4.1, .string r7.t4.2]), (2, .Pb b6)]) ⟨l11, (hout 2 rfl).trans rfl, trivial⟩ ?_
 refine o_store (j := 0) (vs := [.I a0.1, .int .u32 a0.2.1, .I a0.2.2.1, .I a0.2.2.2.1, .I r7.1, .I (r7.2.1.getD 0 0), .I (r7.2.1.getD 1 0), .I (r7.2.1.getD 2 0), .I (r7.2.1.getD 3 0), .I (r7.2.1.getD 4 0), .I (r7.2.1.getD 5 0), v11, v12, .string r7.t4.1, .string r7.t4.2]) (cs' := [.I a0.1, .int .u32 a0.2.1, .I a0.2.2.1, .I a0.2.2.2.1, .I r7.1, .I (r7.2.1.getD 0 0), .I (r7.2.1.getD 1 0), .I (r7.2.1.getD 2 0), .I (r7.2.1.getD 3 0), .I (r7.2.1.getD 4 0), .I (r7.2.1.getD 5 0), v11, v12, .string r7.t4.1, .string r7.t4.2]) rfl rfl rfl z_size38 rfl rfl rfl (ones_cons rfl (ones_cons rfl (ones_cons rfl (ones_cons rfl (ones_cons rfl (ones_cons rfl (ones_cons rfl (ones_cons rfl (ones_cons rfl (ones_cons rfl (ones_cons rfl (ones_cons hs13.one' (ones_cons hs14.one' (ones_cons rfl (ones_cons rfl ones_nil))))))))))))))) rfl rfl rfl ?_
 refine st_end ?_
 obtain rfl := Eq.symm h
 exact st_retC (gs' := []) [.agg #[.I a0.1, .int .u32 a0.2.1, .I a0.2.2.1, .I a0.2.2.2.1, .I r7.1, .I (r7.2.1.getD 0 0), .I (r7.2.1.getD 1 0), .I (r7.2.1.getD 2 0), .I (r7.2.1.getD 3 0), .I (r7.2.1.getD 4 0), .I (r7.2.1.getD 5 0), v11, v12, .string r7.t4.1, .string r7.t4.2]] Tryz.func6 ⟨⟨_, _, _, _, rfl, mem_flat 0 rfl, fun w hw => cellOfN (vs := [.I a0.1, .int .u32 a0.2.1, .I a0.2.2.1, .I a0.2.2.2.1, .I r7.1, .I (r7.2.1.getD 0 0), .I (r7.2.1.getD 1 0), .I (r7.2.1.getD 2 0), .I (r7.2.1.getD 3 0), .I (r7.2.1.getD 4 0), .I (r7.2.1.getD 5 0), v11, v12, .string r7.t4.1, .string r7.t4.2]) z_agg38 rfl w hw⟩, trivial⟩ (by simp) hl15 ⟨_, _, rfl, rfl, hs13, hs14⟩
theorem field_robot_ok  {r : (TyA)} (h : field_robot r) (σ : Sto)  :
    Does Tryz.prog 66 [] σ [] (fun v τ gs => gs = [] ∧ .agg (lA r).toArray = v) := by
 refine call_of Tryz.func66 Tryz.ntmps66 rfl rfl (fun cs fs => ?_)
 refine Z 2 rfl ?_
 refine o_alloc rfl rfl rfl z_zero89 (fun b1 => ?_)
 refine Z 3 rfl ?_
 refine o_build (ps := [(0, [.string (bstr [114, 111, 98, 111, 116])]), (1, [.I 1]), (2, [.I 0]), (3, [.I 0]), (4, [.I 65535]), (5, [.I 1]), (6, [.I 0])]) (cs := [.string (bstr [114, 111, 98, 111, 116]), .I 1, .I 0, .I 0, .I 65535, .I 1, .I 0]) rfl rfl rfl z_struct89 ⟨rfl, ⟨_, (ev_str z_str0), rfl⟩, ⟨rfl, ⟨_, rfl, rfl⟩, ⟨rfl, ⟨_, rfl, rfl⟩, ⟨rfl, ⟨_, rfl, rfl⟩, ⟨rfl, ⟨_, rfl, rfl⟩, ⟨rfl, ⟨_, rfl, rfl⟩, ⟨rfl, ⟨_, rfl, rfl⟩, trivial⟩⟩⟩⟩⟩⟩⟩ rfl ?_
 refine ZZ 2 [0] rfl rfl ?_
 obtain rfl := Eq.symm h
 exact st_retC (gs' := []) [.agg #[.string (bstr [114, 111, 98, 111, 116]), .I 1, .I 0, .I 0, .I 65535, .I 1, .I 0]] Tryz.func66 ⟨⟨_, _, _, _, rfl, mem_flat 0 rfl, fun w hw => cellOfN (vs := [.string (bstr [114, 111, 98, 111, 116]), .I 1, .I 0, .I 0, .I 65535, .I 1, .I 0]) z_agg89 rfl w hw⟩, trivial⟩ (by simp) (Sto.Le.refl _) ⟨rfl, rfl⟩
theorem field_Of_ok {a0 : Int} {r : (List (TyA))} (h : field_Of a0 r) (σ : Sto)  :
    Does Tryz.prog 40 [.I a0] σ [] (fun v τ gs => ∃ (v61 : Value), gs = [] ∧ v61 = v ∧ Sl (kP kS (kP (kI .i64) (kP (kI .i64) (kP (kI .i64) (kP (kI .i64) (kP (kI .i64) (kI .i64))))))) τ v61 r) := by
 refine call_of Tryz.func40 Tryz.ntmps40 rfl rfl (fun cs fs => ?_)
 refine Z 15 rfl ?_
 refine st_if rfl h (fun h => ?_) (fun h => ?_)
 ·refine Z 2 rfl ?_
  obtain ⟨r1, hr2, h⟩ := h
  refine st_call (foot := []) rfl rfl rfl rfl rfl rfl (callV_fn z_en66 (field_robot_ok hr2 σ)) ?_
  rintro vτ3 τ3 gsτ3 hl4 ⟨rfl, rfl⟩
  refine o_build (ps := [(0, [.string (bstr [115, 112, 101, 101, 100])]), (1, [.I 1]), (2, [.I 1]), (3, [.I 1]), (4, [.I 5000]), (5, [.I 1]), (6, [.I 0])]) (cs := [.string (bstr [115, 112, 101, 101, 100]), .I 1, .I 1, .I 1, .I 5000, .I 1, .I 0]) rfl rfl rfl z_struct89 ⟨rfl, ⟨_, (ev_str z_str1), rfl⟩, ⟨rfl, ⟨_, rfl, rfl⟩, ⟨rfl, ⟨_, rfl, rfl⟩, ⟨rfl, ⟨_, rfl, rfl⟩, ⟨rfl, ⟨_, rfl, rfl⟩, ⟨rfl, ⟨_, rfl, rfl⟩, ⟨rfl, ⟨_, rfl, rfl⟩, trivial⟩⟩⟩⟩⟩⟩⟩ rfl ?_
  refine o_build (ps := [(0, [.string (bstr [97, 99, 99, 101, 108])]), (1, [.I 1]), (2, [.I 2]), (3, [.I 1]), (4, [.I 10000]), (5, [.I 2]), (6, [.I 500])]) (cs := [.string (bstr [97, 99, 99, 101, 108]), .I 1, .I 2, .I 1, .I 10000, .I 2, .I 500]) rfl rfl rfl z_struct89 ⟨rfl, ⟨_, (ev_str z_str2), rfl⟩, ⟨rfl, ⟨_, rfl, rfl⟩, ⟨rfl, ⟨_, rfl, rfl⟩, ⟨rfl, ⟨_, rfl, rfl⟩, ⟨rfl, ⟨_, rfl, rfl⟩, ⟨rfl, ⟨_, rfl, rfl⟩, ⟨rfl, ⟨_, rfl, rfl⟩, trivial⟩⟩⟩⟩⟩⟩⟩ rfl ?_
  refine o_build (ps := [(0, [.string (bstr [112, 97, 116, 104])]), (1, [.I 3]), (2, [.I (-1)]), (3, [.I 1]), (4, [.I 16]), (5, [.I 1]), (6, [.I 0])]) (cs := [.string (bstr [112, 97, 116, 104]), .I 3, .I (-1), .I 1, .I 16, .I 1, .I 0]) rfl rfl rfl z_struct89 ⟨rfl, ⟨_, (ev_str z_str3), rfl⟩, ⟨rfl, ⟨_, rfl, rfl⟩, ⟨rfl, ⟨_, rfl, rfl⟩, ⟨rfl, ⟨_, rfl, rfl⟩, ⟨rfl, ⟨_, rfl, rfl⟩, ⟨rfl, ⟨_, rfl, rfl⟩, ⟨rfl, ⟨_, rfl, rfl⟩, trivial⟩⟩⟩⟩⟩⟩⟩ rfl ?_
  refine o_build (ps := [(0, [.string (bstr [116, 97, 103])]), (1, [.I 6]), (2, [.I (-1)]), (3, [.I 0]), (4, [.I 16]), (5, [.I 2]), (6, [.I 0])]) (cs := [.string (bstr [116, 97, 103]), .I 6, .I (-1), .I 0, .I 16, .I 2, .I 0]) rfl rfl rfl z_struct89 ⟨rfl, ⟨_, (ev_str z_str4), rfl⟩, ⟨rfl, ⟨_, rfl, rfl⟩, ⟨rfl, ⟨_, rfl, rfl⟩, ⟨rfl, ⟨_, rfl, rfl⟩, ⟨rfl, ⟨_, rfl, rfl⟩, ⟨rfl, ⟨_, rfl, rfl⟩, ⟨rfl, ⟨_, rfl, rfl⟩, trivial⟩⟩⟩⟩⟩⟩⟩ rfl ?_
  refine o_litE (eP eS (eP (eI .i64) (eP (eI .i64) (eP (eI .i64) (eP (eI .i64) (eP (eI .i64) (eI .i64))))))) [r1, ((bstr [115, 112, 101, 101, 100]), 1, 1, 1, 5000, 1, 0), ((bstr [97, 99, 99, 101, 108]), 1, 2, 1, 10000, 2, 500), ((bstr [112, 97, 116, 104]), 3, (-1), 1, 16, 1, 0), ((bstr [116, 97, 103]), 6, (-1), 0, 16, 2, 0)] rfl rfl rfl z_slT86 z_zero89 ⟨rfl, ⟨_, rfl, rfl⟩, ⟨rfl, ⟨_, rfl, rfl⟩, ⟨rfl, ⟨_, rfl, rfl⟩, ⟨rfl, ⟨_, rfl, rfl⟩, ⟨rfl, ⟨_, rfl, rfl⟩, trivial⟩⟩⟩⟩⟩ rfl rfl rfl rfl (fun v5 g6 ho7 => ?_)
  refine Z 2 rfl ?_
  refine st_freeze (fun τ8 hl9 hg10 => ?_)
  have hs11 := ho7.freeze hl9 hg10
  obtain rfl := Eq.symm h
  exact st_ret (gs' := []) Tryz.func40 rfl (List.Sublist.refl _) (hl4.trans hl9) ⟨_, rfl, rfl, hs11⟩
 ·refine Z 5 rfl ?_
  refine st_if rfl h (fun h => ?_) (fun h => ?_)
  ·refine Z 2 rfl ?_
   obtain ⟨r13, hr14, h⟩ := h
   refine st_call (foot := []) rfl rfl rfl rfl rfl rfl (callV_fn z_en66 (field_robot_ok hr14 σ)) ?_
   rintro vτ15 τ15 gsτ15 hl16 ⟨rfl, rfl⟩
   refine o_build (ps := [(0, [.string (bstr [114, 101, 97, 115, 111, 110])]), (1, [.I 1]), (2, [.I 1]), (3, [.I 0]), (4, [.I 15]), (5, [.I 1]), (6, [.I 0])]) (cs := [.string (bstr [114, 101, 97, 115, 111, 110]), .I 1, .I 1, .I 0, .I 15, .I 1, .I 0]) rfl rfl rfl z_struct89 ⟨rfl, ⟨_, (ev_str z_str5), rfl⟩, ⟨rfl, ⟨_, rfl, rfl⟩, ⟨rfl, ⟨_, rfl, rfl⟩, ⟨rfl, ⟨_, rfl, rfl⟩, ⟨rfl, ⟨_, rfl, rfl⟩, ⟨rfl, ⟨_, rfl, rfl⟩, ⟨rfl, ⟨_, rfl, rfl⟩, trivial⟩⟩⟩⟩⟩⟩⟩ rfl ?_
   refine o_build (ps := [(0, [.string (bstr [122, 111, 110, 101])]), (1, [.I 1]), (2, [.I 2]), (3, [.I 0]), (4, [.I 4095]), (5, [.I 2]), (6, [.I 0])]) (cs := [.string (bstr [122, 111, 110, 101]), .I 1, .I 2, .I 0, .I 4095, .I 2, .I 0]) rfl rfl rfl z_struct89 ⟨rfl, ⟨_, (ev_str z_str6), rfl⟩, ⟨rfl, ⟨_, rfl, rfl⟩, ⟨rfl, ⟨_, rfl, rfl⟩, ⟨rfl, ⟨_, rfl, rfl⟩, ⟨rfl, ⟨_, rfl, rfl⟩, ⟨rfl, ⟨_, rfl, rfl⟩, ⟨rfl, ⟨_, rfl, rfl⟩, trivial⟩⟩⟩⟩⟩⟩⟩ rfl ?_
   refine o_litE (eP eS (eP (eI .i64) (eP (eI .i64) (eP (eI .i64) (eP (eI .i64) (eP (eI .i64) (eI .i64))))))) [r13, ((bstr [114, 101, 97, 115, 111, 110]), 1, 1, 0, 15, 1, 0), ((bstr [122, 111, 110, 101]), 1, 2, 0, 4095, 2, 0)] rfl rfl rfl z_slT86 z_zero89 ⟨rfl, ⟨_, rfl, rfl⟩, ⟨rfl, ⟨_, rfl, rfl⟩, ⟨rfl, ⟨_, rfl, rfl⟩, trivial⟩⟩⟩ rfl rfl rfl rfl (fun v17 g18 ho19 => ?_)
   refine Z 2 rfl ?_
   refine st_freeze (fun τ20 hl21 hg22 => ?_)
   have hs23 := ho19.freeze hl21 hg22
   obtain rfl := Eq.symm h
   exact st_ret (gs' := []) Tryz.func40 rfl (List.Sublist.refl _) (hl16.trans hl21) ⟨_, rfl, rfl, hs23⟩
  ·refine Z 5 rfl ?_
   refine st_if rfl h (fun h => ?_) (fun h => ?_)
   ·refine Z 2 rfl ?_
    obtain ⟨r25, hr26, h⟩ := h
    refine st_call (foot := []) rfl rfl rfl rfl rfl rfl (callV_fn z_en66 (field_robot_ok hr26 σ)) ?_
    rintro vτ27 τ27 gsτ27 hl28 ⟨rfl, rfl⟩
    refine o_build (ps := [(0, [.string (bstr [122, 111, 110, 101])]), (1, [.I 1]), (2, [.I 1]), (3, [.I 0]), (4, [.I 4095]), (5, [.I 1]), (6, [.I 0])]) (cs := [.string (bstr [122, 111, 110, 101]), .I 1, .I 1, .I 0, .I 4095, .I 1, .I 0]) rfl rfl rfl z_struct89 ⟨rfl, ⟨_, (ev_str z_str6), rfl⟩, ⟨rfl, ⟨_, rfl, rfl⟩, ⟨rfl, ⟨_, rfl, rfl⟩, ⟨rfl, ⟨_, rfl, rfl⟩, ⟨rfl, ⟨_, rfl, rfl⟩, ⟨rfl, ⟨_, rfl, rfl⟩, ⟨rfl, ⟨_, rfl, rfl⟩, trivial⟩⟩⟩⟩⟩⟩⟩ rfl ?_
    refine o_build (ps := [(0, [.string (bstr [108, 101, 97, 115, 101])]), (1, [.I 1]), (2, [.I 2]), (3, [.I 1]), (4, [.I 255]), (5, [.I 2]), (6, [.I 1])]) (cs := [.string (bstr [108, 101, 97, 115, 101]), .I 1, .I 2, .I 1, .I 255, .I 2, .I 1]) rfl rfl rfl z_struct89 ⟨rfl, ⟨_, (ev_str z_str7), rfl⟩, ⟨rfl, ⟨_, rfl, rfl⟩, ⟨rfl, ⟨_, rfl, rfl⟩, ⟨rfl, ⟨_, rfl, rfl⟩, ⟨rfl, ⟨_, rfl, rfl⟩, ⟨rfl, ⟨_, rfl, rfl⟩, ⟨rfl, ⟨_, rfl, rfl⟩, trivial⟩⟩⟩⟩⟩⟩⟩ rfl ?_
    refine o_build (ps := [(0, [.string (bstr [99, 101, 108, 108, 115])]), (1, [.I 4]), (2, [.I (-1)]), (3, [.I 1]), (4, [.I 32]), (5, [.I 1]), (6, [.I 0])]) (cs := [.string (bstr [99, 101, 108, 108, 115]), .I 4, .I (-1), .I 1, .I 32, .I 1, .I 0]) rfl rfl rfl z_struct89 ⟨rfl, ⟨_, (ev_str z_str8), rfl⟩, ⟨rfl, ⟨_, rfl, rfl⟩, ⟨rfl, ⟨_, rfl, rfl⟩, ⟨rfl, ⟨_, rfl, rfl⟩, ⟨rfl, ⟨_, rfl, rfl⟩, ⟨rfl, ⟨_, rfl, rfl⟩, ⟨rfl, ⟨_, rfl, rfl⟩, trivial⟩⟩⟩⟩⟩⟩⟩ rfl ?_
    refine o_litE (eP eS (eP (eI .i64) (eP (eI .i64) (eP (eI .i64) (eP (eI .i64) (eP (eI .i64) (eI .i64))))))) [r25, ((bstr [122, 111, 110, 101]), 1, 1, 0, 4095, 1, 0), ((bstr [108, 101, 97, 115, 101]), 1, 2, 1, 255, 2, 1), ((bstr [99, 101, 108, 108, 115]), 4, (-1), 1, 32, 1, 0)] rfl rfl rfl z_slT86 z_zero89 ⟨rfl, ⟨_, rfl, rfl⟩, ⟨rfl, ⟨_, rfl, rfl⟩, ⟨rfl, ⟨_, rfl, rfl⟩, ⟨rfl, ⟨_, rfl, rfl⟩, trivial⟩⟩⟩⟩ rfl rfl rfl rfl (fun v29 g30 ho31 => ?_)
    refine Z 2 rfl ?_
    refine st_freeze (fun τ32 hl33 hg34 => ?_)
    have hs35 := ho31.freeze hl33 hg34
    obtain rfl := Eq.symm h
    exact st_ret (gs' := []) Tryz.func40 rfl (List.Sublist.refl _) (hl28.trans hl33) ⟨_, rfl, rfl, hs35⟩
   ·refine Z 5 rfl ?_
    refine st_if rfl h (fun h => ?_) (fun h => ?_)
    ·refine Z 2 rfl ?_
     obtain ⟨r37, hr38, h⟩ := h
     refine st_call (foot := []) rfl rfl rfl rfl rfl rfl (callV_fn z_en66 (field_robot_ok hr38 σ)) ?_
     rintro vτ39 τ39 gsτ39 hl40 ⟨rfl, rfl⟩
     refine o_build (ps := [(0, [.string (bstr [120])]), (1, [.I 2]), (2, [.I 1]), (3, [.I (-1000000)]), (4, [.I 1000000]), (5, [.I 1]), (6, [.I 0])]) (cs := [.string (bstr [120]), .I 2, .I 1, .I (-1000000), .I 1000000, .I 1, .I 0]) rfl rfl rfl z_struct89 ⟨rfl, ⟨_, (ev_str z_str9), rfl⟩, ⟨rfl, ⟨_, rfl, rfl⟩, ⟨rfl, ⟨_, rfl, rfl⟩, ⟨rfl, ⟨_, rfl, rfl⟩, ⟨rfl, ⟨_, rfl, rfl⟩, ⟨rfl, ⟨_, rfl, rfl⟩, ⟨rfl, ⟨_, rfl, rfl⟩, trivial⟩⟩⟩⟩⟩⟩⟩ rfl ?_
     refine o_build (ps := [(0, [.string (bstr [121])]), (1, [.I 2]), (2, [.I 2]), (3, [.I (-1000000)]), (4, [.I 1000000]), (5, [.I 1]), (6, [.I 0])]) (cs := [.string (bstr [121]), .I 2, .I 2, .I (-1000000), .I 1000000, .I 1, .I 0]) rfl rfl rfl z_struct89 ⟨rfl, ⟨_, (ev_str z_str10), rfl⟩, ⟨rfl, ⟨_, rfl, rfl⟩, ⟨rfl, ⟨_, rfl, rfl⟩, ⟨rfl, ⟨_, rfl, rfl⟩, ⟨rfl, ⟨_, rfl, rfl⟩, ⟨rfl, ⟨_, rfl, rfl⟩, ⟨rfl, ⟨_, rfl, rfl⟩, trivial⟩⟩⟩⟩⟩⟩⟩ rfl ?_
     refine o_build (ps := [(0, [.string (bstr [104, 101, 97, 100, 105, 110, 103])]), (1, [.I 1]), (2, [.I 3]), (3, [.I 0]), (4, [.I 35999]), (5, [.I 1]), (6, [.I 0])]) (cs := [.string (bstr [104, 101, 97, 100, 105, 110, 103]), .I 1, .I 3, .I 0, .I 35999, .I 1, .I 0]) rfl rfl rfl z_struct89 ⟨rfl, ⟨_, (ev_str z_str11), rfl⟩, ⟨rfl, ⟨_, rfl, rfl⟩, ⟨rfl, ⟨_, rfl, rfl⟩, ⟨rfl, ⟨_, rfl, rfl⟩, ⟨rfl, ⟨_, rfl, rfl⟩, ⟨rfl, ⟨_, rfl, rfl⟩, ⟨rfl, ⟨_, rfl, rfl⟩, trivial⟩⟩⟩⟩⟩⟩⟩ rfl ?_
     refine o_build (ps := [(0, [.string (bstr [98, 97, 116, 116, 101, 114, 121])]), (1, [.I 1]), (2, [.I 4]), (3, [.I 0]), (4, [.I 1000]), (5, [.I 1]), (6, [.I 0])]) (cs := [.string (bstr [98, 97, 116, 116, 101, 114, 121]), .I 1, .I 4, .I 0, .I 1000, .I 1, .I 0]) rfl rfl rfl z_struct89 ⟨rfl, ⟨_, (ev_str z_str12), rfl⟩, ⟨rfl, ⟨_, rfl, rfl⟩, ⟨rfl, ⟨_, rfl, rfl⟩, ⟨rfl, ⟨_, rfl, rfl⟩, ⟨rfl, ⟨_, rfl, rfl⟩, ⟨rfl, ⟨_, rfl, rfl⟩, ⟨rfl, ⟨_, rfl, rfl⟩, trivial⟩⟩⟩⟩⟩⟩⟩ rfl ?_
     refine o_build (ps := [(0, [.string (bstr [115, 117, 114, 101])]), (1, [.I 1]), (2, [.I 5]), (3, [.I 0]), (4, [.I 100]), (5, [.I 2]), (6, [.I 100])]) (cs := [.string (bstr [115, 117, 114, 101]), .I 1, .I 5, .I 0, .I 100, .I 2, .I 100]) rfl rfl rfl z_struct89 ⟨rfl, ⟨_, (ev_str z_str13), rfl⟩, ⟨rfl, ⟨_, rfl, rfl⟩, ⟨rfl, ⟨_, rfl, rfl⟩, ⟨rfl, ⟨_, rfl, rfl⟩, ⟨rfl, ⟨_, rfl, rfl⟩, ⟨rfl, ⟨_, rfl, rfl⟩, ⟨rfl, ⟨_, rfl, rfl⟩, trivial⟩⟩⟩⟩⟩⟩⟩ rfl ?_
     refine o_litE (eP eS (eP (eI .i64) (eP (eI .i64) (eP (eI .i64) (eP (eI .i64) (eP (eI .i64) (eI .i64))))))) [r37, ((bstr [120]), 2, 1, (-1000000), 1000000, 1, 0), ((bstr [121]), 2, 2, (-1000000), 1000000, 1, 0), ((bstr [104, 101, 97, 100, 105, 110, 103]), 1, 3, 0, 35999, 1, 0), ((bstr [98, 97, 116, 116, 101, 114, 121]), 1, 4, 0, 1000, 1, 0), ((bstr [115, 117, 114, 101]), 1, 5, 0, 100, 2, 100)] rfl rfl rfl z_slT86 z_zero89 ⟨rfl, ⟨_, rfl, rfl⟩, ⟨rfl, ⟨_, rfl, rfl⟩, ⟨rfl, ⟨_, rfl, rfl⟩, ⟨rfl, ⟨_, rfl, rfl⟩, ⟨rfl, ⟨_, rfl, rfl⟩, ⟨rfl, ⟨_, rfl, rfl⟩, trivial⟩⟩⟩⟩⟩⟩ rfl rfl rfl rfl (fun v41 g42 ho43 => ?_)
     refine Z 2 rfl ?_
     refine st_freeze (fun τ44 hl45 hg46 => ?_)
     have hs47 := ho43.freeze hl45 hg46
     obtain rfl := Eq.symm h
     exact st_ret (gs' := []) Tryz.func40 rfl (List.Sublist.refl _) (hl40.trans hl45) ⟨_, rfl, rfl, hs47⟩
    ·refine Z 5 rfl ?_
     refine st_if rfl h (fun h => ?_) (fun h => ?_)
     ·refine Z 2 rfl ?_
      obtain ⟨r49, hr50, h⟩ := h
      refine st_call (foot := []) rfl rfl rfl rfl rfl rfl (callV_fn z_en66 (field_robot_ok hr50 σ)) ?_
      rintro vτ51 τ51 gsτ51 hl52 ⟨rfl, rfl⟩
      refine o_build (ps := [(0, [.string (bstr [99, 111, 100, 101])]), (1, [.I 1]), (2, [.I 1]), (3, [.I 1]), (4, [.I 9999]), (5, [.I 1]), (6, [.I 0])]) (cs := [.string (bstr [99, 111, 100, 101]), .I 1, .I 1, .I 1, .I 9999, .I 1, .I 0]) rfl rfl rfl z_struct89 ⟨rfl, ⟨_, (ev_str z_str14), rfl⟩, ⟨rfl, ⟨_, rfl, rfl⟩, ⟨rfl, ⟨_, rfl, rfl⟩, ⟨rfl, ⟨_, rfl, rfl⟩, ⟨rfl, ⟨_, rfl, rfl⟩, ⟨rfl, ⟨_, rfl, rfl⟩, ⟨rfl, ⟨_, rfl, rfl⟩, trivial⟩⟩⟩⟩⟩⟩⟩ rfl ?_
      refine o_build (ps := [(0, [.string (bstr [115, 101, 118, 101, 114, 105, 116, 121])]), (1, [.I 1]), (2, [.I 2]), (3, [.I 0]), (4, [.I 4]), (5, [.I 1]), (6, [.I 0])]) (cs := [.string (bstr [115, 101, 118, 101, 114, 105, 116, 121]), .I 1, .I 2, .I 0, .I 4, .I 1, .I 0]) rfl rfl rfl z_struct89 ⟨rfl, ⟨_, (ev_str z_str15), rfl⟩, ⟨rfl, ⟨_, rfl, rfl⟩, ⟨rfl, ⟨_, rfl, rfl⟩, ⟨rfl, ⟨_, rfl, rfl⟩, ⟨rfl, ⟨_, rfl, rfl⟩, ⟨rfl, ⟨_, rfl, rfl⟩, ⟨rfl, ⟨_, rfl, rfl⟩, trivial⟩⟩⟩⟩⟩⟩⟩ rfl ?_
      refine o_build (ps := [(0, [.string (bstr [112, 97, 114, 116])]), (1, [.I 1]), (2, [.I 3]), (3, [.I 0]), (4, [.I 255]), (5, [.I 2]), (6, [.I 0])]) (cs := [.string (bstr [112, 97, 114, 116]), .I 1, .I 3, .I 0, .I 255, .I 2, .I 0]) rfl rfl rfl z_struct89 ⟨rfl, ⟨_, (ev_str z_str16), rfl⟩, ⟨rfl, ⟨_, rfl, rfl⟩, ⟨rfl, ⟨_, rfl, rfl⟩, ⟨rfl, ⟨_, rfl, rfl⟩, ⟨rfl, ⟨_, rfl, rfl⟩, ⟨rfl, ⟨_, rfl, rfl⟩, ⟨rfl, ⟨_, rfl, rfl⟩, trivial⟩⟩⟩⟩⟩⟩⟩ rfl ?_
      refine o_build (ps := [(0, [.string (bstr [116, 105, 109, 101, 115])]), (1, [.I 1]), (2, [.I 4]), (3, [.I 1]), (4, [.I 1000000]), (5, [.I 2]), (6, [.I 1])]) (cs := [.string (bstr [116, 105, 109, 101, 115]), .I 1, .I 4, .I 1, .I 1000000, .I 2, .I 1]) rfl rfl rfl z_struct89 ⟨rfl, ⟨_, (ev_str z_str17), rfl⟩, ⟨rfl, ⟨_, rfl, rfl⟩, ⟨rfl, ⟨_, rfl, rfl⟩, ⟨rfl, ⟨_, rfl, rfl⟩, ⟨rfl, ⟨_, rfl, rfl⟩, ⟨rfl, ⟨_, rfl, rfl⟩, ⟨rfl, ⟨_, rfl, rfl⟩, trivial⟩⟩⟩⟩⟩⟩⟩ rfl ?_
      refine o_build (ps := [(0, [.string (bstr [116, 101, 120, 116])]), (1, [.I 5]), (2, [.I (-1)]), (3, [.I 0]), (4, [.I 64]), (5, [.I 1]), (6, [.I 0])]) (cs := [.string (bstr [116, 101, 120, 116]), .I 5, .I (-1), .I 0, .I 64, .I 1, .I 0]) rfl rfl rfl z_struct89 ⟨rfl, ⟨_, (ev_str z_str18), rfl⟩, ⟨rfl, ⟨_, rfl, rfl⟩, ⟨rfl, ⟨_, rfl, rfl⟩, ⟨rfl, ⟨_, rfl, rfl⟩, ⟨rfl, ⟨_, rfl, rfl⟩, ⟨rfl, ⟨_, rfl, rfl⟩, ⟨rfl, ⟨_, rfl, rfl⟩, trivial⟩⟩⟩⟩⟩⟩⟩ rfl ?_
      refine o_litE (eP eS (eP (eI .i64) (eP (eI .i64) (eP (eI .i64) (eP (eI .i64) (eP (eI .i64) (eI .i64))))))) [r49, ((bstr [99, 111, 100, 101]), 1, 1, 1, 9999, 1, 0), ((bstr [115, 101, 118, 101, 114, 105, 116, 121]), 1, 2, 0, 4, 1, 0), ((bstr [112, 97, 114, 116]), 1, 3, 0, 255, 2, 0), ((bstr [116, 105, 109, 101, 115]), 1, 4, 1, 1000000, 2, 1), ((bstr [116, 101, 120, 116]), 5, (-1), 0, 64, 1, 0)] rfl rfl rfl z_slT86 z_zero89 ⟨rfl, ⟨_, rfl, rfl⟩, ⟨rfl, ⟨_, rfl, rfl⟩, ⟨rfl, ⟨_, rfl, rfl⟩, ⟨rfl, ⟨_, rfl, rfl⟩, ⟨rfl, ⟨_, rfl, rfl⟩, ⟨rfl, ⟨_, rfl, rfl⟩, trivial⟩⟩⟩⟩⟩⟩ rfl rfl rfl rfl (fun v53 g54 ho55 => ?_)
      refine Z 2 rfl ?_
      refine st_freeze (fun τ56 hl57 hg58 => ?_)
      have hs59 := ho55.freeze hl57 hg58
      obtain rfl := Eq.symm h
      exact st_ret (gs' := []) Tryz.func40 rfl (List.Sublist.refl _) (hl52.trans hl57) ⟨_, rfl, rfl, hs59⟩
     ·refine Z 6 rfl ?_
      obtain rfl := Eq.symm h
      exact st_ret (gs' := []) Tryz.func40 rfl (List.Sublist.refl _) (Sto.Le.refl _) ⟨_, rfl, rfl, Sl.nil⟩
theorem msg_many_ok {a0 : Int} {a1 : TyA} {r : Int} (h : msg_many a0 a1 r) (σ : Sto)  :
    Does Tryz.prog 87 [.I a0, .agg (lA a1).toArray] σ [] (fun v τ gs => gs = [] ∧ .I r = v) := by
 refine call_of Tryz.func87 Tryz.ntmps87 rfl rfl (fun cs fs => ?_)
 refine Z 2 rfl ?_
 refine o_boxC rfl rfl rfl rfl rfl rfl (fun b1 => ?_)
 refine ZZ 12 [0] rfl rfl ?_
 refine st_if rfl h (fun h => ?_) (fun h => ?_)
 ·refine Z 4 rfl ?_
  refine st_ord [] _ rfl ?_
  obtain rfl := Eq.symm h
  exact st_ret (gs' := []) Tryz.func87 rfl (List.Sublist.refl _) (Sto.Le.refl _) ⟨rfl, rfl⟩
 ·refine ZZ 8 [0] rfl rfl ?_
  refine st_if rfl h (fun h => ?_) (fun h => ?_)
  ·refine Z 4 rfl ?_
   refine st_ord [] _ rfl ?_
   obtain rfl := Eq.symm h
   exact st_ret (gs' := []) Tryz.func87 rfl (List.Sublist.refl _) (Sto.Le.refl _) ⟨rfl, rfl⟩
  ·refine Z 6 rfl ?_
   refine st_ord [] _ rfl ?_
   obtain rfl := Eq.symm h
   exact st_ret (gs' := []) Tryz.func87 rfl (List.Sublist.refl _) (Sto.Le.refl _) ⟨rfl, rfl⟩
theorem msg_path_ok {a0 : List (Int × Int)} {a1 : TyA} {v1 : Value} {r : Int} (h : msg_path a0 a1 r) (σ : Sto) (hs2 : Sl (kP (kI .i64) (kI .i64)) σ v1 a0) :
    Does Tryz.prog 67 [v1, .agg (lA a1).toArray] σ [] (fun v τ gs => gs = [] ∧ .I r = v) := by
 refine call_of Tryz.func67 Tryz.ntmps67 rfl rfl (fun cs fs => ?_)
 refine Z 2 rfl ?_
 refine o_boxC rfl rfl rfl rfl rfl rfl (fun b3 => ?_)
 refine Z 6 rfl ?_
 refine o_lenI rfl rfl rfl z_slT27 rfl hs2 ?_
 refine ZZ 1 [0] rfl rfl ?_
 obtain ⟨r4, hr5, h⟩ := h
 refine st_call (foot := []) rfl rfl rfl rfl rfl rfl (callV_fn z_en87 (msg_many_ok hr5 σ)) ?_
 rintro vτ6 τ6 gsτ6 hl7 ⟨rfl, rfl⟩
 refine Z 7 rfl ?_
 refine st_if rfl h (fun h => ?_) (fun h => ?_)
 ·refine Z 5 rfl ?_
  refine st_ord [] _ rfl ?_
  obtain rfl := Eq.symm h
  exact st_ret (gs' := []) Tryz.func67 rfl (List.Sublist.refl _) hl7 ⟨rfl, rfl⟩
 ·refine Z 2 rfl ?_
  refine st_cut (fun ρ τ8 gs => ∃ (s8 : Unit), msg_path_j1 s8 r ∧ τ6.Le τ8 ∧ ESub ρ [(4, .I 0)] ∧ gs = []) ?_ (fun hk8 => ?_)
  ·rintro ρ8 τ8 gs8 ⟨s8, h, hl8, hρ, rfl⟩
   refine st_es hρ ?_
   refine Z 4 rfl ?_
   obtain rfl := Eq.symm h
   exact st_ret (gs' := []) Tryz.func67 rfl (List.Sublist.refl _) (hl7.trans hl8) ⟨rfl, rfl⟩
  refine Z 3 rfl ?_
  refine o_lenI rfl rfl rfl z_slT27 rfl (hs2.up hl7) ?_
  refine Z 2 rfl ?_
  obtain ⟨e9, hL9, hA9⟩ := h
  refine st_ord [] _ rfl ?_
  refine st_loop hL9 (fun (s9 : Int) ρ τ9 gs => τ6.Le τ9 ∧ ESub ρ [(4, .I 0), (15, v1), (16, .I (a0.length : Int)), (17, .I s9)] ∧ gs = []) ⟨Sto.Le.refl _, rfl, rfl⟩ ?_
  rintro s9 o9 h he9 ρ9 τ9 gs9 ⟨hl9, hρ, rfl⟩ hn9
  refine st_es hρ ?_
  refine Z 5 rfl ?_
  refine st_if rfl h (fun h => ?_) (fun h => ?_)
  ·refine Z 5 rfl ?_
   obtain ⟨q10, hf11, h⟩ := h
   refine o_index rfl rfl rfl z_slT27 rfl rfl (hs2.up (hl7.trans hl9)) rfl hf11 (fun b12 of13 vs hc14 hrep => ?_)
   obtain ⟨_, _, rfl, rfl, rfl⟩ := hrep
   refine o_loadIN (vs := [.I q10.1, .I q10.2]) rfl rfl rfl z_agg84 rfl rfl (celn_part 0 rfl hc14) ?_
   refine o_alloc rfl rfl rfl z_zero84 (fun b15 => ?_)
   refine ZZ 3 [0] rfl rfl ?_
   refine st_cut (fun ρ τ16 gs => ∃ (s16 : Bool), msg_path_j3 s9 s16 o9 ∧ τ9.Le τ16 ∧ ESub ρ [(4, .I 0), (15, v1), (16, .I (a0.length : Int)), (17, .I s9), (34, .bool s16)] ∧ gs = []) ?_ (fun hk16 => ?_)
   ·rintro ρ16 τ16 gs16 ⟨s16, h, hl16, hρ, rfl⟩
    refine st_es hρ ?_
    refine st_if rfl h (fun h => ?_) (fun h => ?_)
    ·refine Z 4 rfl ?_
     obtain rfl := he9 _ h
     replace h := hA9
     obtain rfl := Eq.symm h
     exact st_ret (gs' := []) Tryz.func67 rfl (List.Sublist.refl _) ((hl7.trans hl9).trans hl16) ⟨rfl, rfl⟩
    ·refine Z 6 rfl ?_
     exact hn9 _ _ _ _ h ⟨(hl9.trans hl16), rfl, rfl⟩
   refine ZZ 7 [0, 0] rfl rfl ?_
   refine o_mif rfl rfl rfl rfl h (fun h => ?_) (fun h => ?_)
   ·refine Z 8 rfl ?_
    refine st_ord [] _ rfl ?_
    exact hk16 _ _ _ ⟨true, h, (Sto.Le.refl _), rfl, rfl⟩
   ·refine ZZ 8 [0, 0] rfl rfl ?_
    refine st_ord [] _ rfl ?_
    exact hk16 _ _ _ ⟨(decide ((min q10.1 q10.2) < (-1000000))), h, (Sto.Le.refl _), rfl, rfl⟩
  ·refine st_exit rfl ?_
   obtain rfl := he9 _ h
   replace h := hA9
   exact hk8 _ _ _ ⟨(), h, hl9, rfl, rfl⟩
theorem msg_cells_ok {a0 : List Int} {a1 : TyA} {v1 : Value} {r : Int} (h : msg_cells a0 a1 r) (σ : Sto) (hs2 : Sl (kI .i64) σ v1 a0) :
    Does Tryz.prog 68 [v1, .agg (lA a1).toArray] σ [] (fun v τ gs => gs = [] ∧ .I r = v) := by
 refine call_of Tryz.func68 Tryz.ntmps68 rfl rfl (fun cs fs => ?_)
 refine Z 2 rfl ?_
 refine o_boxC rfl rfl rfl rfl rfl rfl (fun b3 => ?_)
 refine Z 6 rfl ?_
 refine o_lenI rfl rfl rfl z_slT28 rfl hs2 ?_
 refine ZZ 1 [0] rfl rfl ?_
 obtain ⟨r4, hr5, h⟩ := h
 refine st_call (foot := []) rfl rfl rfl rfl rfl rfl (callV_fn z_en87 (msg_many_ok hr5 σ)) ?_
 rintro vτ6 τ6 gsτ6 hl7 ⟨rfl, rfl⟩
 refine Z 7 rfl ?_
 refine st_if rfl h (fun h => ?_) (fun h => ?_)
 ·refine Z 5 rfl ?_
  refine st_ord [] _ rfl ?_
  obtain rfl := Eq.symm h
  exact st_ret (gs' := []) Tryz.func68 rfl (List.Sublist.refl _) hl7 ⟨rfl, rfl⟩
 ·refine Z 6 rfl ?_
  refine st_cut (fun ρ τ8 gs => ∃ (s8 : Unit), msg_cells_j1 s8 r ∧ τ6.Le τ8 ∧ ESub ρ [(4, .I 0)] ∧ gs = []) ?_ (fun hk8 => ?_)
  ·rintro ρ8 τ8 gs8 ⟨s8, h, hl8, hρ, rfl⟩
   refine st_es hρ ?_
   refine Z 4 rfl ?_
   obtain rfl := Eq.symm h
   exact st_ret (gs' := []) Tryz.func68 rfl (List.Sublist.refl _) (hl7.trans hl8) ⟨rfl, rfl⟩
  refine Z 3 rfl ?_
  refine o_lenI rfl rfl rfl z_slT28 rfl (hs2.up hl7) ?_
  refine Z 2 rfl ?_
  obtain ⟨e9, hL9, hA9⟩ := h
  refine st_ord [] _ rfl ?_
  refine st_loop hL9 (fun (s9 : Int × Int) ρ τ9 gs => τ6.Le τ9 ∧ ESub ρ [(4, .I 0), (6, .I s9.1), (16, v1), (17, .I (a0.length : Int)), (18, .I s9.2)] ∧ gs = []) ⟨Sto.Le.refl _, rfl, rfl⟩ ?_
  rintro s9 o9 h he9 ρ9 τ9 gs9 ⟨hl9, hρ, rfl⟩ hn9
  refine st_es hρ ?_
  refine Z 5 rfl ?_
  refine st_if rfl h (fun h => ?_) (fun h => ?_)
  ·refine Z 5 rfl ?_
   obtain ⟨q10, hf11, h⟩ := h
   refine o_index rfl rfl rfl z_slT28 rfl rfl (hs2.up (hl7.trans hl9)) rfl hf11 (fun b12 of13 vs hc14 hrep => ?_)
   obtain rfl := hrep
   refine o_loadI (v := .I q10) rfl rfl rfl z_sc3 rfl (hc14 0 _ rfl) ?_
   refine Z 5 rfl ?_
   refine st_cut (fun ρ τ15 gs => ∃ (s15 : Bool), msg_cells_j3 s9 q10 s15 o9 ∧ τ9.Le τ15 ∧ ESub ρ [(4, .I 0), (6, .I s9.1), (16, v1), (17, .I (a0.length : Int)), (18, .I s9.2), (8, .I q10), (22, .bool s15)] ∧ gs = []) ?_ (fun hk15 => ?_)
   ·rintro ρ15 τ15 gs15 ⟨s15, h, hl15, hρ, rfl⟩
    refine st_es hρ ?_
    refine st_if rfl h (fun h => ?_) (fun h => ?_)
    ·refine Z 4 rfl ?_
     obtain rfl := he9 _ h
     replace h := hA9
     obtain rfl := Eq.symm h
     exact st_ret (gs' := []) Tryz.func68 rfl (List.Sublist.refl _) ((hl7.trans hl9).trans hl15) ⟨rfl, rfl⟩
    ·refine Z 7 rfl ?_
     refine st_if rfl h (fun h => ?_) (fun h => ?_)
     ·refine Z 4 rfl ?_
      obtain rfl := he9 _ h
      replace h := hA9
      obtain rfl := Eq.symm h
      exact st_ret (gs' := []) Tryz.func68 rfl (List.Sublist.refl _) ((hl7.trans hl9).trans hl15) ⟨rfl, rfl⟩
     ·refine Z 11 rfl ?_
      exact hn9 _ _ _ _ h ⟨(hl9.trans hl15), rfl, rfl⟩
   refine Z 3 rfl ?_
   refine o_mif rfl rfl rfl rfl h (fun h => ?_) (fun h => ?_)
   ·refine Z 5 rfl ?_
    exact hk15 _ _ _ ⟨true, h, (Sto.Le.refl _), rfl, rfl⟩
   ·refine Z 5 rfl ?_
    exact hk15 _ _ _ ⟨(decide (65535 < q10)), h, (Sto.Le.refl _), rfl, rfl⟩
  ·refine st_exit rfl ?_
   obtain rfl := he9 _ h
   replace h := hA9
   exact hk8 _ _ _ ⟨(), h, hl9, rfl, rfl⟩
theorem msg_text_ok {a0 : ByteArray} {a1 : TyA} {r : Int} (h : msg_text a0 a1 r) (σ : Sto)  :
    Does Tryz.prog 69 [.string a0, .agg (lA a1).toArray] σ [] (fun v τ gs => gs = [] ∧ .I r = v) := by
 refine call_of Tryz.func69 Tryz.ntmps69 rfl rfl (fun cs fs => ?_)
 refine Z 2 rfl ?_
 refine o_boxC rfl rfl rfl rfl rfl rfl (fun b1 => ?_)
 refine ZZ 8 [0] rfl rfl ?_
 obtain ⟨r2, hr3, h⟩ := h
 refine st_call (foot := []) rfl rfl rfl rfl rfl rfl (callV_fn z_en87 (msg_many_ok hr3 σ)) ?_
 rintro vτ4 τ4 gsτ4 hl5 ⟨rfl, rfl⟩
 refine Z 7 rfl ?_
 refine st_if rfl h (fun h => ?_) (fun h => ?_)
 ·refine Z 5 rfl ?_
  refine st_ord [] _ rfl ?_
  obtain rfl := Eq.symm h
  exact st_ret (gs' := []) Tryz.func69 rfl (List.Sublist.refl _) hl5 ⟨rfl, rfl⟩
 ·refine Z 2 rfl ?_
  refine st_cut (fun ρ τ6 gs => ∃ (s6 : Unit), msg_text_j1 s6 r ∧ τ4.Le τ6 ∧ ESub ρ [(4, .I 0)] ∧ gs = []) ?_ (fun hk6 => ?_)
  ·rintro ρ6 τ6 gs6 ⟨s6, h, hl6, hρ, rfl⟩
   refine st_es hρ ?_
   refine Z 4 rfl ?_
   obtain rfl := Eq.symm h
   exact st_ret (gs' := []) Tryz.func69 rfl (List.Sublist.refl _) (hl5.trans hl6) ⟨rfl, rfl⟩
  refine Z 3 rfl ?_
  obtain ⟨hf11, h⟩ := h
  refine o_bytes rfl rfl rfl Tryz.underlying9 Tryz.underlying42 Tryz.underlying5 rfl hf11 (fun v7 τ8 hl9 hs10 => ?_)
  refine o_lenI rfl rfl rfl z_slT42 rfl hs10 ?_
  refine Z 2 rfl ?_
  obtain ⟨e12, hL12, hA12⟩ := h
  refine st_ord [] _ rfl ?_
  refine st_loop hL12 (fun (s12 : Int) ρ τ12 gs => τ8.Le τ12 ∧ ESub ρ [(4, .I 0), (16, v7), (17, .I ((bints a0).length : Int)), (18, .I s12)] ∧ gs = []) ⟨Sto.Le.refl _, rfl, rfl⟩ ?_
  rintro s12 o12 h he12 ρ12 τ12 gs12 ⟨hl12, hρ, rfl⟩ hn12
  refine st_es hρ ?_
  refine Z 5 rfl ?_
  refine st_if rfl h (fun h => ?_) (fun h => ?_)
  ·refine Z 5 rfl ?_
   obtain ⟨q13, hf14, h⟩ := h
   refine o_index rfl rfl rfl z_slT42 rfl rfl (hs10.up hl12) rfl hf14 (fun b15 of16 vs hc17 hrep => ?_)
   obtain rfl := hrep
   refine o_loadI (v := .int .u8 q13) rfl rfl rfl z_sc5 rfl (hc17 0 _ rfl) ?_
   refine Z 3 rfl ?_
   refine st_cut (fun ρ τ18 gs => ∃ (s18 : Bool), msg_text_j3 s12 s18 o12 ∧ τ12.Le τ18 ∧ ESub ρ [(4, .I 0), (16, v7), (17, .I ((bints a0).length : Int)), (18, .I s12), (27, .bool s18)] ∧ gs = []) ?_ (fun hk18 => ?_)
   ·rintro ρ18 τ18 gs18 ⟨s18, h, hl18, hρ, rfl⟩
    refine st_es hρ ?_
    refine st_if rfl h (fun h => ?_) (fun h => ?_)
    ·refine Z 4 rfl ?_
     obtain rfl := he12 _ h
     replace h := hA12
     obtain rfl := Eq.symm h
     exact st_ret (gs' := []) Tryz.func69 rfl (List.Sublist.refl _) (((hl5.trans hl9).trans hl12).trans hl18) ⟨rfl, rfl⟩
    ·refine Z 6 rfl ?_
     exact hn12 _ _ _ _ h ⟨(hl12.trans hl18), rfl, rfl⟩
   refine Z 3 rfl ?_
   refine o_mif rfl rfl rfl rfl h (fun h => ?_) (fun h => ?_)
   ·refine Z 4 rfl ?_
    exact hk18 _ _ _ ⟨true, h, (Sto.Le.refl _), rfl, rfl⟩
   ·refine Z 4 rfl ?_
    exact hk18 _ _ _ ⟨(decide (126 < q13)), h, (Sto.Le.refl _), rfl, rfl⟩
  ·refine st_exit rfl ?_
   obtain rfl := he12 _ h
   replace h := hA12
   exact hk6 _ _ _ ⟨(), h, (hl9.trans hl12), rfl, rfl⟩
theorem msg_wrong_ok {a0 : TyM} {a1 : TyA} {v1 : Value} {v2 : Value} {r : Int} (h : msg_wrong a0 a1 r) (σ : Sto) (hs3 : Sl (kP (kI .i64) (kI .i64)) σ v1 a0.2.2.1) (hs4 : Sl (kI .i64) σ v2 a0.2.2.2.1) :
    Does Tryz.prog 41 [.agg (lM a0 v1 v2).toArray, .agg (lA a1).toArray] σ [] (fun v τ gs => gs = [] ∧ .I r = v) := by
 refine call_of Tryz.func41 Tryz.ntmps41 rfl rfl (fun cs fs => ?_)
 refine Z 2 rfl ?_
 refine o_box (cs := (lM a0 v1 v2)) rfl rfl rfl rfl rfl (fun b5 => ?_)
 refine o_boxC rfl rfl rfl rfl rfl rfl (fun b6 => ?_)
 refine ZZ 14 [0] rfl rfl ?_
 refine st_if rfl h (fun h => ?_) (fun h => ?_)
 ·refine ZZ 5 [1, 0] rfl rfl ?_
  obtain ⟨r7, hr8, h⟩ := h
  refine st_call (foot := []) rfl rfl rfl rfl rfl rfl (callV_fn z_en67 (msg_path_ok hr8 σ hs3)) ?_
  rintro vτ9 τ9 gsτ9 hl10 ⟨rfl, rfl⟩
  refine Z 2 rfl ?_
  refine st_ord [] _ rfl ?_
  obtain rfl := Eq.symm h
  exact st_ret (gs' := []) Tryz.func41 rfl (List.Sublist.refl _) hl10 ⟨rfl, rfl⟩
 ·refine Z 5 rfl ?_
  refine st_if rfl h (fun h => ?_) (fun h => ?_)
  ·refine ZZ 5 [1, 0] rfl rfl ?_
   obtain ⟨r11, hr12, h⟩ := h
   refine st_call (foot := []) rfl rfl rfl rfl rfl rfl (callV_fn z_en68 (msg_cells_ok hr12 σ hs4)) ?_
   rintro vτ13 τ13 gsτ13 hl14 ⟨rfl, rfl⟩
   refine Z 2 rfl ?_
   refine st_ord [] _ rfl ?_
   obtain rfl := Eq.symm h
   exact st_ret (gs' := []) Tryz.func41 rfl (List.Sublist.refl _) hl14 ⟨rfl, rfl⟩
  ·refine Z 5 rfl ?_
   refine st_if rfl h (fun h => ?_) (fun h => ?_)
   ·refine ZZ 5 [1, 0] rfl rfl ?_
    obtain ⟨r15, hr16, h⟩ := h
    refine st_call (foot := []) rfl rfl rfl rfl rfl rfl (callV_fn z_en69 (msg_text_ok hr16 σ)) ?_
    rintro vτ17 τ17 gsτ17 hl18 ⟨rfl, rfl⟩
    refine Z 2 rfl ?_
    refine st_ord [] _ rfl ?_
    obtain rfl := Eq.symm h
    exact st_ret (gs' := []) Tryz.func41 rfl (List.Sublist.refl _) hl18 ⟨rfl, rfl⟩
   ·refine Z 5 rfl ?_
    refine st_if rfl h (fun h => ?_) (fun h => ?_)
    ·refine ZZ 5 [1, 0] rfl rfl ?_
     obtain ⟨r19, hr20, h⟩ := h
     refine st_call (foot := []) rfl rfl rfl rfl rfl rfl (callV_fn z_en69 (msg_text_ok hr20 σ)) ?_
     rintro vτ21 τ21 gsτ21 hl22 ⟨rfl, rfl⟩
     refine Z 2 rfl ?_
     refine st_ord [] _ rfl ?_
     obtain rfl := Eq.symm h
     exact st_ret (gs' := []) Tryz.func41 rfl (List.Sublist.refl _) hl22 ⟨rfl, rfl⟩
    ·refine ZZ 8 [0] rfl rfl ?_
     obtain ⟨hf23, hf24, h⟩ := h
     refine o_indexA rfl rfl rfl z_arr26 rfl rfl hf23 hf24 ?_
     refine o_loadV (j := 1) (a1.2.2.1.toNat) (f := (Value.int .i64)) (zz := 0) (l := 6) (xs := a0.2.1) [.I a0.1] [v1, v2, .string a0.t4.1, .string a0.t4.2] rfl rfl rfl z_sc3 rfl rfl (by simp only [List.length_cons, List.length_nil] <;> omega) (by omega) ?_
     refine Z 3 rfl ?_
     refine st_cut (fun ρ τ25 gs => ∃ (s25 : Bool), msg_wrong_j1 s25 r ∧ σ.Le τ25 ∧ ESub ρ [(4, .I 0), (46, .bool s25)] ∧ gs = []) ?_ (fun hk25 => ?_)
     ·rintro ρ25 τ25 gs25 ⟨s25, h, hl25, hρ, rfl⟩
      refine st_es hρ ?_
      refine st_if rfl h (fun h => ?_) (fun h => ?_)
      ·refine Z 4 rfl ?_
       obtain rfl := Eq.symm h
       exact st_ret (gs' := []) Tryz.func41 rfl (List.Sublist.refl _) hl25 ⟨rfl, rfl⟩
      ·refine Z 5 rfl ?_
       obtain rfl := Eq.symm h
       exact st_ret (gs' := []) Tryz.func41 rfl (List.Sublist.refl _) hl25 ⟨rfl, rfl⟩
     refine ZZ 5 [0] rfl rfl ?_
     refine o_mif rfl rfl rfl rfl h (fun h => ?_) (fun h => ?_)
     ·refine Z 6 rfl ?_
      refine st_ord [] _ rfl ?_
      exact hk25 _ _ _ ⟨true, h, (Sto.Le.refl _), rfl, rfl⟩
     ·refine ZZ 6 [0] rfl rfl ?_
      refine st_ord [] _ rfl ?_
      exact hk25 _ _ _ ⟨(decide (a1.t4.1 < (a0.2.1.getD a1.2.2.1.toNat 0))), h, (Sto.Le.refl _), rfl, rfl⟩
theorem msg_without_ok {a0 : TyM} {a1 : TyA} {v1 : Value} {v2 : Value} {r : (TyM)} (h : msg_without a0 a1 r) (σ : Sto) (hs3 : Sl (kP (kI .i64) (kI .i64)) σ v1 a0.2.2.1) (hs4 : Sl (kI .i64) σ v2 a0.2.2.2.1) :
    Does Tryz.prog 42 [.agg (lM a0 v1 v2).toArray, .agg (lA a1).toArray] σ [] (fun v τ gs => ∃ (v15 : Value) (v16 : Value), gs = [] ∧ .agg (lM r v15 v16).toArray = v ∧ Sl (kP (kI .i64) (kI .i64)) τ v15 r.2.2.1 ∧ Sl (kI .i64) τ v16 r.2.2.2.1) := by
 refine call_of Tryz.func42 Tryz.ntmps42 rfl rfl (fun cs fs => ?_)
 refine Z 2 rfl ?_
 refine o_box (cs := (lM a0 v1 v2)) rfl rfl rfl rfl rfl (fun b5 => ?_)
 refine o_boxC rfl rfl rfl rfl rfl rfl (fun b6 => ?_)
 refine o_alloc rfl rfl rfl z_zero30 (fun b7 => ?_)
 refine Z 2 rfl ?_
 refine st_cut (fun ρ τ8 gs => ∃ (s8 : Int × Int × Int × Int × Int × Int × (List (Int × Int)) × List Int × ByteArray × ByteArray) (v9 : Value) (v11 : Value), msg_without_j1 a0 s8 r ∧ σ.Le τ8 ∧ ESub ρ [(2, .Pb b5), (4, .Pb b7)] ∧ gs = [[(b5, .cells #[.I a0.1, .I s8.1, .I s8.2.1, .I s8.2.2.1, .I s8.2.2.2.1, .I s8.t4.1, .I s8.t4.2.1, v9, v11, .string s8.t4.t4.1, .string s8.t4.t4.2] 30 (0, 0))], [(b7, .cells lY.toArray 30 (0, 0))]] ∧ Sl (kP (kI .i64) (kI .i64)) τ8 v9 s8.t4.2.2.1 ∧ Sl (kI .i64) τ8 v11 s8.t4.2.2.2.1) ?_ (fun hk8 => ?_)
 ·rintro ρ8 τ8 gs8 ⟨s8, v9, v11, h, hl8, hρ, rfl, hs10, hs12⟩
  refine st_es hρ ?_
  refine ZZ 3 [0] rfl rfl ?_
  refine o_store (j := 1) (vs := [.I a0.1, .I s8.1, .I s8.2.1, .I s8.2.2.1, .I s8.2.2.2.1, .I s8.t4.1, .I s8.t4.2.1, v9, v11, .string s8.t4.t4.1, .string s8.t4.t4.2]) (cs' := [.I a0.1, .I s8.1, .I s8.2.1, .I s8.2.2.1, .I s8.2.2.2.1, .I s8.t4.1, .I s8.t4.2.1, v9, v11, .string s8.t4.t4.1, .string s8.t4.t4.2]) rfl rfl rfl z_size30 rfl rfl rfl (ones_cons rfl (ones_cons rfl (ones_cons rfl (ones_cons rfl (ones_cons rfl (ones_cons rfl (ones_cons rfl (ones_cons hs10.one' (ones_cons hs12.one' (ones_cons rfl (ones_cons rfl ones_nil))))))))))) rfl rfl rfl ?_
  refine st_end ?_
  obtain rfl := Eq.symm h
  exact st_retC (gs' := []) [.agg #[.I a0.1, .I s8.1, .I s8.2.1, .I s8.2.2.1, .I s8.2.2.2.1, .I s8.t4.1, .I s8.t4.2.1, v9, v11, .string s8.t4.t4.1, .string s8.t4.t4.2]] Tryz.func42 ⟨⟨_, _, _, _, rfl, mem_flat 1 rfl, fun w hw => cellOfN (vs := [.I a0.1, .I s8.1, .I s8.2.1, .I s8.2.2.1, .I s8.2.2.2.1, .I s8.t4.1, .I s8.t4.2.1, v9, v11, .string s8.t4.t4.1, .string s8.t4.t4.2]) z_agg30 rfl w hw⟩, trivial⟩ (by simp) hl8 ⟨_, _, rfl, rfl, hs10, hs12⟩
 refine ZZ 11 [1] rfl rfl ?_
 refine st_if rfl h (fun h => ?_) (fun h => ?_)
 ·refine ZZ 5 [2] rfl rfl ?_
  refine st_ord [2, 0] _ rfl ?_
  exact hk8 _ _ _ ⟨((a0.2.1.getD 0 0), (a0.2.1.getD 1 0), (a0.2.1.getD 2 0), (a0.2.1.getD 3 0), (a0.2.1.getD 4 0), (a0.2.1.getD 5 0), [], a0.2.2.2.1, a0.t4.1, a0.t4.2), _, _, h, (Sto.Le.refl _), rfl, rfl, Sl.nil, hs4⟩
 ·refine Z 5 rfl ?_
  refine st_if rfl h (fun h => ?_) (fun h => ?_)
  ·refine ZZ 5 [2] rfl rfl ?_
   refine st_ord [2, 0] _ rfl ?_
   exact hk8 _ _ _ ⟨((a0.2.1.getD 0 0), (a0.2.1.getD 1 0), (a0.2.1.getD 2 0), (a0.2.1.getD 3 0), (a0.2.1.getD 4 0), (a0.2.1.getD 5 0), a0.2.2.1, [], a0.t4.1, a0.t4.2), _, _, h, (Sto.Le.refl _), rfl, rfl, hs3, Sl.nil⟩
  ·refine Z 5 rfl ?_
   refine st_if rfl h (fun h => ?_) (fun h => ?_)
   ·refine Z 2 rfl ?_
    refine o_store (j := 2) (vs := [.E0]) (cs' := [.I a0.1, .I (a0.2.1.getD 0 0), .I (a0.2.1.getD 1 0), .I (a0.2.1.getD 2 0), .I (a0.2.1.getD 3 0), .I (a0.2.1.getD 4 0), .I (a0.2.1.getD 5 0), v1, v2, .E0, .string a0.t4.2]) rfl rfl rfl z_size9 rfl (ev_str z_str19) rfl (ones_cons rfl ones_nil) rfl rfl rfl ?_
    refine Z 2 rfl ?_
    refine st_ord [2, 0] _ rfl ?_
    exact hk8 _ _ _ ⟨((a0.2.1.getD 0 0), (a0.2.1.getD 1 0), (a0.2.1.getD 2 0), (a0.2.1.getD 3 0), (a0.2.1.getD 4 0), (a0.2.1.getD 5 0), a0.2.2.1, a0.2.2.2.1, (bstr []), a0.t4.2), _, _, h, (Sto.Le.refl _), rfl, rfl, hs3, hs4⟩
   ·refine Z 5 rfl ?_
    refine st_if rfl h (fun h => ?_) (fun h => ?_)
    ·refine Z 2 rfl ?_
     refine o_store (j := 2) (vs := [.E0]) (cs' := [.I a0.1, .I (a0.2.1.getD 0 0), .I (a0.2.1.getD 1 0), .I (a0.2.1.getD 2 0), .I (a0.2.1.getD 3 0), .I (a0.2.1.getD 4 0), .I (a0.2.1.getD 5 0), v1, v2, .string a0.t4.1, .E0]) rfl rfl rfl z_size9 rfl (ev_str z_str19) rfl (ones_cons rfl ones_nil) rfl rfl rfl ?_
     refine Z 2 rfl ?_
     refine st_ord [2, 0] _ rfl ?_
     exact hk8 _ _ _ ⟨((a0.2.1.getD 0 0), (a0.2.1.getD 1 0), (a0.2.1.getD 2 0), (a0.2.1.getD 3 0), (a0.2.1.getD 4 0), (a0.2.1.getD 5 0), a0.2.2.1, a0.2.2.2.1, a0.t4.1, (bstr [])), _, _, h, (Sto.Le.refl _), rfl, rfl, hs3, hs4⟩
    ·refine ZZ 4 [1] rfl rfl ?_
     obtain ⟨hf13, hf14, h⟩ := h
     refine o_indexA rfl rfl rfl z_arr26 rfl rfl hf13 hf14 ?_
     refine o_storeV (j := 2) (a1.2.2.1.toNat) (f := (Value.int .i64)) (zz := 0) (a := 0) (l := 6) (xs := a0.2.1) [.I a0.1] [v1, v2, .string a0.t4.1, .string a0.t4.2] rfl rfl rfl z_size3 rfl rfl rfl rfl rfl (by simp only [List.length_cons, List.length_nil] <;> omega) (by omega) ?_
     refine Z 2 rfl ?_
     refine st_ord [2, 0] _ rfl ?_
     exact hk8 _ _ _ ⟨(((putN 6 0 a0.2.1 a1.2.2.1.toNat 0).getD 0 0), ((putN 6 0 a0.2.1 a1.2.2.1.toNat 0).getD 1 0), ((putN 6 0 a0.2.1 a1.2.2.1.toNat 0).getD 2 0), ((putN 6 0 a0.2.1 a1.2.2.1.toNat 0).getD 3 0), ((putN 6 0 a0.2.1 a1.2.2.1.toNat 0).getD 4 0), ((putN 6 0 a0.2.1 a1.2.2.1.toNat 0).getD 5 0), a0.2.2.1, a0.2.2.2.1, a0.t4.1, a0.t4.2), _, _, h, (Sto.Le.refl _), rfl, rfl, hs3, hs4⟩
theorem slices_Equal_msg_Point_msg_Point_ok {a0 : List (Int × Int)} {a1 : List (Int × Int)} {v1 : Value} {v3 : Value} {r : Bool} (h : slices_Equal_msg_Point_msg_Point a0 a1 r) (σ : Sto) (hs2 : Sl (kP (kI .i64) (kI .i64)) σ v1 a0) (hs4 : Sl (kP (kI .i64) (kI .i64)) σ v3 a1) :
    Does Tryz.prog 43 [v1, v3] σ [] (fun v τ gs => gs = [] ∧ .bool r = v) := by
 refine call_of Tryz.func43 Tryz.ntmps43 rfl rfl (fun cs fs => ?_)
 refine Z 8 rfl ?_
 refine o_lenI rfl rfl rfl z_slT27 rfl hs2 ?_
 refine o_move rfl rfl rfl rfl ?_
 refine o_lenI rfl rfl rfl z_slT27 rfl hs4 ?_
 refine Z 2 rfl ?_
 refine st_if rfl h (fun h => ?_) (fun h => ?_)
 ·refine Z 4 rfl ?_
  obtain rfl := Eq.symm h
  exact st_ret (gs' := []) Tryz.func43 rfl (List.Sublist.refl _) (Sto.Le.refl _) ⟨rfl, rfl⟩
 ·refine Z 2 rfl ?_
  refine st_cut (fun ρ τ5 gs => ∃ (s5 : Unit), slices_Equal_msg_Point_msg_Point_j1 s5 r ∧ σ.Le τ5 ∧ ESub ρ [(4, .bool false)] ∧ gs = []) ?_ (fun hk5 => ?_)
  ·rintro ρ5 τ5 gs5 ⟨s5, h, hl5, hρ, rfl⟩
   refine st_es hρ ?_
   refine Z 4 rfl ?_
   obtain rfl := Eq.symm h
   exact st_ret (gs' := []) Tryz.func43 rfl (List.Sublist.refl _) hl5 ⟨rfl, rfl⟩
  refine Z 3 rfl ?_
  refine o_lenI rfl rfl rfl z_slT27 rfl hs2 ?_
  refine Z 2 rfl ?_
  obtain ⟨e6, hL6, hA6⟩ := h
  refine st_loop hL6 (fun (s6 : Int) ρ τ6 gs => σ.Le τ6 ∧ ESub ρ [(0, v1), (1, v3), (4, .bool false), (12, .I (a0.length : Int)), (13, .I s6)] ∧ gs = []) ⟨Sto.Le.refl _, rfl, rfl⟩ ?_
  rintro s6 o6 h he6 ρ6 τ6 gs6 ⟨hl6, hρ, rfl⟩ hn6
  refine st_es hρ ?_
  refine Z 5 rfl ?_
  refine st_if rfl h (fun h => ?_) (fun h => ?_)
  ·refine Z 9 rfl ?_
   obtain ⟨q7, hf8, q12, hf13, h⟩ := h
   refine st_draw 9 (dl [.v (v1), .v (.I s6), .t fun τ v => ∃ (b9 : Nat) (of10 : Nat) (vsb9 : List Value), (.pointer (some ⟨b9, of10, none⟩) : Value) = v ∧ CelN τ ⟨b9, of10, none⟩ vsb9 ∧ (kP (kI .i64) (kI .i64)).rep τ vsb9 q7, .v (.agg #[.I q7.1, .I q7.2]), .v (v3), .v (.I s6), .t fun τ v => ∃ (b14 : Nat) (of15 : Nat) (vsb14 : List Value), (.pointer (some ⟨b14, of15, none⟩) : Value) = v ∧ CelN τ ⟨b14, of15, none⟩ vsb14 ∧ (kP (kI .i64) (kI .i64)).rep τ vsb14 q12, .v (.agg #[.I q12.1, .I q12.2]), .v (.bool (!((decide (q7.1 = q12.1)) && ((decide (q7.2 = q12.2)) && true))))]) (fun _ _ => []) z_mix rfl (dl_mono ⟨fun _ _ _ hl ⟨b9, of10, vsb9, hv, hc11, hrepb9⟩ => ⟨b9, of10, vsb9, hv, hc11.up hl, Kd.mono _ hl hrepb9⟩, ⟨fun _ _ _ hl ⟨b14, of15, vsb14, hv, hc16, hrepb14⟩ => ⟨b14, of15, vsb14, hv, hc16.up hl, Kd.mono _ hl hrepb14⟩, trivial⟩⟩) (allB_cons (allB_cons (allB_cons (allB_cons (allB_cons (allB_cons (allB_cons (allB_cons (allB_cons allB_nil (p1 dA)) (p1 dA)) ?_) ?_) (p1 dA)) (p1 dA)) ?_) ?_) ?_) ?_
   ·intro ρ' τ pool rs hl hd hout hk
    obtain ⟨_, e0, rfl⟩ := hd 0 rfl
    obtain ⟨_, e1, rfl⟩ := hd 1 rfl
    refine o_index rfl rfl rfl z_slT27 rfl e0 (hs2.up (hl6.trans hl)) e1 hf8 (fun b9 of10 vsb9 hc11 hrepb9 => ?_)
    exact st_addNil (hk _ _ (Sto.Le.refl _) ⟨b9, of10, _, rfl, hc11, hrepb9⟩)
   ·intro ρ' τ pool rs hl hd hout hk
    obtain ⟨_, e2, b9, of10, vsb9, rfl, hc11, hrepb9⟩ := hd 2 rfl
    have hrepb9 := hrepb9
    obtain ⟨_, _, rfl, rfl, rfl⟩ := hrepb9
    refine o_loadIN (vs := [.I q7.1, .I q7.2]) rfl rfl rfl z_agg84 e2 rfl (celn_part 0 rfl hc11) ?_
    exact st_addNil (hk _ _ (Sto.Le.refl _) rfl)
   ·intro ρ' τ pool rs hl hd hout hk
    obtain ⟨_, e4, rfl⟩ := hd 4 rfl
    obtain ⟨_, e5, rfl⟩ := hd 5 rfl
    refine o_index rfl rfl rfl z_slT27 rfl e4 (hs4.up (hl6.trans hl)) e5 hf13 (fun b14 of15 vsb14 hc16 hrepb14 => ?_)
    exact st_addNil (hk _ _ (Sto.Le.refl _) ⟨b14, of15, _, rfl, hc16, hrepb14⟩)
   ·intro ρ' τ pool rs hl hd hout hk
    obtain ⟨_, e6, b14, of15, vsb14, rfl, hc16, hrepb14⟩ := hd 6 rfl
    have hrepb14 := hrepb14
    obtain ⟨_, _, rfl, rfl, rfl⟩ := hrepb14
    refine o_loadIN (vs := [.I q12.1, .I q12.2]) rfl rfl rfl z_agg84 e6 rfl (celn_part 0 rfl hc16) ?_
    exact st_addNil (hk _ _ (Sto.Le.refl _) rfl)
   ·intro ρ' τ pool rs hl hd hout hk
    obtain ⟨_, e3, rfl⟩ := hd 3 rfl
    obtain ⟨_, e7, rfl⟩ := hd 7 rfl
    refine o_aggEq (b := ((decide (q7.1 = q12.1)) && ((decide (q7.2 = q12.2)) && true))) (e := (!((decide (q7.1 = q12.1)) && ((decide (q7.2 = q12.2)) && true)))) rfl rfl rfl z_eqg84 e3 e7 (fun w => by refine eq_struct Tryz.underlying84 z_held84 ?_; refine eqf_cons (r := (decide (q7.1 = q12.1))) (r' := ((decide (q7.2 = q12.2)) && true)) rfl (part_one z_sc3 rfl) (part_one z_sc3 rfl) (by exact eq_int Tryz.underlying3 _ _) ?_; refine eqf_cons (r := (decide (q7.2 = q12.2))) (r' := true) rfl (part_one z_sc3 rfl) (part_one z_sc3 rfl) (by exact eq_int Tryz.underlying3 _ _) ?_; exact eqf_nil _ _ _ _) rfl ?_
    exact st_addNil (hk _ _ (Sto.Le.refl _) rfl)
   intro ρ' τ17 vals hl17 hv hout
   refine st_ord [] _ rfl ?_
   refine st_env (ρ' := [(24, .bool (!((decide (q7.1 = q12.1)) && ((decide (q7.2 = q12.2)) && true)))), (0, v1), (1, v3), (4, .bool false), (12, .I (a0.length : Int)), (13, .I s6)]) ⟨(lv1 hv 8 rfl rfl), (hout 0 rfl).trans rfl, (hout 1 rfl).trans rfl, (hout 4 rfl).trans rfl, (hout 12 rfl).trans rfl, (hout 13 rfl).trans rfl, trivial⟩ ?_
   refine st_end ?_
   refine st_if rfl h (fun h => ?_) (fun h => ?_)
   ·refine Z 4 rfl ?_
    obtain rfl := he6 _ h
    replace h := hA6
    obtain rfl := Eq.symm h
    exact st_ret (gs' := []) Tryz.func43 rfl (List.Sublist.refl _) (hl6.trans hl17) ⟨rfl, rfl⟩
   ·refine Z 6 rfl ?_
    exact hn6 _ _ _ _ h ⟨(hl6.trans hl17), rfl, rfl⟩
  ·refine st_exit rfl ?_
   obtain rfl := he6 _ h
   replace h := hA6
   exact hk5 _ _ _ ⟨(), h, hl6, rfl, rfl⟩
theorem slices_Equal_int_int_ok {a0 : List Int} {a1 : List Int} {v1 : Value} {v3 : Value} {r : Bool} (h : slices_Equal_int_int a0 a1 r) (σ : Sto) (hs2 : Sl (kI .i64) σ v1 a0) (hs4 : Sl (kI .i64) σ v3 a1) :
    Does Tryz.prog 44 [v1, v3] σ [] (fun v τ gs => gs = [] ∧ .bool r = v) := by
 refine call_of Tryz.func44 Tryz.ntmps44 rfl rfl (fun cs fs => ?_)
 refine Z 8 rfl ?_
 refine o_lenI rfl rfl rfl z_slT28 rfl hs2 ?_
 refine o_move rfl rfl rfl rfl ?_
 refine o_lenI rfl rfl rfl z_slT28 rfl hs4 ?_
 refine Z 2 rfl ?_
 refine st_if rfl h (fun h => ?_) (fun h => ?_)
 ·refine Z 4 rfl ?_
  obtain rfl := Eq.symm h
  exact st_ret (gs' := []) Tryz.func44 rfl (List.Sublist.refl _) (Sto.Le.refl _) ⟨rfl, rfl⟩
 ·refine Z 2 rfl ?_
  refine st_cut (fun ρ τ5 gs => ∃ (s5 : Unit), slices_Equal_int_int_j1 s5 r ∧ σ.Le τ5 ∧ ESub ρ [(4, .bool false)] ∧ gs = []) ?_ (fun hk5 => ?_)
  ·rintro ρ5 τ5 gs5 ⟨s5, h, hl5, hρ, rfl⟩
   refine st_es hρ ?_
   refine Z 4 rfl ?_
   obtain rfl := Eq.symm h
   exact st_ret (gs' := []) Tryz.func44 rfl (List.Sublist.refl _) hl5 ⟨rfl, rfl⟩
  refine Z 3 rfl ?_
  refine o_lenI rfl rfl rfl z_slT28 rfl hs2 ?_
  refine Z 2 rfl ?_
  obtain ⟨e6, hL6, hA6⟩ := h
  refine st_loop hL6 (fun (s6 : Int) ρ τ6 gs => σ.Le τ6 ∧ ESub ρ [(0, v1), (1, v3), (4, .bool false), (12, .I (a0.length : Int)), (13, .I s6)] ∧ gs = []) ⟨Sto.Le.refl _, rfl, rfl⟩ ?_
  rintro s6 o6 h he6 ρ6 τ6 gs6 ⟨hl6, hρ, rfl⟩ hn6
  refine st_es hρ ?_
  refine Z 5 rfl ?_
  refine st_if rfl h (fun h => ?_) (fun h => ?_)
  ·refine Z 9 rfl ?_
   obtain ⟨q7, hf8, q12, hf13, h⟩ := h
   refine st_draw 9 (dl [.v (v1), .v (.I s6), .t fun τ v => ∃ (b9 : Nat) (of10 : Nat) (vsb9 : List Value), (.pointer (some ⟨b9, of10, none⟩) : Value) = v ∧ CelN τ ⟨b9, of10, none⟩ vsb9 ∧ (kI .i64).rep τ vsb9 q7, .v (.I q7), .v (v3), .v (.I s6), .t fun τ v => ∃ (b14 : Nat) (of15 : Nat) (vsb14 : List Value), (.pointer (some ⟨b14, of15, none⟩) : Value) = v ∧ CelN τ ⟨b14, of15, none⟩ vsb14 ∧ (kI .i64).rep τ vsb14 q12, .v (.I q12), .v (.bool (!(decide (q7 = q12))))]) (fun _ _ => []) z_mix rfl (dl_mono ⟨fun _ _ _ hl ⟨b9, of10, vsb9, hv, hc11, hrepb9⟩ => ⟨b9, of10, vsb9, hv, hc11.up hl, Kd.mono _ hl hrepb9⟩, ⟨fun _ _ _ hl ⟨b14, of15, vsb14, hv, hc16, hrepb14⟩ => ⟨b14, of15, vsb14, hv, hc16.up hl, Kd.mono _ hl hrepb14⟩, trivial⟩⟩) (allB_cons (allB_cons (allB_cons (allB_cons (allB_cons (allB_cons (allB_cons (allB_cons (allB_cons allB_nil (p1 dA)) (p1 dA)) ?_) ?_) (p1 dA)) (p1 dA)) ?_) ?_) (p1 dA)) ?_
   ·intro ρ' τ pool rs hl hd hout hk
    obtain ⟨_, e0, rfl⟩ := hd 0 rfl
    obtain ⟨_, e1, rfl⟩ := hd 1 rfl
    refine o_index rfl rfl rfl z_slT28 rfl e0 (hs2.up (hl6.trans hl)) e1 hf8 (fun b9 of10 vsb9 hc11 hrepb9 => ?_)
    exact st_addNil (hk _ _ (Sto.Le.refl _) ⟨b9, of10, _, rfl, hc11, hrepb9⟩)
   ·intro ρ' τ pool rs hl hd hout hk
    obtain ⟨_, e2, b9, of10, vsb9, rfl, hc11, hrepb9⟩ := hd 2 rfl
    have hrepb9 := hrepb9
    obtain rfl := hrepb9
    refine o_loadI (v := .I q7) rfl rfl rfl z_sc3 e2 (hc11 0 _ rfl) ?_
    exact st_addNil (hk _ _ (Sto.Le.refl _) rfl)
   ·intro ρ' τ pool rs hl hd hout hk
    obtain ⟨_, e4, rfl⟩ := hd 4 rfl
    obtain ⟨_, e5, rfl⟩ := hd 5 rfl
    refine o_index rfl rfl rfl z_slT28 rfl e4 (hs4.up (hl6.trans hl)) e5 hf13 (fun b14 of15 vsb14 hc16 hrepb14 => ?_)
    exact st_addNil (hk _ _ (Sto.Le.refl _) ⟨b14, of15, _, rfl, hc16, hrepb14⟩)
   ·intro ρ' τ pool rs hl hd hout hk
    obtain ⟨_, e6, b14, of15, vsb14, rfl, hc16, hrepb14⟩ := hd 6 rfl
    have hrepb14 := hrepb14
    obtain rfl := hrepb14
    refine o_loadI (v := .I q12) rfl rfl rfl z_sc3 e6 (hc16 0 _ rfl) ?_
    exact st_addNil (hk _ _ (Sto.Le.refl _) rfl)
   intro ρ' τ17 vals hl17 hv hout
   refine st_ord [] _ rfl ?_
   refine st_env (ρ' := [(24, .bool (!(decide (q7 = q12)))), (0, v1), (1, v3), (4, .bool false), (12, .I (a0.length : Int)), (13, .I s6)]) ⟨(lv1 hv 8 rfl rfl), (hout 0 rfl).trans rfl, (hout 1 rfl).trans rfl, (hout 4 rfl).trans rfl, (hout 12 rfl).trans rfl, (hout 13 rfl).trans rfl, trivial⟩ ?_
   refine st_end ?_
   refine st_if rfl h (fun h => ?_) (fun h => ?_)
   ·refine Z 4 rfl ?_
    obtain rfl := he6 _ h
    replace h := hA6
    obtain rfl := Eq.symm h
    exact st_ret (gs' := []) Tryz.func44 rfl (List.Sublist.refl _) (hl6.trans hl17) ⟨rfl, rfl⟩
   ·refine Z 6 rfl ?_
    exact hn6 _ _ _ _ h ⟨(hl6.trans hl17), rfl, rfl⟩
  ·refine st_exit rfl ?_
   obtain rfl := he6 _ h
   replace h := hA6
   exact hk5 _ _ _ ⟨(), h, hl6, rfl, rfl⟩
theorem msg_Same_ok {a0 : TyM} {a1 : TyM} {v1 : Value} {v2 : Value} {v5 : Value} {v6 : Value} {r : Bool} (h : msg_Same a0 a1 r) (σ : Sto) (hs3 : Sl (kP (kI .i64) (kI .i64)) σ v1 a0.2.2.1) (hs4 : Sl (kI .i64) σ v2 a0.2.2.2.1) (hs7 : Sl (kP (kI .i64) (kI .i64)) σ v5 a1.2.2.1) (hs8 : Sl (kI .i64) σ v6 a1.2.2.2.1) :
    Does Tryz.prog 22 [.agg (lM a0 v1 v2).toArray, .agg (lM a1 v5 v6).toArray] σ [] (fun v τ gs => gs = [] ∧ .bool r = v) := by
 refine call_of Tryz.func22 Tryz.ntmps22 rfl rfl (fun cs fs => ?_)
 refine Z 2 rfl ?_
 refine o_box (cs := (lM a0 v1 v2)) rfl rfl rfl rfl rfl (fun b9 => ?_)
 refine o_box (cs := (lM a1 v5 v6)) rfl rfl rfl rfl rfl (fun b10 => ?_)
 refine Z 3 rfl ?_
 refine st_cut (fun ρ τ11 gs => ∃ (s11 : Bool), msg_Same_j1 s11 r ∧ σ.Le τ11 ∧ ESub ρ [(4, .bool s11)] ∧ gs = []) ?_ (fun hk11 => ?_)
 ·rintro ρ11 τ11 gs11 ⟨s11, h, hl11, hρ, rfl⟩
  refine st_es hρ ?_
  obtain rfl := Eq.symm h
  exact st_ret (gs' := []) Tryz.func22 rfl (List.Sublist.refl _) hl11 ⟨rfl, rfl⟩
 refine ZZ 6 [1, 0] rfl rfl ?_
 refine o_mif rfl rfl rfl rfl h (fun h => ?_) (fun h => ?_)
 ·refine ZZ 4 [1, 0] rfl rfl ?_
  refine o_aggEq (b := (eqN 6 0 a0.2.1 a1.2.1)) (e := (eqN 6 0 a0.2.1 a1.2.1)) rfl rfl rfl z_eqg26 rfl rfl (fun w => by exact eq_arr (xs := a0.2.1) (ys := a1.2.1) Tryz.underlying26 Tryz.underlying3 z_info3 z_cell3) rfl ?_
  refine o_pick rfl rfl rfl rfl rfl ?_
  refine o_mif rfl rfl rfl rfl h (fun h => ?_) (fun h => ?_)
  ·refine ZZ 4 [1, 0] rfl rfl ?_
   obtain ⟨r12, hr13, h⟩ := h
   refine st_call (foot := []) rfl rfl rfl rfl rfl rfl (callV_fn z_en43 (slices_Equal_msg_Point_msg_Point_ok hr13 σ hs3 hs7)) ?_
   rintro vτ14 τ14 gsτ14 hl15 ⟨rfl, rfl⟩
   refine o_pick rfl rfl rfl rfl rfl ?_
   refine o_mif rfl rfl rfl rfl h (fun h => ?_) (fun h => ?_)
   ·refine ZZ 4 [1, 0] rfl rfl ?_
    obtain ⟨r16, hr17, h⟩ := h
    refine st_call (foot := []) rfl rfl rfl rfl rfl rfl (callV_fn z_en44 (slices_Equal_int_int_ok hr17 τ14 (hs4.up hl15) (hs8.up hl15))) ?_
    rintro vτ18 τ18 gsτ18 hl19 ⟨rfl, rfl⟩
    refine o_pick rfl rfl rfl rfl rfl ?_
    refine o_mif rfl rfl rfl rfl h (fun h => ?_) (fun h => ?_)
    ·refine ZZ 6 [1, 0] rfl rfl ?_
     refine o_mif rfl rfl rfl rfl h (fun h => ?_) (fun h => ?_)
     ·refine ZZ 8 [1, 0] rfl rfl ?_
      refine st_ord [] _ rfl ?_
      exact hk11 _ _ _ ⟨(decide (a0.t4.2 = a1.t4.2)), h, (hl15.trans hl19), rfl, rfl⟩
     ·refine Z 8 rfl ?_
      refine st_ord [] _ rfl ?_
      exact hk11 _ _ _ ⟨false, h, (hl15.trans hl19), rfl, rfl⟩
    ·refine Z 15 rfl ?_
     refine st_ord [] _ rfl ?_
     exact hk11 _ _ _ ⟨false, h, (hl15.trans hl19), rfl, rfl⟩
   ·refine Z 22 rfl ?_
    refine st_ord [] _ rfl ?_
    exact hk11 _ _ _ ⟨false, h, hl15, rfl, rfl⟩
  ·refine Z 29 rfl ?_
   refine st_ord [] _ rfl ?_
   exact hk11 _ _ _ ⟨false, h, (Sto.Le.refl _), rfl, rfl⟩
 ·refine Z 36 rfl ?_
  refine st_ord [] _ rfl ?_
  exact hk11 _ _ _ ⟨false, h, (Sto.Le.refl _), rfl, rfl⟩
theorem msg_Check_ok {a0 : TyM} {v1 : Value} {v2 : Value} {r : Int} (h : msg_Check a0 r) (σ : Sto) (hs3 : Sl (kP (kI .i64) (kI .i64)) σ v1 a0.2.2.1) (hs4 : Sl (kI .i64) σ v2 a0.2.2.2.1) :
    Does Tryz.prog 21 [.agg (lM a0 v1 v2).toArray] σ [] (fun v τ gs => gs = [] ∧ .I r = v) := by
 refine call_of Tryz.func21 Tryz.ntmps21 rfl rfl (fun cs fs => ?_)
 refine Z 2 rfl ?_
 refine o_box (cs := (lM a0 v1 v2)) rfl rfl rfl rfl rfl (fun b5 => ?_)
 refine Z 4 rfl ?_
 refine st_draw 3 (dl [.v (.agg (lM a0 v1 v2).toArray), .t fun τ v => ∃ (b6 : Nat), (.Pb b6 : Value) = v, .v (.I 9)]) (oneG 1 (.cells lY.toArray 30 (0, 0))) z_mix rfl (dl_mono ⟨fun _ _ _ hl ⟨b6, hv⟩ => ⟨b6, hv⟩, trivial⟩) (allB_cons (allB_cons (allB_cons allB_nil ?_) ?_) (p1o dA)) ?_
 ·intro ρ' τ pool rs hl hd hout hk
  refine o_loadN (j := 0) (vs := (lM a0 v1 v2)) rfl rfl rfl z_agg30 ((hout 1 rfl).trans rfl) rfl rfl ?_
  exact st_addNil (hk _ _ (Sto.Le.refl _) rfl)
 ·intro ρ' τ pool rs hl hd hout hk
  refine o_alloc rfl rfl rfl z_zero30 (fun b6 => ?_)
  exact hk _ _ (Sto.Le.refl _) ⟨b6, rfl⟩
 intro ρ' τ7 vals hl7 hv hout
 obtain ⟨l1, b6, t1⟩ := hv 1 (by decide)
 replace l1 : Eng.look ρ' 4 = some (.Pb b6) := l1.trans (congrArg some (Eq.symm t1))
 refine st_gs [[(b5, .cells (lM a0 v1 v2).toArray 30 (0, 0))], [(b6, .cells lY.toArray 30 (0, 0))]] (by rw [oneG_flat (by decide) (Eq.symm t1)]; rfl) ?_
 refine st_env (ρ' := [(7, .agg (lM a0 v1 v2).toArray), (4, .Pb b6), (3, .I 9), (1, .Pb b5), (2, .I 0)]) ⟨(lv1 hv 0 rfl rfl), l1, (lv1 hv 2 rfl rfl), (hout 1 rfl).trans rfl, (hout 2 rfl).trans rfl, trivial⟩ ?_
 refine o_store (j := 1) (vs := (lM a0 v1 v2)) (cs' := (lM a0 v1 v2)) rfl rfl rfl z_size30 rfl rfl rfl (ones_cons rfl (ones_cons rfl (ones_cons rfl (ones_cons rfl (ones_cons rfl (ones_cons rfl (ones_cons rfl (ones_cons (hs3.up hl7).one' (ones_cons (hs4.up hl7).one' (ones_cons rfl (ones_cons rfl ones_nil))))))))))) rfl rfl rfl ?_
 refine Z 4 rfl ?_
 refine st_cut (fun ρ τ8 gs => ∃ (s8 : Int × Int × Int × Int × Int × Int × Int × Int × (List (Int × Int)) × List Int × ByteArray × ByteArray) (v9 : Value) (v11 : Value), msg_Check_j1 a0 s8 r ∧ τ7.Le τ8 ∧ ESub ρ [(4, .Pb b6), (3, .I s8.1), (1, .Pb b5), (2, .I 0)] ∧ gs = [[(b5, .cells (lM a0 v1 v2).toArray 30 (0, 0))], [(b6, .cells #[.I s8.2.1, .I s8.2.2.1, .I s8.2.2.2.1, .I s8.t4.1, .I s8.t4.2.1, .I s8.t4.2.2.1, .I s8.t4.2.2.2.1, v9, v11, .string s8.t4.t4.2.2.1, .string s8.t4.t4.2.2.2] 30 (0, 0))]] ∧ Sl (kP (kI .i64) (kI .i64)) τ8 v9 s8.t4.t4.1 ∧ Sl (kI .i64) τ8 v11 s8.t4.t4.2.1) ?_ (fun hk8 => ?_)
 ·rintro ρ8 τ8 gs8 ⟨s8, v9, v11, h, hl8, hρ, rfl, hs10, hs12⟩
  refine st_es hρ ?_
  refine Z 2 rfl ?_
  refine st_cut (fun ρ τ13 gs => ∃ (s13 : Bool), msg_Check_j2 s8 s13 r ∧ τ8.Le τ13 ∧ ESub ρ [(3, .I s8.1), (2, .I 0), (34, .bool s13)] ∧ gs = []) ?_ (fun hk13 => ?_)
  ·rintro ρ13 τ13 gs13 ⟨s13, h, hl13, hρ, rfl⟩
   refine st_es hρ ?_
   refine st_if rfl h (fun h => ?_) (fun h => ?_)
   ·refine Z 4 rfl ?_
    obtain rfl := Eq.symm h
    exact st_ret (gs' := []) Tryz.func21 rfl (List.Sublist.refl _) ((hl7.trans hl8).trans hl13) ⟨rfl, rfl⟩
   ·refine Z 6 rfl ?_
    obtain rfl := Eq.symm h
    exact st_ret (gs' := []) Tryz.func21 rfl (List.Sublist.refl _) ((hl7.trans hl8).trans hl13) ⟨rfl, rfl⟩
  refine Z 3 rfl ?_
  refine o_mif rfl rfl rfl rfl h (fun h => ?_) (fun h => ?_)
  ·refine ZZ 4 [1, 0] rfl rfl ?_
   obtain ⟨r14, hr15, h⟩ := h
   refine st_call (foot := []) rfl rfl rfl rfl rfl rfl (callV_fn z_en22 (msg_Same_ok hr15 τ8 hs10 hs12 Sl.nil Sl.nil)) ?_
   rintro vτ16 τ16 gsτ16 hl17 ⟨rfl, rfl⟩
   refine Z 3 rfl ?_
   refine st_ord [] _ rfl ?_
   exact hk13 _ _ _ ⟨(!r14), h, hl17, rfl, rfl⟩
  ·refine Z 8 rfl ?_
   refine st_ord [] _ rfl ?_
   exact hk13 _ _ _ ⟨false, h, (Sto.Le.refl _), rfl, rfl⟩
 refine ZZ 4 [0] rfl rfl ?_
 obtain ⟨r18, hr19, h⟩ := h
 refine st_call (foot := []) rfl rfl rfl rfl rfl rfl (callV_fn z_en40 (field_Of_ok hr19 τ7)) ?_
 rintro vτ20 τ20 gsτ20 hl21 ⟨v22, rfl, rfl, hs23⟩
 refine o_lenI rfl rfl rfl z_slT86 rfl hs23 ?_
 refine Z 2 rfl ?_
 obtain ⟨e24, hL24, hA24⟩ := h
 refine st_loop hL24 (fun (s24 : Int × Int × Int × Int × Int × Int × Int × Int × Int × (List (Int × Int)) × List Int × ByteArray × ByteArray) ρ τ24 gs => τ20.Le τ24 ∧ ∃ (v25 : Value) (v27 : Value), ESub ρ [(4, .Pb b6), (3, .I s24.1), (1, .Pb b5), (2, .I 0), (10, v22), (11, .I (r18.length : Int)), (12, .I s24.2.1)] ∧ gs = [[(b5, .cells (lM a0 v1 v2).toArray 30 (0, 0))], [(b6, .cells #[.I s24.2.2.1, .I s24.2.2.2.1, .I s24.t4.1, .I s24.t4.2.1, .I s24.t4.2.2.1, .I s24.t4.2.2.2.1, .I s24.t4.t4.1, v25, v27, .string s24.t4.t4.2.2.2.1, .string s24.t4.t4.t4] 30 (0, 0))]] ∧ Sl (kP (kI .i64) (kI .i64)) τ24 v25 s24.t4.t4.2.1 ∧ Sl (kI .i64) τ24 v27 s24.t4.t4.2.2.1) ⟨Sto.Le.refl _, _, _, rfl, rfl, (hs3.up (hl7.trans hl21)), (hs4.up (hl7.trans hl21))⟩ ?_
 rintro s24 o24 h he24 ρ24 τ24 gs24 ⟨hl24, v25, v27, hρ, rfl, hs26, hs28⟩ hn24
 refine st_es hρ ?_
 refine Z 5 rfl ?_
 refine st_if rfl h (fun h => ?_) (fun h => ?_)
 ·refine Z 5 rfl ?_
  obtain ⟨q29, hf30, h⟩ := h
  refine o_index rfl rfl rfl z_slT86 rfl rfl (hs23.up hl24) rfl hf30 (fun b31 of32 vs hc33 hrep => ?_)
  obtain ⟨_, _, rfl, rfl, ⟨_, _, rfl, rfl, ⟨_, _, rfl, rfl, ⟨_, _, rfl, rfl, ⟨_, _, rfl, rfl, ⟨_, _, rfl, rfl, rfl⟩⟩⟩⟩⟩⟩ := hrep
  refine o_loadIN (vs := (lA q29)) rfl rfl rfl z_agg89 rfl rfl (celn_part 0 rfl hc33) ?_
  refine o_alloc rfl rfl rfl z_zero89 (fun b34 => ?_)
  refine ZZ 7 [0, 1, 0] rfl rfl ?_
  obtain ⟨r35, hr36, h⟩ := h
  refine st_call (foot := []) rfl rfl rfl rfl rfl rfl (callV_fn z_en41 (msg_wrong_ok hr36 τ24 (hs3.up ((hl7.trans hl21).trans hl24)) (hs4.up ((hl7.trans hl21).trans hl24)))) ?_
  rintro vτ37 τ37 gsτ37 hl38 ⟨rfl, rfl⟩
  refine Z 7 rfl ?_
  refine st_if rfl h (fun h => ?_) (fun h => ?_)
  ·refine st_exit rfl ?_
   obtain rfl := he24 _ h
   replace h := hA24
   refine st_ord [1, 1] _ rfl ?_
   exact hk8 _ _ _ ⟨(r35, s24.2.2.1, s24.2.2.2.1, s24.t4.1, s24.t4.2.1, s24.t4.2.2.1, s24.t4.2.2.2.1, s24.t4.t4.1, s24.t4.t4.2.1, s24.t4.t4.2.2.1, s24.t4.t4.2.2.2.1, s24.t4.t4.t4), _, _, h, ((hl21.trans hl24).trans hl38), rfl, rfl, (hs26.up hl38), (hs28.up hl38)⟩
  ·refine ZZ 4 [2, 0] rfl rfl ?_
   obtain ⟨r39, hr40, h⟩ := h
   refine st_call (foot := []) rfl rfl rfl rfl rfl rfl (callV_fn z_en42 (msg_without_ok hr40 τ37 (hs26.up hl38) (hs28.up hl38))) ?_
   rintro vτ41 τ41 gsτ41 hl42 ⟨v43, v44, rfl, rfl, hs45, hs46⟩
   refine o_store (j := 2) (vs := (lM r39 v43 v44)) (cs' := (lM r39 v43 v44)) rfl rfl rfl z_size30 rfl rfl rfl (ones_cons rfl (ones_cons rfl (ones_cons rfl (ones_cons rfl (ones_cons rfl (ones_cons rfl (ones_cons rfl (ones_cons hs45.one' (ones_cons hs46.one' (ones_cons rfl (ones_cons rfl ones_nil))))))))))) rfl rfl rfl ?_
   refine Z 6 rfl ?_
   refine st_ord [1, 1] _ rfl ?_
   exact hn24 _ _ _ _ h ⟨((hl24.trans hl38).trans hl42), _, _, rfl, rfl, hs45, hs46⟩
 ·refine st_exit rfl ?_
  obtain rfl := he24 _ h
  replace h := hA24
  exact hk8 _ _ _ ⟨(s24.1, s24.2.2.1, s24.2.2.2.1, s24.t4.1, s24.t4.2.1, s24.t4.2.2.1, s24.t4.2.2.2.1, s24.t4.t4.1, s24.t4.t4.2.1, s24.t4.t4.2.2.1, s24.t4.t4.2.2.2.1, s24.t4.t4.t4), _, _, h, (hl21.trans hl24), rfl, rfl, hs26, hs28⟩
theorem event_Word_ok {a0 : Int} {r : ByteArray} (h : event_Word a0 r) (σ : Sto)  :
    Does Tryz.prog 23 [.I a0] σ [] (fun v τ gs => gs = [] ∧ .string r = v) := by
 refine call_of Tryz.func23 Tryz.ntmps23 rfl rfl (fun cs fs => ?_)
 refine Z 2 rfl ?_
 refine o_assign rfl rfl rfl (ev_str z_str19) ?_
 refine Z 12 rfl ?_
 refine st_if rfl h (fun h => ?_) (fun h => ?_)
 ·refine Z 2 rfl ?_
  refine o_assign rfl rfl rfl (ev_str z_str20) ?_
  refine st_end ?_
  obtain rfl := Eq.symm h
  exact st_ret (gs' := []) Tryz.func23 rfl (List.Sublist.refl _) (Sto.Le.refl _) ⟨rfl, rfl⟩
 ·refine Z 5 rfl ?_
  refine st_if rfl h (fun h => ?_) (fun h => ?_)
  ·refine Z 2 rfl ?_
   refine o_assign rfl rfl rfl (ev_str z_str21) ?_
   refine st_end ?_
   obtain rfl := Eq.symm h
   exact st_ret (gs' := []) Tryz.func23 rfl (List.Sublist.refl _) (Sto.Le.refl _) ⟨rfl, rfl⟩
  ·refine Z 5 rfl ?_
   refine st_if rfl h (fun h => ?_) (fun h => ?_)
   ·refine Z 2 rfl ?_
    refine o_assign rfl rfl rfl (ev_str z_str22) ?_
    refine st_end ?_
    obtain rfl := Eq.symm h
    exact st_ret (gs' := []) Tryz.func23 rfl (List.Sublist.refl _) (Sto.Le.refl _) ⟨rfl, rfl⟩
   ·refine Z 5 rfl ?_
    refine st_if rfl h (fun h => ?_) (fun h => ?_)
    ·refine Z 2 rfl ?_
     refine o_assign rfl rfl rfl (ev_str z_str23) ?_
     refine st_end ?_
     obtain rfl := Eq.symm h
     exact st_ret (gs' := []) Tryz.func23 rfl (List.Sublist.refl _) (Sto.Le.refl _) ⟨rfl, rfl⟩
    ·refine Z 5 rfl ?_
     refine st_if rfl h (fun h => ?_) (fun h => ?_)
     ·refine Z 2 rfl ?_
      refine o_assign rfl rfl rfl (ev_str z_str24) ?_
      refine st_end ?_
      obtain rfl := Eq.symm h
      exact st_ret (gs' := []) Tryz.func23 rfl (List.Sublist.refl _) (Sto.Le.refl _) ⟨rfl, rfl⟩
     ·refine Z 5 rfl ?_
      refine st_if rfl h (fun h => ?_) (fun h => ?_)
      ·refine Z 2 rfl ?_
       refine o_assign rfl rfl rfl (ev_str z_str25) ?_
       refine st_end ?_
       obtain rfl := Eq.symm h
       exact st_ret (gs' := []) Tryz.func23 rfl (List.Sublist.refl _) (Sto.Le.refl _) ⟨rfl, rfl⟩
      ·refine Z 5 rfl ?_
       refine st_if rfl h (fun h => ?_) (fun h => ?_)
       ·refine Z 2 rfl ?_
        refine o_assign rfl rfl rfl (ev_str z_str26) ?_
        refine st_end ?_
        obtain rfl := Eq.symm h
        exact st_ret (gs' := []) Tryz.func23 rfl (List.Sublist.refl _) (Sto.Le.refl _) ⟨rfl, rfl⟩
       ·refine Z 5 rfl ?_
        refine st_if rfl h (fun h => ?_) (fun h => ?_)
        ·refine Z 2 rfl ?_
         refine o_assign rfl rfl rfl (ev_str z_str27) ?_
         refine st_end ?_
         obtain rfl := Eq.symm h
         exact st_ret (gs' := []) Tryz.func23 rfl (List.Sublist.refl _) (Sto.Le.refl _) ⟨rfl, rfl⟩
        ·refine Z 5 rfl ?_
         refine st_if rfl h (fun h => ?_) (fun h => ?_)
         ·refine Z 2 rfl ?_
          refine o_assign rfl rfl rfl (ev_str z_str28) ?_
          refine st_end ?_
          obtain rfl := Eq.symm h
          exact st_ret (gs' := []) Tryz.func23 rfl (List.Sublist.refl _) (Sto.Le.refl _) ⟨rfl, rfl⟩
         ·refine Z 5 rfl ?_
          refine st_if rfl h (fun h => ?_) (fun h => ?_)
          ·refine Z 2 rfl ?_
           refine o_assign rfl rfl rfl (ev_str z_str29) ?_
           refine st_end ?_
           obtain rfl := Eq.symm h
           exact st_ret (gs' := []) Tryz.func23 rfl (List.Sublist.refl _) (Sto.Le.refl _) ⟨rfl, rfl⟩
          ·refine Z 5 rfl ?_
           refine st_if rfl h (fun h => ?_) (fun h => ?_)
           ·refine Z 2 rfl ?_
            refine o_assign rfl rfl rfl (ev_str z_str30) ?_
            refine st_end ?_
            obtain rfl := Eq.symm h
            exact st_ret (gs' := []) Tryz.func23 rfl (List.Sublist.refl _) (Sto.Le.refl _) ⟨rfl, rfl⟩
           ·refine Z 5 rfl ?_
            refine st_if rfl h (fun h => ?_) (fun h => ?_)
            ·refine Z 2 rfl ?_
             refine o_assign rfl rfl rfl (ev_str z_str31) ?_
             refine st_end ?_
             obtain rfl := Eq.symm h
             exact st_ret (gs' := []) Tryz.func23 rfl (List.Sublist.refl _) (Sto.Le.refl _) ⟨rfl, rfl⟩
            ·refine Z 5 rfl ?_
             refine st_if rfl h (fun h => ?_) (fun h => ?_)
             ·refine Z 2 rfl ?_
              refine o_assign rfl rfl rfl (ev_str z_str32) ?_
              refine st_end ?_
              obtain rfl := Eq.symm h
              exact st_ret (gs' := []) Tryz.func23 rfl (List.Sublist.refl _) (Sto.Le.refl _) ⟨rfl, rfl⟩
             ·refine Z 5 rfl ?_
              refine st_if rfl h (fun h => ?_) (fun h => ?_)
              ·refine Z 2 rfl ?_
               refine o_assign rfl rfl rfl (ev_str z_str33) ?_
               refine st_end ?_
               obtain rfl := Eq.symm h
               exact st_ret (gs' := []) Tryz.func23 rfl (List.Sublist.refl _) (Sto.Le.refl _) ⟨rfl, rfl⟩
              ·refine Z 5 rfl ?_
               refine st_if rfl h (fun h => ?_) (fun h => ?_)
               ·refine Z 2 rfl ?_
                refine o_assign rfl rfl rfl (ev_str z_str34) ?_
                refine st_end ?_
                obtain rfl := Eq.symm h
                exact st_ret (gs' := []) Tryz.func23 rfl (List.Sublist.refl _) (Sto.Le.refl _) ⟨rfl, rfl⟩
               ·refine Z 5 rfl ?_
                refine st_if rfl h (fun h => ?_) (fun h => ?_)
                ·refine Z 2 rfl ?_
                 refine o_assign rfl rfl rfl (ev_str z_str18) ?_
                 refine st_end ?_
                 obtain rfl := Eq.symm h
                 exact st_ret (gs' := []) Tryz.func23 rfl (List.Sublist.refl _) (Sto.Le.refl _) ⟨rfl, rfl⟩
                ·refine Z 4 rfl ?_
                 refine o_assign rfl rfl rfl (ev_str z_str19) ?_
                 refine st_end ?_
                 obtain rfl := Eq.symm h
                 exact st_ret (gs' := []) Tryz.func23 rfl (List.Sublist.refl _) (Sto.Le.refl _) ⟨rfl, rfl⟩
theorem log_Check_ok {a0 : Int × Int × Int × Int × (TyM)} {v1 : Value} {v2 : Value} {r : Int} (h : log_Check a0 r) (σ : Sto) (hs3 : Sl (kP (kI .i64) (kI .i64)) σ v1 a0.t4.2.2.1) (hs4 : Sl (kI .i64) σ v2 a0.t4.2.2.2.1) :
    Does Tryz.prog 7 [.agg [.I a0.1, .int .u32 a0.2.1, .I a0.2.2.1, .I a0.2.2.2.1, .I a0.t4.1, .I (a0.t4.2.1.getD 0 0), .I (a0.t4.2.1.getD 1 0), .I (a0.t4.2.1.getD 2 0), .I (a0.t4.2.1.getD 3 0), .I (a0.t4.2.1.getD 4 0), .I (a0.t4.2.1.getD 5 0), v1, v2, .string a0.t4.t4.1, .string a0.t4.t4.2].toArray] σ [] (fun v τ gs => gs = [] ∧ .I r = v) := by
 refine call_of Tryz.func7 Tryz.ntmps7 rfl rfl (fun cs fs => ?_)
 refine Z 2 rfl ?_
 refine o_box (cs := [.I a0.1, .int .u32 a0.2.1, .I a0.2.2.1, .I a0.2.2.2.1, .I a0.t4.1, .I (a0.t4.2.1.getD 0 0), .I (a0.t4.2.1.getD 1 0), .I (a0.t4.2.1.getD 2 0), .I (a0.t4.2.1.getD 3 0), .I (a0.t4.2.1.getD 4 0), .I (a0.t4.2.1.getD 5 0), v1, v2, .string a0.t4.t4.1, .string a0.t4.t4.2]) rfl rfl rfl rfl rfl (fun b5 => ?_)
 refine Z 3 rfl ?_
 refine st_cut (fun ρ τ6 gs => ∃ (s6 : Unit), log_Check_j1 a0 s6 r ∧ σ.Le τ6 ∧ ESub ρ [(1, .Pb b5), (2, .I 0)] ∧ gs = [[(b5, .cells #[.I a0.1, .int .u32 a0.2.1, .I a0.2.2.1, .I a0.2.2.2.1, .I a0.t4.1, .I (a0.t4.2.1.getD 0 0), .I (a0.t4.2.1.getD 1 0), .I (a0.t4.2.1.getD 2 0), .I (a0.t4.2.1.getD 3 0), .I (a0.t4.2.1.getD 4 0), .I (a0.t4.2.1.getD 5 0), v1, v2, .string a0.t4.t4.1, .string a0.t4.t4.2] 32 (0, 0))]]) ?_ (fun hk6 => ?_)
 ·rintro ρ6 τ6 gs6 ⟨s6, h, hl6, hρ, rfl⟩
  refine st_es hρ ?_
  refine Z 2 rfl ?_
  refine st_cut (fun ρ τ7 gs => ∃ (s7 : Bool), log_Check_j2 s7 r ∧ τ6.Le τ7 ∧ ESub ρ [(2, .I 0), (65, .bool s7)] ∧ gs = []) ?_ (fun hk7 => ?_)
  ·rintro ρ7 τ7 gs7 ⟨s7, h, hl7, hρ, rfl⟩
   refine st_es hρ ?_
   refine st_if rfl h (fun h => ?_) (fun h => ?_)
   ·refine Z 4 rfl ?_
    obtain rfl := Eq.symm h
    exact st_ret (gs' := []) Tryz.func7 rfl (List.Sublist.refl _) (hl6.trans hl7) ⟨rfl, rfl⟩
   ·refine Z 5 rfl ?_
    obtain rfl := Eq.symm h
    exact st_ret (gs' := []) Tryz.func7 rfl (List.Sublist.refl _) (hl6.trans hl7) ⟨rfl, rfl⟩
  refine ZZ 4 [0] rfl rfl ?_
  refine o_mif rfl rfl rfl rfl h (fun h => ?_) (fun h => ?_)
  ·refine ZZ 5 [0] rfl rfl ?_
   refine st_ord [] _ rfl ?_
   exact hk7 _ _ _ ⟨(!(decide (a0.2.2.2.1 = 0))), h, (Sto.Le.refl _), rfl, rfl⟩
  ·refine Z 5 rfl ?_
   refine st_ord [] _ rfl ?_
   exact hk7 _ _ _ ⟨false, h, (Sto.Le.refl _), rfl, rfl⟩
 refine Z 2 rfl ?_
 refine st_cut (fun ρ τ8 gs => ∃ (s8 : Bool), log_Check_j3 a0 s8 r ∧ σ.Le τ8 ∧ ESub ρ [(1, .Pb b5), (2, .I 0), (4, .bool s8)] ∧ gs = [[(b5, .cells #[.I a0.1, .int .u32 a0.2.1, .I a0.2.2.1, .I a0.2.2.2.1, .I a0.t4.1, .I (a0.t4.2.1.getD 0 0), .I (a0.t4.2.1.getD 1 0), .I (a0.t4.2.1.getD 2 0), .I (a0.t4.2.1.getD 3 0), .I (a0.t4.2.1.getD 4 0), .I (a0.t4.2.1.getD 5 0), v1, v2, .string a0.t4.t4.1, .string a0.t4.t4.2] 32 (0, 0))]]) ?_ (fun hk8 => ?_)
 ·rintro ρ8 τ8 gs8 ⟨s8, h, hl8, hρ, rfl⟩
  refine st_es hρ ?_
  refine st_if rfl h (fun h => ?_) (fun h => ?_)
  ·refine Z 4 rfl ?_
   refine st_ord [] _ rfl ?_
   obtain rfl := Eq.symm h
   exact st_ret (gs' := []) Tryz.func7 rfl (List.Sublist.refl _) hl8 ⟨rfl, rfl⟩
  ·refine st_seq ?_
   refine st_cut (fun ρ τ9 gs => ∃ (s9 : Bool), log_Check_j4 a0 s9 r ∧ τ8.Le τ9 ∧ ESub ρ [(1, .Pb b5), (2, .I 0), (13, .bool s9)] ∧ gs = [[(b5, .cells #[.I a0.1, .int .u32 a0.2.1, .I a0.2.2.1, .I a0.2.2.2.1, .I a0.t4.1, .I (a0.t4.2.1.getD 0 0), .I (a0.t4.2.1.getD 1 0), .I (a0.t4.2.1.getD 2 0), .I (a0.t4.2.1.getD 3 0), .I (a0.t4.2.1.getD 4 0), .I (a0.t4.2.1.getD 5 0), v1, v2, .string a0.t4.t4.1, .string a0.t4.t4.2] 32 (0, 0))]]) ?_ (fun hk9 => ?_)
   ·rintro ρ9 τ9 gs9 ⟨s9, h, hl9, hρ, rfl⟩
    refine st_es hρ ?_
    refine st_if rfl h (fun h => ?_) (fun h => ?_)
    ·refine Z 4 rfl ?_
     refine st_ord [] _ rfl ?_
     obtain rfl := Eq.symm h
     exact st_ret (gs' := []) Tryz.func7 rfl (List.Sublist.refl _) (hl8.trans hl9) ⟨rfl, rfl⟩
    ·refine ZZ 7 [0] rfl rfl ?_
     refine st_if rfl h (fun h => ?_) (fun h => ?_)
     ·refine ZZ 4 [0] rfl rfl ?_
      obtain ⟨r10, hr11, h⟩ := h
      refine st_call (foot := []) rfl rfl rfl rfl rfl rfl (callV_fn z_en21 (msg_Check_ok hr11 τ9 (hs3.up (hl8.trans hl9)) (hs4.up (hl8.trans hl9)))) ?_
      rintro vτ12 τ12 gsτ12 hl13 ⟨rfl, rfl⟩
      refine Z 7 rfl ?_
      refine st_if rfl h (fun h => ?_) (fun h => ?_)
      ·refine Z 5 rfl ?_
       refine st_ord [] _ rfl ?_
       obtain rfl := Eq.symm h
       exact st_ret (gs' := []) Tryz.func7 rfl (List.Sublist.refl _) ((hl8.trans hl9).trans hl13) ⟨rfl, rfl⟩
      ·refine Z 2 rfl ?_
       exact hk6 _ _ _ ⟨(), h, ((hl8.trans hl9).trans hl13), rfl, rfl⟩
     ·refine st_seq ?_
      refine st_cut (fun ρ τ14 gs => ∃ (s14 : Bool), log_Check_j5 a0 s14 r ∧ τ9.Le τ14 ∧ ESub ρ [(1, .Pb b5), (2, .I 0), (37, .bool s14)] ∧ gs = [[(b5, .cells #[.I a0.1, .int .u32 a0.2.1, .I a0.2.2.1, .I a0.2.2.2.1, .I a0.t4.1, .I (a0.t4.2.1.getD 0 0), .I (a0.t4.2.1.getD 1 0), .I (a0.t4.2.1.getD 2 0), .I (a0.t4.2.1.getD 3 0), .I (a0.t4.2.1.getD 4 0), .I (a0.t4.2.1.getD 5 0), v1, v2, .string a0.t4.t4.1, .string a0.t4.t4.2] 32 (0, 0))]]) ?_ (fun hk14 => ?_)
      ·rintro ρ14 τ14 gs14 ⟨s14, h, hl14, hρ, rfl⟩
       refine st_es hρ ?_
       refine st_if rfl h (fun h => ?_) (fun h => ?_)
       ·refine Z 4 rfl ?_
        refine st_ord [] _ rfl ?_
        obtain rfl := Eq.symm h
        exact st_ret (gs' := []) Tryz.func7 rfl (List.Sublist.refl _) ((hl8.trans hl9).trans hl14) ⟨rfl, rfl⟩
       ·refine st_seq ?_
        refine st_cut (fun ρ τ15 gs => ∃ (s15 : Bool), log_Check_j6 a0 s15 r ∧ τ14.Le τ15 ∧ ESub ρ [(1, .Pb b5), (2, .I 0), (48, .bool s15)] ∧ gs = [[(b5, .cells #[.I a0.1, .int .u32 a0.2.1, .I a0.2.2.1, .I a0.2.2.2.1, .I a0.t4.1, .I (a0.t4.2.1.getD 0 0), .I (a0.t4.2.1.getD 1 0), .I (a0.t4.2.1.getD 2 0), .I (a0.t4.2.1.getD 3 0), .I (a0.t4.2.1.getD 4 0), .I (a0.t4.2.1.getD 5 0), v1, v2, .string a0.t4.t4.1, .string a0.t4.t4.2] 32 (0, 0))]]) ?_ (fun hk15 => ?_)
        ·rintro ρ15 τ15 gs15 ⟨s15, h, hl15, hρ, rfl⟩
         refine st_es hρ ?_
         refine st_if rfl h (fun h => ?_) (fun h => ?_)
         ·refine Z 4 rfl ?_
          refine st_ord [] _ rfl ?_
          obtain rfl := Eq.symm h
          exact st_ret (gs' := []) Tryz.func7 rfl (List.Sublist.refl _) (((hl8.trans hl9).trans hl14).trans hl15) ⟨rfl, rfl⟩
         ·refine Z 2 rfl ?_
          exact hk6 _ _ _ ⟨(), h, (((hl8.trans hl9).trans hl14).trans hl15), rfl, rfl⟩
        refine ZZ 4 [0] rfl rfl ?_
        refine o_mif rfl rfl rfl rfl h (fun h => ?_) (fun h => ?_)
        ·refine ZZ 2 [0] rfl rfl ?_
         obtain ⟨r16, hr17, h⟩ := h
         refine st_call (foot := []) rfl rfl rfl rfl rfl rfl (callV_fn z_en23 (event_Word_ok hr17 τ14)) ?_
         rintro vτ18 τ18 gsτ18 hl19 ⟨rfl, rfl⟩
         refine o_sbin (v := .bool (decide (r16 = (bstr [])))) rfl rfl rfl rfl (ev_str z_str19) rfl ?_
         refine Z 3 rfl ?_
         exact hk15 _ _ _ ⟨(decide (r16 = (bstr []))), h, hl19, rfl, rfl⟩
        ·refine Z 7 rfl ?_
         exact hk15 _ _ _ ⟨false, h, (Sto.Le.refl _), rfl, rfl⟩
      refine ZZ 4 [0] rfl rfl ?_
      refine o_mif rfl rfl rfl rfl h (fun h => ?_) (fun h => ?_)
      ·refine Z 8 rfl ?_
       exact hk14 _ _ _ ⟨true, h, (Sto.Le.refl _), rfl, rfl⟩
      ·refine ZZ 3 [0] rfl rfl ?_
       obtain ⟨r20, hr21, h⟩ := h
       refine st_call (foot := []) rfl rfl rfl rfl rfl rfl (callV_fn z_en22 (msg_Same_ok hr21 τ9 (hs3.up (hl8.trans hl9)) (hs4.up (hl8.trans hl9)) Sl.nil Sl.nil)) ?_
       rintro vτ22 τ22 gsτ22 hl23 ⟨rfl, rfl⟩
       refine Z 4 rfl ?_
       exact hk14 _ _ _ ⟨(!r20), h, hl23, rfl, rfl⟩
   refine ZZ 4 [0] rfl rfl ?_
   refine o_mif rfl rfl rfl rfl h (fun h => ?_) (fun h => ?_)
   ·refine ZZ 4 [0] rfl rfl ?_
    refine o_mif rfl rfl rfl rfl h (fun h => ?_) (fun h => ?_)
    ·refine ZZ 6 [0] rfl rfl ?_
     exact hk9 _ _ _ ⟨(!(decide (a0.2.2.1 = 2))), h, (Sto.Le.refl _), rfl, rfl⟩
    ·refine Z 6 rfl ?_
     exact hk9 _ _ _ ⟨false, h, (Sto.Le.refl _), rfl, rfl⟩
   ·refine Z 11 rfl ?_
    exact hk9 _ _ _ ⟨false, h, (Sto.Le.refl _), rfl, rfl⟩
 refine ZZ 4 [0] rfl rfl ?_
 refine o_mif rfl rfl rfl rfl h (fun h => ?_) (fun h => ?_)
 ·refine Z 6 rfl ?_
  exact hk8 _ _ _ ⟨true, h, (Sto.Le.refl _), rfl, rfl⟩
 ·refine ZZ 6 [0] rfl rfl ?_
  exact hk8 _ _ _ ⟨(decide (3 < a0.1)), h, (Sto.Le.refl _), rfl, rfl⟩
theorem ref16_All_ok {a0 : Int} {r : (List (TyA))} (h : ref16_All a0 r) (σ : Sto)  :
    Does Tryz.prog 45 [.I a0] σ [] (fun v τ gs => ∃ (v55 : Value), gs = [] ∧ v55 = v ∧ Sl (kP kS (kP (kI .i64) (kP (kI .i64) (kP (kI .i64) (kP (kI .i64) (kP (kI .i64) (kI .i64))))))) τ v55 r) := by
 refine call_of Tryz.func45 Tryz.ntmps45 rfl rfl (fun cs fs => ?_)
 refine Z 14 rfl ?_
 refine o_lit (dk := (kP kS (kP (kI .i64) (kP (kI .i64) (kP (kI .i64) (kP (kI .i64) (kP (kI .i64) (kI .i64)))))))) (xs := ([] : List (TyA))) (ps := []) (cs := []) rfl rfl rfl z_slT94 z_zero98 trivial rfl rfl rfl rfl Kd.Many.nil (fun v1 g2 ho3 => ?_)
 refine Z 3 rfl ?_
 refine st_cut (fun ρ τ4 gs => ∃ (s4 : (List (TyA))) (v5 : Value) (g6 : Grp), ref16_All_j1 s4 r ∧ σ.Le τ4 ∧ ESub ρ [(2, .N0), (3, .N0), (4, .I 0), (5, v5)] ∧ gs = [g6] ∧ Ow (kP kS (kP (kI .i64) (kP (kI .i64) (kP (kI .i64) (kP (kI .i64) (kP (kI .i64) (kI .i64))))))) 98 τ4 v5 s4 g6) ?_ (fun hk4 => ?_)
 ·rintro ρ4 τ4 gs4 ⟨s4, v5, g6, h, hl4, hρ, rfl, ho7⟩
  refine st_es hρ ?_
  refine st_seq ?_
  refine st_cut (fun ρ τ8 gs => ∃ (s8 : (List (TyA))) (v9 : Value) (g10 : Grp), ref16_All_j2 s8 r ∧ τ4.Le τ8 ∧ ESub ρ [(2, .N0), (3, v9)] ∧ gs = [g10] ∧ Ow (kP kS (kP (kI .i64) (kP (kI .i64) (kP (kI .i64) (kP (kI .i64) (kP (kI .i64) (kI .i64))))))) 98 τ8 v9 s8 g10) ?_ (fun hk8 => ?_)
  ·rintro ρ8 τ8 gs8 ⟨s8, v9, g10, h, hl8, hρ, rfl, ho11⟩
   refine st_es hρ ?_
   refine Z 5 rfl ?_
   refine st_freeze (fun τ12 hl13 hg14 => ?_)
   have hs15 := ho11.freeze hl13 hg14
   obtain rfl := Eq.symm h
   exact st_ret (gs' := []) Tryz.func45 rfl (List.Sublist.refl _) ((hl4.trans hl8).trans hl13) ⟨_, rfl, rfl, hs15⟩
  refine Z 4 rfl ?_
  obtain ⟨e18, hL18, hA18⟩ := h
  refine st_addNil ?_
  refine st_ord [1, 0] _ rfl ?_
  refine st_loop hL18 (fun (s18 : (List (TyA)) × Int × Int) ρ τ18 gs => τ4.Le τ18 ∧ ∃ (v19 : Value) (g20 : Grp), ESub ρ [(2, .N0), (3, v19), (4, .I s18.2.1), (5, v5), (6, .I s18.2.2)] ∧ gs = [g6, g20] ∧ Ow (kP kS (kP (kI .i64) (kP (kI .i64) (kP (kI .i64) (kP (kI .i64) (kP (kI .i64) (kI .i64))))))) 98 τ18 v19 s18.1 g20) ⟨Sto.Le.refl _, _, _, rfl, rfl, Ow.nil⟩ ?_
  rintro s18 o18 h he18 ρ18 τ18 gs18 ⟨hl18, v19, g20, hρ, rfl, ho21⟩ hn18
  refine st_es hρ ?_
  refine Z 5 rfl ?_
  refine o_lenO rfl rfl rfl z_slT94 rfl (ho7.up hl18) ?_
  refine Z 2 rfl ?_
  refine st_if rfl h (fun h => ?_) (fun h => ?_)
  ·refine Z 7 rfl ?_
   obtain ⟨q22, hf23, h⟩ := h
   refine o_indexOw rfl rfl rfl z_slT94 rfl rfl (ho7.up hl18) rfl hf23 (fun b24 hb25 => ?_)
   obtain ⟨vs26, hrep27, hat28⟩ := Ow.at (ho7.up hl18) hb25 hf23
   obtain ⟨_, _, rfl, rfl, ⟨_, _, rfl, rfl, ⟨_, _, rfl, rfl, ⟨_, _, rfl, rfl, ⟨_, _, rfl, rfl, ⟨_, _, rfl, rfl, rfl⟩⟩⟩⟩⟩⟩ := hrep27
   refine o_loadOwN (j := 0) (off := 0) (us := (lA q22)) rfl rfl rfl z_agg98 rfl hat28 rfl (by exact rfl) ?_
   refine o_alloc rfl rfl rfl z_zero98 (fun b29 => ?_)
   refine ZZ 8 [0, 0] rfl rfl ?_
   refine st_cut (fun ρ τ30 gs => ∃ (s30 : Int × Int), ref16_All_j4 s18 q22 s30 o18 ∧ τ18.Le τ30 ∧ ESub ρ [(2, .N0), (3, v19), (4, .I s30.1), (5, v5), (6, .I s18.2.2), (7, .Pb b29)] ∧ gs = [[(b29, .cells #[.string q22.1, .I q22.2.1, .I s30.2, .I q22.2.2.2.1, .I q22.t4.1, .I q22.t4.2.1, .I q22.t4.2.2] 98 (0, 0))], g20, g6]) ?_ (fun hk30 => ?_)
   ·rintro ρ30 τ30 gs30 ⟨s30, h, hl30, hρ, rfl⟩
    refine st_es hρ ?_
    refine ZZ 3 [0] rfl rfl ?_
    refine o_litE (eP eS (eP (eI .i64) (eP (eI .i64) (eP (eI .i64) (eP (eI .i64) (eP (eI .i64) (eI .i64))))))) [(q22.1, q22.2.1, s30.2, q22.2.2.2.1, q22.t4.1, q22.t4.2.1, q22.t4.2.2)] rfl rfl rfl z_slT94 z_zero98 ⟨rfl, ⟨_, rfl, rfl⟩, trivial⟩ rfl rfl rfl rfl (fun v31 g32 ho33 => ?_)
    obtain ⟨hf37, hf38, h⟩ := h
    refine st_ord [2, 0, 0, 0] _ rfl ?_
    refine o_append (dk := (kP kS (kP (kI .i64) (kP (kI .i64) (kP (kI .i64) (kP (kI .i64) (kP (kI .i64) (kI .i64)))))))) (xs := s18.1) (ys := [(q22.1, q22.2.1, s30.2, q22.2.2.2.1, q22.t4.1, q22.t4.2.1, q22.t4.2.2)]) rfl rfl rfl rfl z_slT94 rfl (ho21.up hl30) rfl (Ow.src (j := 1) ho33 rfl) hf37 hf38 (fun v34 g35 ho36 => ?_)
    refine Z 8 rfl ?_
    refine st_ord [3, 0] _ rfl ?_
    exact hn18 _ _ _ _ h ⟨(hl18.trans hl30), _, _, rfl, rfl, ho36⟩
   refine ZZ 6 [0] rfl rfl ?_
   refine st_if rfl h (fun h => ?_) (fun h => ?_)
   ·refine ZZ 11 [0] rfl rfl ?_
    refine st_ord [0, 1, 0] _ rfl ?_
    exact hk30 _ _ _ ⟨((IntKind.i64.wrap (s18.2.1 + 1)), s18.2.1), h, (Sto.Le.refl _), rfl, rfl⟩
   ·refine st_skip ?_
    refine st_ord [0, 1, 0] _ rfl ?_
    exact hk30 _ _ _ ⟨(s18.2.1, (-1)), h, (Sto.Le.refl _), rfl, rfl⟩
  ·refine st_exit rfl ?_
   obtain rfl := he18 _ h
   replace h := hA18
   refine st_ord [1] _ rfl ?_
   exact hk8 _ _ _ ⟨s18.1, _, _, h, hl18, rfl, rfl, ho21⟩
 refine Z 10 rfl ?_
 refine st_if rfl h (fun h => ?_) (fun h => ?_)
 ·refine st_region ?_
  refine o_build (ps := [(0, [.string (bstr [114, 111, 98, 111, 116])]), (1, [.I 1]), (2, [.I 0]), (3, [.I 0]), (4, [.I 65535]), (5, [.I 1]), (6, [.I 0])]) (cs := [.string (bstr [114, 111, 98, 111, 116]), .I 1, .I 0, .I 0, .I 65535, .I 1, .I 0]) rfl rfl rfl z_struct98 ⟨rfl, ⟨_, (ev_str z_str0), rfl⟩, ⟨rfl, ⟨_, rfl, rfl⟩, ⟨rfl, ⟨_, rfl, rfl⟩, ⟨rfl, ⟨_, rfl, rfl⟩, ⟨rfl, ⟨_, rfl, rfl⟩, ⟨rfl, ⟨_, rfl, rfl⟩, ⟨rfl, ⟨_, rfl, rfl⟩, trivial⟩⟩⟩⟩⟩⟩⟩ rfl ?_
  refine o_build (ps := [(0, [.string (bstr [115, 112, 101, 101, 100])]), (1, [.I 1]), (2, [.I 0]), (3, [.I 1]), (4, [.I 5000]), (5, [.I 1]), (6, [.I 0])]) (cs := [.string (bstr [115, 112, 101, 101, 100]), .I 1, .I 0, .I 1, .I 5000, .I 1, .I 0]) rfl rfl rfl z_struct98 ⟨rfl, ⟨_, (ev_str z_str1), rfl⟩, ⟨rfl, ⟨_, rfl, rfl⟩, ⟨rfl, ⟨_, rfl, rfl⟩, ⟨rfl, ⟨_, rfl, rfl⟩, ⟨rfl, ⟨_, rfl, rfl⟩, ⟨rfl, ⟨_, rfl, rfl⟩, ⟨rfl, ⟨_, rfl, rfl⟩, trivial⟩⟩⟩⟩⟩⟩⟩ rfl ?_
  refine o_build (ps := [(0, [.string (bstr [97, 99, 99, 101, 108])]), (1, [.I 1]), (2, [.I 0]), (3, [.I 1]), (4, [.I 10000]), (5, [.I 2]), (6, [.I 500])]) (cs := [.string (bstr [97, 99, 99, 101, 108]), .I 1, .I 0, .I 1, .I 10000, .I 2, .I 500]) rfl rfl rfl z_struct98 ⟨rfl, ⟨_, (ev_str z_str2), rfl⟩, ⟨rfl, ⟨_, rfl, rfl⟩, ⟨rfl, ⟨_, rfl, rfl⟩, ⟨rfl, ⟨_, rfl, rfl⟩, ⟨rfl, ⟨_, rfl, rfl⟩, ⟨rfl, ⟨_, rfl, rfl⟩, ⟨rfl, ⟨_, rfl, rfl⟩, trivial⟩⟩⟩⟩⟩⟩⟩ rfl ?_
  refine o_build (ps := [(0, [.string (bstr [112, 97, 116, 104])]), (1, [.I 3]), (2, [.I 0]), (3, [.I 1]), (4, [.I 16]), (5, [.I 1]), (6, [.I 0])]) (cs := [.string (bstr [112, 97, 116, 104]), .I 3, .I 0, .I 1, .I 16, .I 1, .I 0]) rfl rfl rfl z_struct98 ⟨rfl, ⟨_, (ev_str z_str3), rfl⟩, ⟨rfl, ⟨_, rfl, rfl⟩, ⟨rfl, ⟨_, rfl, rfl⟩, ⟨rfl, ⟨_, rfl, rfl⟩, ⟨rfl, ⟨_, rfl, rfl⟩, ⟨rfl, ⟨_, rfl, rfl⟩, ⟨rfl, ⟨_, rfl, rfl⟩, trivial⟩⟩⟩⟩⟩⟩⟩ rfl ?_
  refine o_build (ps := [(0, [.string (bstr [116, 97, 103])]), (1, [.I 6]), (2, [.I 0]), (3, [.I 0]), (4, [.I 16]), (5, [.I 2]), (6, [.I 0])]) (cs := [.string (bstr [116, 97, 103]), .I 6, .I 0, .I 0, .I 16, .I 2, .I 0]) rfl rfl rfl z_struct98 ⟨rfl, ⟨_, (ev_str z_str4), rfl⟩, ⟨rfl, ⟨_, rfl, rfl⟩, ⟨rfl, ⟨_, rfl, rfl⟩, ⟨rfl, ⟨_, rfl, rfl⟩, ⟨rfl, ⟨_, rfl, rfl⟩, ⟨rfl, ⟨_, rfl, rfl⟩, ⟨rfl, ⟨_, rfl, rfl⟩, trivial⟩⟩⟩⟩⟩⟩⟩ rfl ?_
  refine o_litE (eP eS (eP (eI .i64) (eP (eI .i64) (eP (eI .i64) (eP (eI .i64) (eP (eI .i64) (eI .i64))))))) [((bstr [114, 111, 98, 111, 116]), 1, 0, 0, 65535, 1, 0), ((bstr [115, 112, 101, 101, 100]), 1, 0, 1, 5000, 1, 0), ((bstr [97, 99, 99, 101, 108]), 1, 0, 1, 10000, 2, 500), ((bstr [112, 97, 116, 104]), 3, 0, 1, 16, 1, 0), ((bstr [116, 97, 103]), 6, 0, 0, 16, 2, 0)] rfl rfl rfl z_slT94 z_zero98 ⟨rfl, ⟨_, rfl, rfl⟩, ⟨rfl, ⟨_, rfl, rfl⟩, ⟨rfl, ⟨_, rfl, rfl⟩, ⟨rfl, ⟨_, rfl, rfl⟩, ⟨rfl, ⟨_, rfl, rfl⟩, trivial⟩⟩⟩⟩⟩ rfl rfl rfl rfl (fun v40 g41 ho42 => ?_)
  refine Z 3 rfl ?_
  refine st_ord [0] _ rfl ?_
  exact hk4 _ _ _ ⟨[((bstr [114, 111, 98, 111, 116]), 1, 0, 0, 65535, 1, 0), ((bstr [115, 112, 101, 101, 100]), 1, 0, 1, 5000, 1, 0), ((bstr [97, 99, 99, 101, 108]), 1, 0, 1, 10000, 2, 500), ((bstr [112, 97, 116, 104]), 3, 0, 1, 16, 1, 0), ((bstr [116, 97, 103]), 6, 0, 0, 16, 2, 0)], _, _, h, (Sto.Le.refl _), rfl, rfl, ho42⟩
 ·refine Z 5 rfl ?_
  refine st_if rfl h (fun h => ?_) (fun h => ?_)
  ·refine st_region ?_
   refine o_build (ps := [(0, [.string (bstr [114, 111, 98, 111, 116])]), (1, [.I 1]), (2, [.I 0]), (3, [.I 0]), (4, [.I 65535]), (5, [.I 1]), (6, [.I 0])]) (cs := [.string (bstr [114, 111, 98, 111, 116]), .I 1, .I 0, .I 0, .I 65535, .I 1, .I 0]) rfl rfl rfl z_struct98 ⟨rfl, ⟨_, (ev_str z_str0), rfl⟩, ⟨rfl, ⟨_, rfl, rfl⟩, ⟨rfl, ⟨_, rfl, rfl⟩, ⟨rfl, ⟨_, rfl, rfl⟩, ⟨rfl, ⟨_, rfl, rfl⟩, ⟨rfl, ⟨_, rfl, rfl⟩, ⟨rfl, ⟨_, rfl, rfl⟩, trivial⟩⟩⟩⟩⟩⟩⟩ rfl ?_
   refine o_build (ps := [(0, [.string (bstr [114, 101, 97, 115, 111, 110])]), (1, [.I 1]), (2, [.I 0]), (3, [.I 0]), (4, [.I 15]), (5, [.I 1]), (6, [.I 0])]) (cs := [.string (bstr [114, 101, 97, 115, 111, 110]), .I 1, .I 0, .I 0, .I 15, .I 1, .I 0]) rfl rfl rfl z_struct98 ⟨rfl, ⟨_, (ev_str z_str5), rfl⟩, ⟨rfl, ⟨_, rfl, rfl⟩, ⟨rfl, ⟨_, rfl, rfl⟩, ⟨rfl, ⟨_, rfl, rfl⟩, ⟨rfl, ⟨_, rfl, rfl⟩, ⟨rfl, ⟨_, rfl, rfl⟩, ⟨rfl, ⟨_, rfl, rfl⟩, trivial⟩⟩⟩⟩⟩⟩⟩ rfl ?_
   refine o_build (ps := [(0, [.string (bstr [122, 111, 110, 101])]), (1, [.I 1]), (2, [.I 0]), (3, [.I 0]), (4, [.I 4095]), (5, [.I 2]), (6, [.I 0])]) (cs := [.string (bstr [122, 111, 110, 101]), .I 1, .I 0, .I 0, .I 4095, .I 2, .I 0]) rfl rfl rfl z_struct98 ⟨rfl, ⟨_, (ev_str z_str6), rfl⟩, ⟨rfl, ⟨_, rfl, rfl⟩, ⟨rfl, ⟨_, rfl, rfl⟩, ⟨rfl, ⟨_, rfl, rfl⟩, ⟨rfl, ⟨_, rfl, rfl⟩, ⟨rfl, ⟨_, rfl, rfl⟩, ⟨rfl, ⟨_, rfl, rfl⟩, trivial⟩⟩⟩⟩⟩⟩⟩ rfl ?_
   refine o_litE (eP eS (eP (eI .i64) (eP (eI .i64) (eP (eI .i64) (eP (eI .i64) (eP (eI .i64) (eI .i64))))))) [((bstr [114, 111, 98, 111, 116]), 1, 0, 0, 65535, 1, 0), ((bstr [114, 101, 97, 115, 111, 110]), 1, 0, 0, 15, 1, 0), ((bstr [122, 111, 110, 101]), 1, 0, 0, 4095, 2, 0)] rfl rfl rfl z_slT94 z_zero98 ⟨rfl, ⟨_, rfl, rfl⟩, ⟨rfl, ⟨_, rfl, rfl⟩, ⟨rfl, ⟨_, rfl, rfl⟩, trivial⟩⟩⟩ rfl rfl rfl rfl (fun v43 g44 ho45 => ?_)
   refine Z 3 rfl ?_
   refine st_ord [0] _ rfl ?_
   exact hk4 _ _ _ ⟨[((bstr [114, 111, 98, 111, 116]), 1, 0, 0, 65535, 1, 0), ((bstr [114, 101, 97, 115, 111, 110]), 1, 0, 0, 15, 1, 0), ((bstr [122, 111, 110, 101]), 1, 0, 0, 4095, 2, 0)], _, _, h, (Sto.Le.refl _), rfl, rfl, ho45⟩
  ·refine Z 5 rfl ?_
   refine st_if rfl h (fun h => ?_) (fun h => ?_)
   ·refine st_region ?_
    refine o_build (ps := [(0, [.string (bstr [114, 111, 98, 111, 116])]), (1, [.I 1]), (2, [.I 0]), (3, [.I 0]), (4, [.I 65535]), (5, [.I 1]), (6, [.I 0])]) (cs := [.string (bstr [114, 111, 98, 111, 116]), .I 1, .I 0, .I 0, .I 65535, .I 1, .I 0]) rfl rfl rfl z_struct98 ⟨rfl, ⟨_, (ev_str z_str0), rfl⟩, ⟨rfl, ⟨_, rfl, rfl⟩, ⟨rfl, ⟨_, rfl, rfl⟩, ⟨rfl, ⟨_, rfl, rfl⟩, ⟨rfl, ⟨_, rfl, rfl⟩, ⟨rfl, ⟨_, rfl, rfl⟩, ⟨rfl, ⟨_, rfl, rfl⟩, trivial⟩⟩⟩⟩⟩⟩⟩ rfl ?_
    refine o_build (ps := [(0, [.string (bstr [122, 111, 110, 101])]), (1, [.I 1]), (2, [.I 0]), (3, [.I 0]), (4, [.I 4095]), (5, [.I 1]), (6, [.I 0])]) (cs := [.string (bstr [122, 111, 110, 101]), .I 1, .I 0, .I 0, .I 4095, .I 1, .I 0]) rfl rfl rfl z_struct98 ⟨rfl, ⟨_, (ev_str z_str6), rfl⟩, ⟨rfl, ⟨_, rfl, rfl⟩, ⟨rfl, ⟨_, rfl, rfl⟩, ⟨rfl, ⟨_, rfl, rfl⟩, ⟨rfl, ⟨_, rfl, rfl⟩, ⟨rfl, ⟨_, rfl, rfl⟩, ⟨rfl, ⟨_, rfl, rfl⟩, trivial⟩⟩⟩⟩⟩⟩⟩ rfl ?_
    refine o_build (ps := [(0, [.string (bstr [108, 101, 97, 115, 101])]), (1, [.I 1]), (2, [.I 0]), (3, [.I 1]), (4, [.I 255]), (5, [.I 2]), (6, [.I 1])]) (cs := [.string (bstr [108, 101, 97, 115, 101]), .I 1, .I 0, .I 1, .I 255, .I 2, .I 1]) rfl rfl rfl z_struct98 ⟨rfl, ⟨_, (ev_str z_str7), rfl⟩, ⟨rfl, ⟨_, rfl, rfl⟩, ⟨rfl, ⟨_, rfl, rfl⟩, ⟨rfl, ⟨_, rfl, rfl⟩, ⟨rfl, ⟨_, rfl, rfl⟩, ⟨rfl, ⟨_, rfl, rfl⟩, ⟨rfl, ⟨_, rfl, rfl⟩, trivial⟩⟩⟩⟩⟩⟩⟩ rfl ?_
    refine o_build (ps := [(0, [.string (bstr [99, 101, 108, 108, 115])]), (1, [.I 4]), (2, [.I 0]), (3, [.I 1]), (4, [.I 32]), (5, [.I 1]), (6, [.I 0])]) (cs := [.string (bstr [99, 101, 108, 108, 115]), .I 4, .I 0, .I 1, .I 32, .I 1, .I 0]) rfl rfl rfl z_struct98 ⟨rfl, ⟨_, (ev_str z_str8), rfl⟩, ⟨rfl, ⟨_, rfl, rfl⟩, ⟨rfl, ⟨_, rfl, rfl⟩, ⟨rfl, ⟨_, rfl, rfl⟩, ⟨rfl, ⟨_, rfl, rfl⟩, ⟨rfl, ⟨_, rfl, rfl⟩, ⟨rfl, ⟨_, rfl, rfl⟩, trivial⟩⟩⟩⟩⟩⟩⟩ rfl ?_
    refine o_litE (eP eS (eP (eI .i64) (eP (eI .i64) (eP (eI .i64) (eP (eI .i64) (eP (eI .i64) (eI .i64))))))) [((bstr [114, 111, 98, 111, 116]), 1, 0, 0, 65535, 1, 0), ((bstr [122, 111, 110, 101]), 1, 0, 0, 4095, 1, 0), ((bstr [108, 101, 97, 115, 101]), 1, 0, 1, 255, 2, 1), ((bstr [99, 101, 108, 108, 115]), 4, 0, 1, 32, 1, 0)] rfl rfl rfl z_slT94 z_zero98 ⟨rfl, ⟨_, rfl, rfl⟩, ⟨rfl, ⟨_, rfl, rfl⟩, ⟨rfl, ⟨_, rfl, rfl⟩, ⟨rfl, ⟨_, rfl, rfl⟩, trivial⟩⟩⟩⟩ rfl rfl rfl rfl (fun v46 g47 ho48 => ?_)
    refine Z 3 rfl ?_
    refine st_ord [0] _ rfl ?_
    exact hk4 _ _ _ ⟨[((bstr [114, 111, 98, 111, 116]), 1, 0, 0, 65535, 1, 0), ((bstr [122, 111, 110, 101]), 1, 0, 0, 4095, 1, 0), ((bstr [108, 101, 97, 115, 101]), 1, 0, 1, 255, 2, 1), ((bstr [99, 101, 108, 108, 115]), 4, 0, 1, 32, 1, 0)], _, _, h, (Sto.Le.refl _), rfl, rfl, ho48⟩
   ·refine Z 5 rfl ?_
    refine st_if rfl h (fun h => ?_) (fun h => ?_)
    ·refine st_region ?_
     refine o_build (ps := [(0, [.string (bstr [114, 111, 98, 111, 116])]), (1, [.I 1]), (2, [.I 0]), (3, [.I 0]), (4, [.I 65535]), (5, [.I 1]), (6, [.I 0])]) (cs := [.string (bstr [114, 111, 98, 111, 116]), .I 1, .I 0, .I 0, .I 65535, .I 1, .I 0]) rfl rfl rfl z_struct98 ⟨rfl, ⟨_, (ev_str z_str0), rfl⟩, ⟨rfl, ⟨_, rfl, rfl⟩, ⟨rfl, ⟨_, rfl, rfl⟩, ⟨rfl, ⟨_, rfl, rfl⟩, ⟨rfl, ⟨_, rfl, rfl⟩, ⟨rfl, ⟨_, rfl, rfl⟩, ⟨rfl, ⟨_, rfl, rfl⟩, trivial⟩⟩⟩⟩⟩⟩⟩ rfl ?_
     refine o_build (ps := [(0, [.string (bstr [120])]), (1, [.I 2]), (2, [.I 0]), (3, [.I (-1000000)]), (4, [.I 1000000]), (5, [.I 1]), (6, [.I 0])]) (cs := [.string (bstr [120]), .I 2, .I 0, .I (-1000000), .I 1000000, .I 1, .I 0]) rfl rfl rfl z_struct98 ⟨rfl, ⟨_, (ev_str z_str9), rfl⟩, ⟨rfl, ⟨_, rfl, rfl⟩, ⟨rfl, ⟨_, rfl, rfl⟩, ⟨rfl, ⟨_, rfl, rfl⟩, ⟨rfl, ⟨_, rfl, rfl⟩, ⟨rfl, ⟨_, rfl, rfl⟩, ⟨rfl, ⟨_, rfl, rfl⟩, trivial⟩⟩⟩⟩⟩⟩⟩ rfl ?_
     refine o_build (ps := [(0, [.string (bstr [121])]), (1, [.I 2]), (2, [.I 0]), (3, [.I (-1000000)]), (4, [.I 1000000]), (5, [.I 1]), (6, [.I 0])]) (cs := [.string (bstr [121]), .I 2, .I 0, .I (-1000000), .I 1000000, .I 1, .I 0]) rfl rfl rfl z_struct98 ⟨rfl, ⟨_, (ev_str z_str10), rfl⟩, ⟨rfl, ⟨_, rfl, rfl⟩, ⟨rfl, ⟨_, rfl, rfl⟩, ⟨rfl, ⟨_, rfl, rfl⟩, ⟨rfl, ⟨_, rfl, rfl⟩, ⟨rfl, ⟨_, rfl, rfl⟩, ⟨rfl, ⟨_, rfl, rfl⟩, trivial⟩⟩⟩⟩⟩⟩⟩ rfl ?_
     refine o_build (ps := [(0, [.string (bstr [104, 101, 97, 100, 105, 110, 103])]), (1, [.I 1]), (2, [.I 0]), (3, [.I 0]), (4, [.I 35999]), (5, [.I 1]), (6, [.I 0])]) (cs := [.string (bstr [104, 101, 97, 100, 105, 110, 103]), .I 1, .I 0, .I 0, .I 35999, .I 1, .I 0]) rfl rfl rfl z_struct98 ⟨rfl, ⟨_, (ev_str z_str11), rfl⟩, ⟨rfl, ⟨_, rfl, rfl⟩, ⟨rfl, ⟨_, rfl, rfl⟩, ⟨rfl, ⟨_, rfl, rfl⟩, ⟨rfl, ⟨_, rfl, rfl⟩, ⟨rfl, ⟨_, rfl, rfl⟩, ⟨rfl, ⟨_, rfl, rfl⟩, trivial⟩⟩⟩⟩⟩⟩⟩ rfl ?_
     refine o_build (ps := [(0, [.string (bstr [98, 97, 116, 116, 101, 114, 121])]), (1, [.I 1]), (2, [.I 0]), (3, [.I 0]), (4, [.I 1000]), (5, [.I 1]), (6, [.I 0])]) (cs := [.string (bstr [98, 97, 116, 116, 101, 114, 121]), .I 1, .I 0, .I 0, .I 1000, .I 1, .I 0]) rfl rfl rfl z_struct98 ⟨rfl, ⟨_, (ev_str z_str12), rfl⟩, ⟨rfl, ⟨_, rfl, rfl⟩, ⟨rfl, ⟨_, rfl, rfl⟩, ⟨rfl, ⟨_, rfl, rfl⟩, ⟨rfl, ⟨_, rfl, rfl⟩, ⟨rfl, ⟨_, rfl, rfl⟩, ⟨rfl, ⟨_, rfl, rfl⟩, trivial⟩⟩⟩⟩⟩⟩⟩ rfl ?_
     refine o_build (ps := [(0, [.string (bstr [115, 117, 114, 101])]), (1, [.I 1]), (2, [.I 0]), (3, [.I 0]), (4, [.I 100]), (5, [.I 2]), (6, [.I 100])]) (cs := [.string (bstr [115, 117, 114, 101]), .I 1, .I 0, .I 0, .I 100, .I 2, .I 100]) rfl rfl rfl z_struct98 ⟨rfl, ⟨_, (ev_str z_str13), rfl⟩, ⟨rfl, ⟨_, rfl, rfl⟩, ⟨rfl, ⟨_, rfl, rfl⟩, ⟨rfl, ⟨_, rfl, rfl⟩, ⟨rfl, ⟨_, rfl, rfl⟩, ⟨rfl, ⟨_, rfl, rfl⟩, ⟨rfl, ⟨_, rfl, rfl⟩, trivial⟩⟩⟩⟩⟩⟩⟩ rfl ?_
     refine o_litE (eP eS (eP (eI .i64) (eP (eI .i64) (eP (eI .i64) (eP (eI .i64) (eP (eI .i64) (eI .i64))))))) [((bstr [114, 111, 98, 111, 116]), 1, 0, 0, 65535, 1, 0), ((bstr [120]), 2, 0, (-1000000), 1000000, 1, 0), ((bstr [121]), 2, 0, (-1000000), 1000000, 1, 0), ((bstr [104, 101, 97, 100, 105, 110, 103]), 1, 0, 0, 35999, 1, 0), ((bstr [98, 97, 116, 116, 101, 114, 121]), 1, 0, 0, 1000, 1, 0), ((bstr [115, 117, 114, 101]), 1, 0, 0, 100, 2, 100)] rfl rfl rfl z_slT94 z_zero98 ⟨rfl, ⟨_, rfl, rfl⟩, ⟨rfl, ⟨_, rfl, rfl⟩, ⟨rfl, ⟨_, rfl, rfl⟩, ⟨rfl, ⟨_, rfl, rfl⟩, ⟨rfl, ⟨_, rfl, rfl⟩, ⟨rfl, ⟨_, rfl, rfl⟩, trivial⟩⟩⟩⟩⟩⟩ rfl rfl rfl rfl (fun v49 g50 ho51 => ?_)
     refine Z 3 rfl ?_
     refine st_ord [0] _ rfl ?_
     exact hk4 _ _ _ ⟨[((bstr [114, 111, 98, 111, 116]), 1, 0, 0, 65535, 1, 0), ((bstr [120]), 2, 0, (-1000000), 1000000, 1, 0), ((bstr [121]), 2, 0, (-1000000), 1000000, 1, 0), ((bstr [104, 101, 97, 100, 105, 110, 103]), 1, 0, 0, 35999, 1, 0), ((bstr [98, 97, 116, 116, 101, 114, 121]), 1, 0, 0, 1000, 1, 0), ((bstr [115, 117, 114, 101]), 1, 0, 0, 100, 2, 100)], _, _, h, (Sto.Le.refl _), rfl, rfl, ho51⟩
    ·refine Z 5 rfl ?_
     refine st_if rfl h (fun h => ?_) (fun h => ?_)
     ·refine st_region ?_
      refine o_build (ps := [(0, [.string (bstr [114, 111, 98, 111, 116])]), (1, [.I 1]), (2, [.I 0]), (3, [.I 0]), (4, [.I 65535]), (5, [.I 1]), (6, [.I 0])]) (cs := [.string (bstr [114, 111, 98, 111, 116]), .I 1, .I 0, .I 0, .I 65535, .I 1, .I 0]) rfl rfl rfl z_struct98 ⟨rfl, ⟨_, (ev_str z_str0), rfl⟩, ⟨rfl, ⟨_, rfl, rfl⟩, ⟨rfl, ⟨_, rfl, rfl⟩, ⟨rfl, ⟨_, rfl, rfl⟩, ⟨rfl, ⟨_, rfl, rfl⟩, ⟨rfl, ⟨_, rfl, rfl⟩, ⟨rfl, ⟨_, rfl, rfl⟩, trivial⟩⟩⟩⟩⟩⟩⟩ rfl ?_
      refine o_build (ps := [(0, [.string (bstr [99, 111, 100, 101])]), (1, [.I 1]), (2, [.I 0]), (3, [.I 1]), (4, [.I 9999]), (5, [.I 1]), (6, [.I 0])]) (cs := [.string (bstr [99, 111, 100, 101]), .I 1, .I 0, .I 1, .I 9999, .I 1, .I 0]) rfl rfl rfl z_struct98 ⟨rfl, ⟨_, (ev_str z_str14), rfl⟩, ⟨rfl, ⟨_, rfl, rfl⟩, ⟨rfl, ⟨_, rfl, rfl⟩, ⟨rfl, ⟨_, rfl, rfl⟩, ⟨rfl, ⟨_, rfl, rfl⟩, ⟨rfl, ⟨_, rfl, rfl⟩, ⟨rfl, ⟨_, rfl, rfl⟩, trivial⟩⟩⟩⟩⟩⟩⟩ rfl ?_
      refine o_build (ps := [(0, [.string (bstr [115, 101, 118, 101, 114, 105, 116, 121])]), (1, [.I 1]), (2, [.I 0]), (3, [.I 0]), (4, [.I 4]), (5, [.I 1]), (6, [.I 0])]) (cs := [.string (bstr [115, 101, 118, 101, 114, 105, 116, 121]), .I 1, .I 0, .I 0, .I 4, .I 1, .I 0]) rfl rfl rfl z_struct98 ⟨rfl, ⟨_, (ev_str z_str15), rfl⟩, ⟨rfl, ⟨_, rfl, rfl⟩, ⟨rfl, ⟨_, rfl, rfl⟩, ⟨rfl, ⟨_, rfl, rfl⟩, ⟨rfl, ⟨_, rfl, rfl⟩, ⟨rfl, ⟨_, rfl, rfl⟩, ⟨rfl, ⟨_, rfl, rfl⟩, trivial⟩⟩⟩⟩⟩⟩⟩ rfl ?_
      refine o_build (ps := [(0, [.string (bstr [112, 97, 114, 116])]), (1, [.I 1]), (2, [.I 0]), (3, [.I 0]), (4, [.I 255]), (5, [.I 2]), (6, [.I 0])]) (cs := [.string (bstr [112, 97, 114, 116]), .I 1, .I 0, .I 0, .I 255, .I 2, .I 0]) rfl rfl rfl z_struct98 ⟨rfl, ⟨_, (ev_str z_str16), rfl⟩, ⟨rfl, ⟨_, rfl, rfl⟩, ⟨rfl, ⟨_, rfl, rfl⟩, ⟨rfl, ⟨_, rfl, rfl⟩, ⟨rfl, ⟨_, rfl, rfl⟩, ⟨rfl, ⟨_, rfl, rfl⟩, ⟨rfl, ⟨_, rfl, rfl⟩, trivial⟩⟩⟩⟩⟩⟩⟩ rfl ?_
      refine o_build (ps := [(0, [.string (bstr [116, 105, 109, 101, 115])]), (1, [.I 1]), (2, [.I 0]), (3, [.I 1]), (4, [.I 1000000]), (5, [.I 2]), (6, [.I 1])]) (cs := [.string (bstr [116, 105, 109, 101, 115]), .I 1, .I 0, .I 1, .I 1000000, .I 2, .I 1]) rfl rfl rfl z_struct98 ⟨rfl, ⟨_, (ev_str z_str17), rfl⟩, ⟨rfl, ⟨_, rfl, rfl⟩, ⟨rfl, ⟨_, rfl, rfl⟩, ⟨rfl, ⟨_, rfl, rfl⟩, ⟨rfl, ⟨_, rfl, rfl⟩, ⟨rfl, ⟨_, rfl, rfl⟩, ⟨rfl, ⟨_, rfl, rfl⟩, trivial⟩⟩⟩⟩⟩⟩⟩ rfl ?_
      refine o_build (ps := [(0, [.string (bstr [116, 101, 120, 116])]), (1, [.I 5]), (2, [.I 0]), (3, [.I 0]), (4, [.I 64]), (5, [.I 1]), (6, [.I 0])]) (cs := [.string (bstr [116, 101, 120, 116]), .I 5, .I 0, .I 0, .I 64, .I 1, .I 0]) rfl rfl rfl z_struct98 ⟨rfl, ⟨_, (ev_str z_str18), rfl⟩, ⟨rfl, ⟨_, rfl, rfl⟩, ⟨rfl, ⟨_, rfl, rfl⟩, ⟨rfl, ⟨_, rfl, rfl⟩, ⟨rfl, ⟨_, rfl, rfl⟩, ⟨rfl, ⟨_, rfl, rfl⟩, ⟨rfl, ⟨_, rfl, rfl⟩, trivial⟩⟩⟩⟩⟩⟩⟩ rfl ?_
      refine o_litE (eP eS (eP (eI .i64) (eP (eI .i64) (eP (eI .i64) (eP (eI .i64) (eP (eI .i64) (eI .i64))))))) [((bstr [114, 111, 98, 111, 116]), 1, 0, 0, 65535, 1, 0), ((bstr [99, 111, 100, 101]), 1, 0, 1, 9999, 1, 0), ((bstr [115, 101, 118, 101, 114, 105, 116, 121]), 1, 0, 0, 4, 1, 0), ((bstr [112, 97, 114, 116]), 1, 0, 0, 255, 2, 0), ((bstr [116, 105, 109, 101, 115]), 1, 0, 1, 1000000, 2, 1), ((bstr [116, 101, 120, 116]), 5, 0, 0, 64, 1, 0)] rfl rfl rfl z_slT94 z_zero98 ⟨rfl, ⟨_, rfl, rfl⟩, ⟨rfl, ⟨_, rfl, rfl⟩, ⟨rfl, ⟨_, rfl, rfl⟩, ⟨rfl, ⟨_, rfl, rfl⟩, ⟨rfl, ⟨_, rfl, rfl⟩, ⟨rfl, ⟨_, rfl, rfl⟩, trivial⟩⟩⟩⟩⟩⟩ rfl rfl rfl rfl (fun v52 g53 ho54 => ?_)
      refine Z 3 rfl ?_
      refine st_ord [0] _ rfl ?_
      exact hk4 _ _ _ ⟨[((bstr [114, 111, 98, 111, 116]), 1, 0, 0, 65535, 1, 0), ((bstr [99, 111, 100, 101]), 1, 0, 1, 9999, 1, 0), ((bstr [115, 101, 118, 101, 114, 105, 116, 121]), 1, 0, 0, 4, 1, 0), ((bstr [112, 97, 114, 116]), 1, 0, 0, 255, 2, 0), ((bstr [116, 105, 109, 101, 115]), 1, 0, 1, 1000000, 2, 1), ((bstr [116, 101, 120, 116]), 5, 0, 0, 64, 1, 0)], _, _, h, (Sto.Le.refl _), rfl, rfl, ho54⟩
     ·refine Z 2 rfl ?_
      exact hk4 _ _ _ ⟨([] : List (TyA)), _, _, h, (Sto.Le.refl _), rfl, rfl, ho3⟩
theorem ref01_Ints_ok {a0 : List Int} {a1 : List Int} {v1 : Value} {v3 : Value} {r : Bool} (h : ref01_Ints a0 a1 r) (σ : Sto) (hs2 : Sl (kI .i64) σ v1 a0) (hs4 : Sl (kI .i64) σ v3 a1) :
    Does Tryz.prog 49 [v1, v3] σ [] (fun v τ gs => gs = [] ∧ .bool r = v) := by
 refine call_of Tryz.func49 Tryz.ntmps49 rfl rfl (fun cs fs => ?_)
 refine Z 8 rfl ?_
 refine o_lenI rfl rfl rfl z_slT28 rfl hs2 ?_
 refine o_move rfl rfl rfl rfl ?_
 refine o_lenI rfl rfl rfl z_slT28 rfl hs4 ?_
 refine Z 2 rfl ?_
 refine st_if rfl h (fun h => ?_) (fun h => ?_)
 ·refine Z 4 rfl ?_
  obtain rfl := Eq.symm h
  exact st_ret (gs' := []) Tryz.func49 rfl (List.Sublist.refl _) (Sto.Le.refl _) ⟨rfl, rfl⟩
 ·refine Z 2 rfl ?_
  refine st_cut (fun ρ τ5 gs => ∃ (s5 : Unit), ref01_Ints_j1 s5 r ∧ σ.Le τ5 ∧ ESub ρ [(4, .bool false)] ∧ gs = []) ?_ (fun hk5 => ?_)
  ·rintro ρ5 τ5 gs5 ⟨s5, h, hl5, hρ, rfl⟩
   refine st_es hρ ?_
   refine Z 4 rfl ?_
   obtain rfl := Eq.symm h
   exact st_ret (gs' := []) Tryz.func49 rfl (List.Sublist.refl _) hl5 ⟨rfl, rfl⟩
  refine Z 4 rfl ?_
  obtain ⟨e6, hL6, hA6⟩ := h
  refine st_loop hL6 (fun (s6 : Int) ρ τ6 gs => σ.Le τ6 ∧ ESub ρ [(0, v1), (1, v3), (4, .bool false), (5, .I s6)] ∧ gs = []) ⟨Sto.Le.refl _, rfl, rfl⟩ ?_
  rintro s6 o6 h he6 ρ6 τ6 gs6 ⟨hl6, hρ, rfl⟩ hn6
  refine st_es hρ ?_
  refine Z 5 rfl ?_
  refine o_lenI rfl rfl rfl z_slT28 rfl (hs2.up hl6) ?_
  refine Z 2 rfl ?_
  refine st_if rfl h (fun h => ?_) (fun h => ?_)
  ·refine Z 4 rfl ?_
   obtain ⟨q7, hf8, q12, hf13, h⟩ := h
   refine st_draw 9 (dl [.v (v1), .v (.I s6), .t fun τ v => ∃ (b9 : Nat) (of10 : Nat) (vsb9 : List Value), (.pointer (some ⟨b9, of10, none⟩) : Value) = v ∧ CelN τ ⟨b9, of10, none⟩ vsb9 ∧ (kI .i64).rep τ vsb9 q7, .v (.I q7), .v (v3), .v (.I s6), .t fun τ v => ∃ (b14 : Nat) (of15 : Nat) (vsb14 : List Value), (.pointer (some ⟨b14, of15, none⟩) : Value) = v ∧ CelN τ ⟨b14, of15, none⟩ vsb14 ∧ (kI .i64).rep τ vsb14 q12, .v (.I q12), .v (.bool (!(decide (q7 = q12))))]) (fun _ _ => []) z_mix rfl (dl_mono ⟨fun _ _ _ hl ⟨b9, of10, vsb9, hv, hc11, hrepb9⟩ => ⟨b9, of10, vsb9, hv, hc11.up hl, Kd.mono _ hl hrepb9⟩, ⟨fun _ _ _ hl ⟨b14, of15, vsb14, hv, hc16, hrepb14⟩ => ⟨b14, of15, vsb14, hv, hc16.up hl, Kd.mono _ hl hrepb14⟩, trivial⟩⟩) (allB_cons (allB_cons (allB_cons (allB_cons (allB_cons (allB_cons (allB_cons (allB_cons (allB_cons allB_nil (p1 dA)) (p1 dA)) ?_) ?_) (p1 dA)) (p1 dA)) ?_) ?_) (p1 dA)) ?_
   ·intro ρ' τ pool rs hl hd hout hk
    obtain ⟨_, e0, rfl⟩ := hd 0 rfl
    obtain ⟨_, e1, rfl⟩ := hd 1 rfl
    refine o_index rfl rfl rfl z_slT28 rfl e0 (hs2.up (hl6.trans hl)) e1 hf8 (fun b9 of10 vsb9 hc11 hrepb9 => ?_)
    exact st_addNil (hk _ _ (Sto.Le.refl _) ⟨b9, of10, _, rfl, hc11, hrepb9⟩)
   ·intro ρ' τ pool rs hl hd hout hk
    obtain ⟨_, e2, b9, of10, vsb9, rfl, hc11, hrepb9⟩ := hd 2 rfl
    have hrepb9 := hrepb9
    obtain rfl := hrepb9
    refine o_loadI (v := .I q7) rfl rfl rfl z_sc3 e2 (hc11 0 _ rfl) ?_
    exact st_addNil (hk _ _ (Sto.Le.refl _) rfl)
   ·intro ρ' τ pool rs hl hd hout hk
    obtain ⟨_, e4, rfl⟩ := hd 4 rfl
    obtain ⟨_, e5, rfl⟩ := hd 5 rfl
    refine o_index rfl rfl rfl z_slT28 rfl e4 (hs4.up (hl6.trans hl)) e5 hf13 (fun b14 of15 vsb14 hc16 hrepb14 => ?_)
    exact st_addNil (hk _ _ (Sto.Le.refl _) ⟨b14, of15, _, rfl, hc16, hrepb14⟩)
   ·intro ρ' τ pool rs hl hd hout hk
    obtain ⟨_, e6, b14, of15, vsb14, rfl, hc16, hrepb14⟩ := hd 6 rfl
    have hrepb14 := hrepb14
    obtain rfl := hrepb14
    refine o_loadI (v := .I q12) rfl rfl rfl z_sc3 e6 (hc16 0 _ rfl) ?_
    exact st_addNil (hk _ _ (Sto.Le.refl _) rfl)
   intro ρ' τ17 vals hl17 hv hout
   refine st_ord [] _ rfl ?_
   refine st_env (ρ' := [(25, .bool (!(decide (q7 = q12)))), (0, v1), (1, v3), (4, .bool false), (5, .I s6)]) ⟨(lv1 hv 8 rfl rfl), (hout 0 rfl).trans rfl, (hout 1 rfl).trans rfl, (hout 4 rfl).trans rfl, (hout 5 rfl).trans rfl, trivial⟩ ?_
   refine st_end ?_
   refine st_if rfl h (fun h => ?_) (fun h => ?_)
   ·refine Z 4 rfl ?_
    obtain rfl := he6 _ h
    replace h := hA6
    obtain rfl := Eq.symm h
    exact st_ret (gs' := []) Tryz.func49 rfl (List.Sublist.refl _) (hl6.trans hl17) ⟨rfl, rfl⟩
   ·refine Z 7 rfl ?_
    exact hn6 _ _ _ _ h ⟨(hl6.trans hl17), rfl, rfl⟩
  ·refine st_exit rfl ?_
   obtain rfl := he6 _ h
   replace h := hA6
   exact hk5 _ _ _ ⟨(), h, hl6, rfl, rfl⟩
theorem ref17_Same_ok {a0 : TyR} {a1 : TyR} {v1 : Value} {v2 : Value} {v5 : Value} {v6 : Value} {r : Bool} (h : ref17_Same a0 a1 r) (σ : Sto) (hs3 : Sl (kA .i64 2) σ v1 a0.2.2.1) (hs4 : Sl (kI .i64) σ v2 a0.2.2.2.1) (hs7 : Sl (kA .i64 2) σ v5 a1.2.2.1) (hs8 : Sl (kI .i64) σ v6 a1.2.2.2.1) :
    Does Tryz.prog 25 [.agg (lM a0 v1 v2).toArray, .agg (lM a1 v5 v6).toArray] σ [] (fun v τ gs => gs = [] ∧ .bool r = v) := by
 refine call_of Tryz.func25 Tryz.ntmps25 rfl rfl (fun cs fs => ?_)
 refine Z 2 rfl ?_
 refine o_box (cs := (lM a0 v1 v2)) rfl rfl rfl rfl rfl (fun b9 => ?_)
 refine o_box (cs := (lM a1 v5 v6)) rfl rfl rfl rfl rfl (fun b10 => ?_)
 refine Z 4 rfl ?_
 refine st_cut (fun ρ τ11 gs => ∃ (s11 : Bool), ref17_Same_j1 a0 a1 s11 r ∧ σ.Le τ11 ∧ ESub ρ [(2, .Pb b9), (3, .Pb b10), (4, .bool false), (48, .bool s11)] ∧ gs = [[(b9, .cells (lM a0 v1 v2).toArray 36 (0, 0))], [(b10, .cells (lM a1 v5 v6).toArray 36 (0, 0))]]) ?_ (fun hk11 => ?_)
 ·rintro ρ11 τ11 gs11 ⟨s11, h, hl11, hρ, rfl⟩
  refine st_es hρ ?_
  refine st_if rfl h (fun h => ?_) (fun h => ?_)
  ·refine Z 4 rfl ?_
   refine st_ord [] _ rfl ?_
   obtain rfl := Eq.symm h
   exact st_ret (gs' := []) Tryz.func25 rfl (List.Sublist.refl _) hl11 ⟨rfl, rfl⟩
  ·refine Z 2 rfl ?_
   refine st_cut (fun ρ τ12 gs => ∃ (s12 : Unit), ref17_Same_j2 s12 r ∧ τ11.Le τ12 ∧ ESub ρ [(4, .bool false)] ∧ gs = []) ?_ (fun hk12 => ?_)
   ·rintro ρ12 τ12 gs12 ⟨s12, h, hl12, hρ, rfl⟩
    refine st_es hρ ?_
    refine Z 4 rfl ?_
    obtain rfl := Eq.symm h
    exact st_ret (gs' := []) Tryz.func25 rfl (List.Sublist.refl _) (hl11.trans hl12) ⟨rfl, rfl⟩
   refine Z 4 rfl ?_
   obtain ⟨e13, hL13, hA13⟩ := h
   refine st_loop hL13 (fun (s13 : Int) ρ τ13 gs => τ11.Le τ13 ∧ ESub ρ [(2, .Pb b9), (3, .Pb b10), (4, .bool false), (5, .I s13)] ∧ gs = [[(b9, .cells (lM a0 v1 v2).toArray 36 (0, 0))], [(b10, .cells (lM a1 v5 v6).toArray 36 (0, 0))]]) ⟨Sto.Le.refl _, rfl, rfl⟩ ?_
   rintro s13 o13 h he13 ρ13 τ13 gs13 ⟨hl13, hρ, rfl⟩ hn13
   refine st_es hρ ?_
   refine ZZ 6 [0] rfl rfl ?_
   refine o_lenI rfl rfl rfl z_slT34 rfl (hs3.up (hl11.trans hl13)) ?_
   refine Z 2 rfl ?_
   refine st_if rfl h (fun h => ?_) (fun h => ?_)
   ·refine Z 4 rfl ?_
    obtain ⟨q14, hf15, q19, hf20, h⟩ := h
    refine st_draw 11 (dl [.v (.pointer (some ⟨b9, 7, none⟩)), .v (v1), .v (.I s13), .t fun τ v => ∃ (b16 : Nat) (of17 : Nat) (vsb16 : List Value), (.pointer (some ⟨b16, of17, none⟩) : Value) = v ∧ CelN τ ⟨b16, of17, none⟩ vsb16 ∧ (kA .i64 2).rep τ vsb16 q14, .v (.agg #[.I (q14.getD 0 0), .I (q14.getD 1 0)]), .v (.pointer (some ⟨b10, 7, none⟩)), .v (v5), .v (.I s13), .t fun τ v => ∃ (b21 : Nat) (of22 : Nat) (vsb21 : List Value), (.pointer (some ⟨b21, of22, none⟩) : Value) = v ∧ CelN τ ⟨b21, of22, none⟩ vsb21 ∧ (kA .i64 2).rep τ vsb21 q19, .v (.agg #[.I (q19.getD 0 0), .I (q19.getD 1 0)]), .v (.bool (!(eqN 2 0 q14 q19)))]) (fun _ _ => []) z_mix rfl (dl_mono ⟨fun _ _ _ hl ⟨b16, of17, vsb16, hv, hc18, hrepb16⟩ => ⟨b16, of17, vsb16, hv, hc18.up hl, Kd.mono _ hl hrepb16⟩, ⟨fun _ _ _ hl ⟨b21, of22, vsb21, hv, hc23, hrepb21⟩ => ⟨b21, of22, vsb21, hv, hc23.up hl, Kd.mono _ hl hrepb21⟩, trivial⟩⟩) (allB_cons (allB_cons (allB_cons (allB_cons (allB_cons (allB_cons (allB_cons (allB_cons (allB_cons (allB_cons (allB_cons allB_nil (p1 dA)) ?_) (p1 dA)) ?_) ?_) (p1 dA)) ?_) (p1 dA)) ?_) ?_) ?_) ?_
    ·intro ρ' τ pool rs hl hd hout hk
     obtain ⟨_, e0, rfl⟩ := hd 0 rfl
     refine o_load (j := 0) (v := v1) rfl rfl rfl z_sc34 e0 rfl rfl ?_
     exact st_addNil (hk _ _ (Sto.Le.refl _) rfl)
    ·intro ρ' τ pool rs hl hd hout hk
     obtain ⟨_, e1, rfl⟩ := hd 1 rfl
     obtain ⟨_, e2, rfl⟩ := hd 2 rfl
     refine o_index rfl rfl rfl z_slT34 rfl e1 (hs3.up ((hl11.trans hl13).trans hl)) e2 hf15 (fun b16 of17 vsb16 hc18 hrepb16 => ?_)
     exact st_addNil (hk _ _ (Sto.Le.refl _) ⟨b16, of17, _, rfl, hc18, hrepb16⟩)
    ·intro ρ' τ pool rs hl hd hout hk
     obtain ⟨_, e3, b16, of17, vsb16, rfl, hc18, hrepb16⟩ := hd 3 rfl
     have hrepb16 := hrepb16
     obtain rfl := hrepb16
     refine o_loadIN (vs := [.I (q14.getD 0 0), .I (q14.getD 1 0)]) rfl rfl rfl z_agg85 e3 rfl (celn_part 0 rfl hc18) ?_
     exact st_addNil (hk _ _ (Sto.Le.refl _) rfl)
    ·intro ρ' τ pool rs hl hd hout hk
     obtain ⟨_, e5, rfl⟩ := hd 5 rfl
     refine o_load (j := 1) (v := v5) rfl rfl rfl z_sc34 e5 rfl rfl ?_
     exact st_addNil (hk _ _ (Sto.Le.refl _) rfl)
    ·intro ρ' τ pool rs hl hd hout hk
     obtain ⟨_, e6, rfl⟩ := hd 6 rfl
     obtain ⟨_, e7, rfl⟩ := hd 7 rfl
     refine o_index rfl rfl rfl z_slT34 rfl e6 (hs7.up ((hl11.trans hl13).trans hl)) e7 hf20 (fun b21 of22 vsb21 hc23 hrepb21 => ?_)
     exact st_addNil (hk _ _ (Sto.Le.refl _) ⟨b21, of22, _, rfl, hc23, hrepb21⟩)
    ·intro ρ' τ pool rs hl hd hout hk
     obtain ⟨_, e8, b21, of22, vsb21, rfl, hc23, hrepb21⟩ := hd 8 rfl
     have hrepb21 := hrepb21
     obtain rfl := hrepb21
     refine o_loadIN (vs := [.I (q19.getD 0 0), .I (q19.getD 1 0)]) rfl rfl rfl z_agg85 e8 rfl (celn_part 0 rfl hc23) ?_
     exact st_addNil (hk _ _ (Sto.Le.refl _) rfl)
    ·intro ρ' τ pool rs hl hd hout hk
     obtain ⟨_, e4, rfl⟩ := hd 4 rfl
     obtain ⟨_, e9, rfl⟩ := hd 9 rfl
     refine o_aggEq (b := (eqN 2 0 q14 q19)) (e := (!(eqN 2 0 q14 q19))) rfl rfl rfl z_eqg85 e4 e9 (fun w => by exact eq_arr (xs := q14) (ys := q19) Tryz.underlying85 Tryz.underlying3 z_info3 z_cell3) rfl ?_
     exact st_addNil (hk _ _ (Sto.Le.refl _) rfl)
    intro ρ' τ24 vals hl24 hv hout
    refine st_ord [0, 0] _ rfl ?_
    refine st_env (ρ' := [(66, .bool (!(eqN 2 0 q14 q19))), (2, .Pb b9), (3, .Pb b10), (4, .bool false), (5, .I s13)]) ⟨(lv1 hv 10 rfl rfl), (hout 2 rfl).trans rfl, (hout 3 rfl).trans rfl, (hout 4 rfl).trans rfl, (hout 5 rfl).trans rfl, trivial⟩ ?_
    refine st_end ?_
    refine st_if rfl h (fun h => ?_) (fun h => ?_)
    ·refine Z 4 rfl ?_
     refine st_ord [] _ rfl ?_
     obtain rfl := he13 _ h
     replace h := hA13
     obtain rfl := Eq.symm h
     exact st_ret (gs' := []) Tryz.func25 rfl (List.Sublist.refl _) ((hl11.trans hl13).trans hl24) ⟨rfl, rfl⟩
    ·refine Z 7 rfl ?_
     exact hn13 _ _ _ _ h ⟨(hl13.trans hl24), rfl, rfl⟩
   ·refine st_exit rfl ?_
    obtain rfl := he13 _ h
    replace h := hA13
    refine st_ord [] _ rfl ?_
    exact hk12 _ _ _ ⟨(), h, hl13, rfl, rfl⟩
 refine ZZ 6 [1, 0] rfl rfl ?_
 refine o_mif rfl rfl rfl rfl h (fun h => ?_) (fun h => ?_)
 ·refine Z 38 rfl ?_
  refine st_ord [1, 0] _ rfl ?_
  exact hk11 _ _ _ ⟨true, h, (Sto.Le.refl _), rfl, rfl⟩
 ·refine ZZ 4 [1, 0] rfl rfl ?_
  refine o_aggEq (b := (eqN 6 0 a0.2.1 a1.2.1)) (e := (!(eqN 6 0 a0.2.1 a1.2.1))) rfl rfl rfl z_eqg26 rfl rfl (fun w => by exact eq_arr (xs := a0.2.1) (ys := a1.2.1) Tryz.underlying26 Tryz.underlying3 z_info3 z_cell3) rfl ?_
  refine o_pick rfl rfl rfl rfl rfl ?_
  refine o_mif rfl rfl rfl rfl h (fun h => ?_) (fun h => ?_)
  ·refine Z 31 rfl ?_
   refine st_ord [1, 0] _ rfl ?_
   exact hk11 _ _ _ ⟨true, h, (Sto.Le.refl _), rfl, rfl⟩
  ·refine ZZ 2 [1] rfl rfl ?_
   refine o_lenI rfl rfl rfl z_slT34 rfl hs3 ?_
   refine ZZ 2 [0] rfl rfl ?_
   refine o_lenI rfl rfl rfl z_slT34 rfl hs7 ?_
   refine Z 2 rfl ?_
   refine o_mif rfl rfl rfl rfl h (fun h => ?_) (fun h => ?_)
   ·refine Z 22 rfl ?_
    refine st_ord [1, 0] _ rfl ?_
    exact hk11 _ _ _ ⟨true, h, (Sto.Le.refl _), rfl, rfl⟩
   ·refine ZZ 4 [1, 0] rfl rfl ?_
    obtain ⟨r27, hr28, h⟩ := h
    refine st_call (foot := []) rfl rfl rfl rfl rfl rfl (callV_fn z_en49 (ref01_Ints_ok hr28 σ hs4 hs8)) ?_
    rintro vτ29 τ29 gsτ29 hl30 ⟨rfl, rfl⟩
    refine Z 2 rfl ?_
    refine o_mif rfl rfl rfl rfl h (fun h => ?_) (fun h => ?_)
    ·refine Z 14 rfl ?_
     refine st_ord [1, 0] _ rfl ?_
     exact hk11 _ _ _ ⟨true, h, hl30, rfl, rfl⟩
    ·refine ZZ 6 [1, 0] rfl rfl ?_
     refine o_mif rfl rfl rfl rfl h (fun h => ?_) (fun h => ?_)
     ·refine Z 7 rfl ?_
      refine st_ord [1, 0] _ rfl ?_
      exact hk11 _ _ _ ⟨true, h, hl30, rfl, rfl⟩
     ·refine ZZ 7 [1, 0] rfl rfl ?_
      refine st_ord [1, 0] _ rfl ?_
      exact hk11 _ _ _ ⟨(!(decide (a0.t4.2 = a1.t4.2))), h, hl30, rfl, rfl⟩
theorem ref23_Word_ok {a0 : Int} {r : ByteArray} (h : ref23_Word a0 r) (σ : Sto)  :
    Does Tryz.prog 26 [.I a0] σ [] (fun v τ gs => gs = [] ∧ .string r = v) := by
 refine call_of Tryz.func26 Tryz.ntmps26 rfl rfl (fun cs fs => ?_)
 refine Z 2 rfl ?_
 refine o_assign rfl rfl rfl (ev_str z_str19) ?_
 refine Z 3 rfl ?_
 refine o_litE (eI .i64) [2, 3, 4, 5, 6, 9, 10, 11, 12, 13, 14, 15, 16, 17, 18, 19] rfl rfl rfl z_slT28 z_zero3 ⟨rfl, ⟨_, rfl, rfl⟩, ⟨rfl, ⟨_, rfl, rfl⟩, ⟨rfl, ⟨_, rfl, rfl⟩, ⟨rfl, ⟨_, rfl, rfl⟩, ⟨rfl, ⟨_, rfl, rfl⟩, ⟨rfl, ⟨_, rfl, rfl⟩, ⟨rfl, ⟨_, rfl, rfl⟩, ⟨rfl, ⟨_, rfl, rfl⟩, ⟨rfl, ⟨_, rfl, rfl⟩, ⟨rfl, ⟨_, rfl, rfl⟩, ⟨rfl, ⟨_, rfl, rfl⟩, ⟨rfl, ⟨_, rfl, rfl⟩, ⟨rfl, ⟨_, rfl, rfl⟩, ⟨rfl, ⟨_, rfl, rfl⟩, ⟨rfl, ⟨_, rfl, rfl⟩, ⟨rfl, ⟨_, rfl, rfl⟩, trivial⟩⟩⟩⟩⟩⟩⟩⟩⟩⟩⟩⟩⟩⟩⟩⟩ rfl rfl rfl rfl (fun v1 g2 ho3 => ?_)
 refine Z 4 rfl ?_
 refine o_litE eS [(bstr [108, 111, 110, 103]), (bstr [102, 111, 114, 109]), (bstr [101, 110, 100]), (bstr [114, 97, 110, 103, 101]), (bstr [109, 97, 110, 121]), (bstr [107, 105, 110, 100]), (bstr [118, 101, 114, 115, 105, 111, 110]), (bstr [115, 117, 109]), (bstr [115, 116, 117, 102, 102]), (bstr [115, 104, 111, 114, 116]), (bstr [115, 101, 101, 110]), (bstr [111, 108, 100]), (bstr [116, 119, 105, 99, 101]), (bstr [109, 101, 101, 116]), (bstr [108, 97, 116, 101]), (bstr [116, 101, 120, 116])] rfl rfl rfl z_slT102 z_zero9 ⟨rfl, ⟨_, (ev_str z_str20), rfl⟩, ⟨rfl, ⟨_, (ev_str z_str21), rfl⟩, ⟨rfl, ⟨_, (ev_str z_str22), rfl⟩, ⟨rfl, ⟨_, (ev_str z_str23), rfl⟩, ⟨rfl, ⟨_, (ev_str z_str24), rfl⟩, ⟨rfl, ⟨_, (ev_str z_str25), rfl⟩, ⟨rfl, ⟨_, (ev_str z_str26), rfl⟩, ⟨rfl, ⟨_, (ev_str z_str27), rfl⟩, ⟨rfl, ⟨_, (ev_str z_str28), rfl⟩, ⟨rfl, ⟨_, (ev_str z_str29), rfl⟩, ⟨rfl, ⟨_, (ev_str z_str30), rfl⟩, ⟨rfl, ⟨_, (ev_str z_str31), rfl⟩, ⟨rfl, ⟨_, (ev_str z_str32), rfl⟩, ⟨rfl, ⟨_, (ev_str z_str33), rfl⟩, ⟨rfl, ⟨_, (ev_str z_str34), rfl⟩, ⟨rfl, ⟨_, (ev_str z_str18), rfl⟩, trivial⟩⟩⟩⟩⟩⟩⟩⟩⟩⟩⟩⟩⟩⟩⟩⟩ rfl rfl rfl rfl (fun v4 g5 ho6 => ?_)
 refine Z 3 rfl ?_
 refine st_cut (fun ρ τ7 gs => ∃ (s7 : Unit), ref23_Word_j1 s7 r ∧ σ.Le τ7 ∧ ESub ρ [(2, .E0)] ∧ gs = []) ?_ (fun hk7 => ?_)
 ·rintro ρ7 τ7 gs7 ⟨s7, h, hl7, hρ, rfl⟩
  refine st_es hρ ?_
  refine Z 2 rfl ?_
  refine o_assign rfl rfl rfl (ev_str z_str19) ?_
  refine st_end ?_
  obtain rfl := Eq.symm h
  exact st_ret (gs' := []) Tryz.func26 rfl (List.Sublist.refl _) hl7 ⟨rfl, rfl⟩
 refine Z 4 rfl ?_
 obtain ⟨e8, hL8, hA8⟩ := h
 refine st_ord [1, 0] _ rfl ?_
 refine st_loop hL8 (fun (s8 : Int) ρ τ8 gs => σ.Le τ8 ∧ ESub ρ [(0, .I a0), (2, .E0), (3, v1), (4, v4), (5, .I s8)] ∧ gs = [g2, g5]) ⟨Sto.Le.refl _, rfl, rfl⟩ ?_
 rintro s8 o8 h he8 ρ8 τ8 gs8 ⟨hl8, hρ, rfl⟩ hn8
 refine st_es hρ ?_
 refine Z 5 rfl ?_
 refine o_lenO rfl rfl rfl z_slT28 rfl (ho3.up hl8) ?_
 refine Z 2 rfl ?_
 refine st_if rfl h (fun h => ?_) (fun h => ?_)
 ·refine Z 7 rfl ?_
  obtain ⟨q9, hf10, h⟩ := h
  refine o_indexOw rfl rfl rfl z_slT28 rfl rfl (ho3.up hl8) rfl hf10 (fun b11 hb12 => ?_)
  obtain ⟨vs13, hrep14, hat15⟩ := Ow.at (ho3.up hl8) hb12 hf10
  obtain rfl := hrep14
  refine o_loadOw (off := 0) (j := 0) (v := .I q9) rfl rfl rfl z_sc3 rfl hat15 rfl rfl ?_
  refine Z 3 rfl ?_
  refine st_if rfl h (fun h => ?_) (fun h => ?_)
  ·refine Z 4 rfl ?_
   obtain ⟨q16, hf17, h⟩ := h
   refine o_indexOw rfl rfl rfl z_slT102 rfl rfl (ho6.up hl8) rfl hf17 (fun b18 hb19 => ?_)
   obtain ⟨vs20, hrep21, hat22⟩ := Ow.at (ho6.up hl8) hb19 hf17
   obtain rfl := hrep21
   refine o_loadOw (off := 0) (j := 1) (v := .string q16) rfl rfl rfl z_sc9 rfl hat22 rfl rfl ?_
   refine Z 2 rfl ?_
   refine st_ord [] _ rfl ?_
   obtain rfl := he8 _ h
   replace h := hA8
   obtain rfl := Eq.symm h
   exact st_ret (gs' := []) Tryz.func26 rfl (List.Sublist.refl _) hl8 ⟨rfl, rfl⟩
  ·refine Z 7 rfl ?_
   exact hn8 _ _ _ _ h ⟨hl8, rfl, rfl⟩
 ·refine st_exit rfl ?_
  obtain rfl := he8 _ h
  replace h := hA8
  refine st_ord [] _ rfl ?_
  exact hk7 _ _ _ ⟨(), h, hl8, rfl, rfl⟩
theorem pen_New_ok {a0 : Int} {r : ((List Int × Int × Bool))} (h : pen_New a0 r) (σ : Sto)  :
    Does Tryz.prog 50 [.I a0] σ [] (fun v τ gs => ∃ (b2 : Nat) (v3 : Value) (g4 : Grp), gs = [[(b2, .cells [v3, .I r.2.1, .bool r.2.2].toArray 129 (0, 0))], g4] ∧ .Pb b2 = v ∧ Ow (kI .u8) 5 τ v3 r.1 g4) := by
 refine call_of Tryz.func50 Tryz.ntmps50 rfl rfl (fun cs fs => ?_)
 refine ZZ 10 [] rfl rfl ?_
 refine o_boxC rfl rfl rfl rfl rfl rfl (fun b1 => ?_)
 refine Z 2 rfl ?_
 refine st_addNil ?_
 refine st_ord [1, 0] _ rfl ?_
 obtain rfl := Eq.symm h
 exact st_ret (gs' := [[(b1, .cells #[.N0, .I (max a0 0), .bool false] 129 (0, 0))], []]) Tryz.func50 rfl (List.Sublist.refl _) (Sto.Le.refl _) ⟨_, _, _, rfl, rfl, Ow.nil⟩
theorem pen_Pen_Raw_ok {a0 : (List Int × Int × Bool)} {a1 : List Int} {ba0 : Nat} {v1 : Value} {g2 : Grp} {v4 : Value} {r : Int × ((List Int × Int × Bool))} (h : pen_Pen_Raw a0 a1 r) (σ : Sto) (ho3 : Ow (kI .u8) 5 σ v1 a0.1 g2) (hs5 : Sl (kI .u8) σ v4 a1) :
    Does Tryz.prog 54 [.Pb ba0, v4] σ [[(ba0, .cells [v1, .I a0.2.1, .bool a0.2.2].toArray 129 (0, 0))], g2] (fun v τ gs => ∃ (v13 : Value) (g14 : Grp), gs = [[(ba0, .cells [v13, .I r.2.2.1, .bool r.2.2.2].toArray 129 (0, 0))], g14] ∧ .I r.1 = v ∧ Ow (kI .u8) 5 τ v13 r.2.1 g14) := by
 refine call_of Tryz.func54 Tryz.ntmps54 rfl rfl (fun cs fs => ?_)
 refine Z 14 rfl ?_
 let cc6 : Prop := a0.2.2 = false
 refine st_draw 23 (dl [.v (.Pb ba0), .v (.Pb ba0), .v (.Pb ba0), .v (.pointer (some ⟨ba0, 2, none⟩)), .v (.bool a0.2.2), .v (.bool a0.2.2), .g cc6 (v4), .g cc6 (.I (a1.length : Int)), .g cc6 (.Pb ba0), .g cc6 (.Pb ba0), .g cc6 (.Pb ba0), .g cc6 (.pointer (some ⟨ba0, 1, none⟩)), .g cc6 (.I a0.2.1), .g cc6 (.Pb ba0), .g cc6 (.Pb ba0), .g cc6 (.Pb ba0), .g cc6 (.Pb ba0), .g cc6 (v1), .g cc6 (.I (a0.1.length : Int)), .g cc6 (.I (IntKind.i64.wrap (a0.2.1 - (a0.1.length : Int)))), .g cc6 (.bool (decide ((IntKind.i64.wrap (a0.2.1 - (a0.1.length : Int))) < (a1.length : Int)))), .v (.bool (a0.2.2 || (decide ((IntKind.i64.wrap (a0.2.1 - (a0.1.length : Int))) < (a1.length : Int))))), .v (.bool (a0.2.2 || (decide ((IntKind.i64.wrap (a0.2.1 - (a0.1.length : Int))) < (a1.length : Int)))))]) (fun _ _ => []) z_mix rfl (dl_mono (by exact trivial)) (allB_cons (allB_cons (allB_cons (allB_cons (allB_cons (allB_cons (allB_cons (allB_cons (allB_cons (allB_cons (allB_cons (allB_cons (allB_cons (allB_cons (allB_cons (allB_cons (allB_cons (allB_cons (allB_cons (allB_cons (allB_cons (allB_cons (allB_cons allB_nil (p1 dA)) (p1 dA)) (p1 dA)) (p1 dA)) ?_) (p1 dA)) (p1 (dG []))) ?_) (p1 (dG []))) (p1 (dG [8]))) (p1 (dG [9]))) (p1 (dG [10]))) ?_) (p1 (dG []))) (p1 (dG [13]))) (p1 (dG [14]))) (p1 (dG [15]))) ?_) ?_) (p1 (dG [12, 18]))) (p1 (dG [7, 19]))) (p1 dO)) (p1 dA)) ?_
 ·intro ρ' τ pool rs hl hd hout hk
  obtain ⟨_, e3, rfl⟩ := hd 3 rfl
  refine o_load (j := 0) (v := .bool a0.2.2) rfl rfl rfl z_sc4 e3 rfl rfl ?_
  exact st_addNil (hk _ _ (Sto.Le.refl _) rfl)
 ·intro ρ' τ pool rs hl hd hout hk
  obtain ⟨_, e5, rfl⟩ := hd 5 rfl
  obtain ⟨w6, e6, t6⟩ := hd 6 rfl
  by_cases hG : a0.2.2 = false
  ·have hC := hG
   obtain ⟨rfl⟩ := t6.1 hC
   refine o_lenI rfl (wants_of rfl e5 hG) rfl z_slT42 e6 (hs5.up hl) ?_
   exact st_addNil (hk _ _ (Sto.Le.refl _) ⟨fun _ => rfl, fun hn => absurd hC hn⟩)
  ·refine st_pass rfl rfl rfl e5 (beq_off hG) rfl ?_
   exact st_addNil (hk _ _ (Sto.Le.refl _) ⟨fun h => absurd h hG, fun _ => rfl⟩)
 ·intro ρ' τ pool rs hl hd hout hk
  obtain ⟨_, e5, rfl⟩ := hd 5 rfl
  obtain ⟨w11, e11, t11⟩ := hd 11 rfl
  by_cases hG : a0.2.2 = false
  ·have hC := hG
   obtain ⟨rfl⟩ := t11.1 hC
   refine o_load (j := 0) (v := .I a0.2.1) rfl (wants_of rfl e5 hG) rfl z_sc3 e11 rfl rfl ?_
   exact st_addNil (hk _ _ (Sto.Le.refl _) ⟨fun _ => rfl, fun hn => absurd hC hn⟩)
  ·refine st_pass rfl rfl rfl e5 (beq_off hG) rfl ?_
   exact st_addNil (hk _ _ (Sto.Le.refl _) ⟨fun h => absurd h hG, fun _ => rfl⟩)
 ·intro ρ' τ pool rs hl hd hout hk
  obtain ⟨_, e5, rfl⟩ := hd 5 rfl
  obtain ⟨w16, e16, t16⟩ := hd 16 rfl
  by_cases hG : a0.2.2 = false
  ·have hC := hG
   obtain ⟨rfl⟩ := t16.1 hC
   refine o_load (j := 0) (v := v1) rfl (wants_of rfl e5 hG) rfl z_sc42 e16 rfl rfl ?_
   exact st_addNil (hk _ _ (Sto.Le.refl _) ⟨fun _ => rfl, fun hn => absurd hC hn⟩)
  ·refine st_pass rfl rfl rfl e5 (beq_off hG) rfl ?_
   exact st_addNil (hk _ _ (Sto.Le.refl _) ⟨fun h => absurd h hG, fun _ => rfl⟩)
 ·intro ρ' τ pool rs hl hd hout hk
  obtain ⟨_, e5, rfl⟩ := hd 5 rfl
  obtain ⟨w17, e17, t17⟩ := hd 17 rfl
  by_cases hG : a0.2.2 = false
  ·have hC := hG
   obtain ⟨rfl⟩ := t17.1 hC
   refine o_lenO rfl (wants_of rfl e5 hG) rfl z_slT42 e17 (ho3.up hl) ?_
   exact st_addNil (hk _ _ (Sto.Le.refl _) ⟨fun _ => rfl, fun hn => absurd hC hn⟩)
  ·refine st_pass rfl rfl rfl e5 (beq_off hG) rfl ?_
   exact st_addNil (hk _ _ (Sto.Le.refl _) ⟨fun h => absurd h hG, fun _ => rfl⟩)
 intro ρ' τ7 vals hl7 hv hout
 refine st_ord [0, 0] _ rfl ?_
 refine st_env (ρ' := [(8, .bool (a0.2.2 || (decide ((IntKind.i64.wrap (a0.2.1 - (a0.1.length : Int))) < (a1.length : Int))))), (0, .Pb ba0), (1, v4), (4, .I 0)]) ⟨(lv1 hv 22 rfl rfl), (hout 0 rfl).trans rfl, (hout 1 rfl).trans rfl, (hout 4 rfl).trans rfl, trivial⟩ ?_
 refine st_end ?_
 refine st_if rfl h (fun h => ?_) (fun h => ?_)
 ·refine ZZ 12 [0] rfl rfl ?_
  obtain rfl := Eq.symm h
  exact st_ret (gs' := [[(ba0, .cells #[v1, .I a0.2.1, .bool true] 129 (0, 0))], g2]) Tryz.func54 rfl (List.Sublist.refl _) hl7 ⟨_, _, rfl, rfl, (ho3.up hl7)⟩
 ·refine ZZ 11 [0] rfl rfl ?_
  obtain ⟨hf11, hf12, h⟩ := h
  refine st_ord [1, 0] _ rfl ?_
  refine o_append (dk := (kI .u8)) (xs := a0.1) (ys := a1) rfl rfl rfl rfl z_slT42 rfl (ho3.up hl7) rfl (Sl.src (hs5.up hl7)) hf11 hf12 (fun v8 g9 ho10 => ?_)
  refine Z 3 rfl ?_
  refine o_store (j := 1) (vs := [v8]) (cs' := [v8, .I a0.2.1, .bool a0.2.2]) rfl rfl rfl z_size42 rfl rfl (oneL_ow ho10) (ones_cons ho10.one' ones_nil) rfl rfl rfl ?_
  refine Z 5 rfl ?_
  refine st_ord [1, 0] _ rfl ?_
  obtain rfl := Eq.symm h
  exact st_ret (gs' := [[(ba0, .cells #[v8, .I a0.2.1, .bool a0.2.2] 129 (0, 0))], g9]) Tryz.func54 rfl (List.Sublist.refl _) hl7 ⟨_, _, rfl, rfl, ho10⟩
theorem pen_Pen_word_ok {a0 : (List Int × Int × Bool)} {a1 : Int} {a2 : Int} {ba0 : Nat} {v1 : Value} {g2 : Grp} {r : Int × ((List Int × Int × Bool))} (h : pen_Pen_word a0 a1 a2 r) (σ : Sto) (ho3 : Ow (kI .u8) 5 σ v1 a0.1 g2) :
    Does Tryz.prog 70 [.Pb ba0, .int .u32 a1, .I a2] σ [[(ba0, .cells [v1, .I a0.2.1, .bool a0.2.2].toArray 129 (0, 0))], g2] (fun v τ gs => ∃ (v20 : Value) (g21 : Grp), gs = [[(ba0, .cells [v20, .I r.2.2.1, .bool r.2.2.2].toArray 129 (0, 0))], g21] ∧ .I r.1 = v ∧ Ow (kI .u8) 5 τ v20 r.2.1 g21) := by
 refine call_of Tryz.func70 Tryz.ntmps70 rfl rfl (fun cs fs => ?_)
 refine Z 17 rfl ?_
 refine o_buildA (ps := [(0, [.int .u8 (IntKind.u8.wrap a1)]), (1, [.int .u8 (IntKind.u8.wrap (ishr .u32 a1 8))]), (2, [.int .u8 (IntKind.u8.wrap (ishr .u32 a1 16))]), (3, [.int .u8 (IntKind.u8.wrap (ishr .u32 a1 24))])]) (cs := [.int .u8 (IntKind.u8.wrap a1), .int .u8 (IntKind.u8.wrap (ishr .u32 a1 8)), .int .u8 (IntKind.u8.wrap (ishr .u32 a1 16)), .int .u8 (IntKind.u8.wrap (ishr .u32 a1 24))]) rfl rfl rfl z_arrz151 ⟨rfl, ⟨_, rfl, rfl⟩, ⟨rfl, ⟨_, rfl, rfl⟩, ⟨rfl, ⟨_, rfl, rfl⟩, ⟨rfl, ⟨_, rfl, rfl⟩, trivial⟩⟩⟩⟩ (fill_all [.int .u8 (IntKind.u8.wrap a1), .int .u8 (IntKind.u8.wrap (ishr .u32 a1 8)), .int .u8 (IntKind.u8.wrap (ishr .u32 a1 16)), .int .u8 (IntKind.u8.wrap (ishr .u32 a1 24))] _ rfl) ?_
 refine o_alloc rfl rfl rfl z_zero151 (fun b4 => ?_)
 refine ZZ 7 [0] rfl rfl ?_
 obtain ⟨hf8, hf9, hf10, h⟩ := h
 refine st_freeze (fun τ5 hl6 hg7 => ?_)
 refine o_sliceA (dk := (kI .u8)) (L := 0) (H := a2) (xs := [(IntKind.u8.wrap a1), (IntKind.u8.wrap (ishr .u32 a1 8)), (IntKind.u8.wrap (ishr .u32 a1 16)), (IntKind.u8.wrap (ishr .u32 a1 24))]) rfl rfl rfl z_arr151 rfl (hg7 _ List.mem_cons_self) (manyI [(IntKind.u8.wrap a1), (IntKind.u8.wrap (ishr .u32 a1 8)), (IntKind.u8.wrap (ishr .u32 a1 16)), (IntKind.u8.wrap (ishr .u32 a1 24))]) rfl rfl rfl ⟨_, rfl⟩ (by decide) hf8 hf9 ⟨_, _, rfl, (Int.le_refl _), hf10⟩ (by decide) (fun v11 hs12 => ?_)
 obtain ⟨r13, hr14, h⟩ := h
 refine st_call (foot := [[(ba0, .cells #[v1, .I a0.2.1, .bool a0.2.2] 129 (0, 0))], g2]) rfl rfl rfl rfl rfl rfl (callV_fn z_en54 (pen_Pen_Raw_ok hr14 τ5 (ho3.up hl6) hs12)) ?_
 rintro vτ15 τ15 gsτ15 hl16 ⟨v17, g18, rfl, rfl, ho19⟩
 refine Z 2 rfl ?_
 obtain rfl := Eq.symm h
 exact st_ret (gs' := [[(ba0, .cells #[v17, .I r13.2.2.1, .bool r13.2.2.2] 129 (0, 0))], g18]) Tryz.func70 rfl (List.Sublist.refl _) (hl6.trans hl16) ⟨_, _, rfl, rfl, ho19⟩
theorem pen_Pen_U8_ok {a0 : (List Int × Int × Bool)} {a1 : Int} {ba0 : Nat} {v1 : Value} {g2 : Grp} {r : Int × ((List Int × Int × Bool))} (h : pen_Pen_U8 a0 a1 r) (σ : Sto) (ho3 : Ow (kI .u8) 5 σ v1 a0.1 g2) :
    Does Tryz.prog 51 [.Pb ba0, .int .u8 a1] σ [[(ba0, .cells [v1, .I a0.2.1, .bool a0.2.2].toArray 129 (0, 0))], g2] (fun v τ gs => ∃ (v11 : Value) (g12 : Grp), gs = [[(ba0, .cells [v11, .I r.2.2.1, .bool r.2.2.2].toArray 129 (0, 0))], g12] ∧ .I r.1 = v ∧ Ow (kI .u8) 5 τ v11 r.2.1 g12) := by
 refine call_of Tryz.func51 Tryz.ntmps51 rfl rfl (fun cs fs => ?_)
 refine Z 9 rfl ?_
 obtain ⟨r4, hr5, h⟩ := h
 refine st_call (foot := [[(ba0, .cells #[v1, .I a0.2.1, .bool a0.2.2] 129 (0, 0))], g2]) rfl rfl rfl rfl rfl rfl (callV_fn z_en70 (pen_Pen_word_ok hr5 σ ho3)) ?_
 rintro vτ6 τ6 gsτ6 hl7 ⟨v8, g9, rfl, rfl, ho10⟩
 refine Z 2 rfl ?_
 obtain rfl := Eq.symm h
 exact st_ret (gs' := [[(ba0, .cells #[v8, .I r4.2.2.1, .bool r4.2.2.2] 129 (0, 0))], g9]) Tryz.func51 rfl (List.Sublist.refl _) hl7 ⟨_, _, rfl, rfl, ho10⟩
theorem pen_Pen_U32_ok {a0 : (List Int × Int × Bool)} {a1 : Int} {ba0 : Nat} {v1 : Value} {g2 : Grp} {r : Int × ((List Int × Int × Bool))} (h : pen_Pen_U32 a0 a1 r) (σ : Sto) (ho3 : Ow (kI .u8) 5 σ v1 a0.1 g2) :
    Does Tryz.prog 52 [.Pb ba0, .int .u32 a1] σ [[(ba0, .cells [v1, .I a0.2.1, .bool a0.2.2].toArray 129 (0, 0))], g2] (fun v τ gs => ∃ (v11 : Value) (g12 : Grp), gs = [[(ba0, .cells [v11, .I r.2.2.1, .bool r.2.2.2].toArray 129 (0, 0))], g12] ∧ .I r.1 = v ∧ Ow (kI .u8) 5 τ v11 r.2.1 g12) := by
 refine call_of Tryz.func52 Tryz.ntmps52 rfl rfl (fun cs fs => ?_)
 refine Z 8 rfl ?_
 obtain ⟨r4, hr5, h⟩ := h
 refine st_call (foot := [[(ba0, .cells #[v1, .I a0.2.1, .bool a0.2.2] 129 (0, 0))], g2]) rfl rfl rfl rfl rfl rfl (callV_fn z_en70 (pen_Pen_word_ok hr5 σ ho3)) ?_
 rintro vτ6 τ6 gsτ6 hl7 ⟨v8, g9, rfl, rfl, ho10⟩
 refine Z 2 rfl ?_
 obtain rfl := Eq.symm h
 exact st_ret (gs' := [[(ba0, .cells #[v8, .I r4.2.2.1, .bool r4.2.2.2] 129 (0, 0))], g9]) Tryz.func52 rfl (List.Sublist.refl _) hl7 ⟨_, _, rfl, rfl, ho10⟩
theorem body_check_ok {a0 : TyM} {a1 : Int} {v1 : Value} {v2 : Value} {r : Int} (h : body_check a0 a1 r) (σ : Sto) (hs3 : Sl (kP (kI .i64) (kI .i64)) σ v1 a0.2.2.1) (hs4 : Sl (kI .i64) σ v2 a0.2.2.2.1) :
    Does Tryz.prog 71 [.agg (lM a0 v1 v2).toArray, .I a1] σ [] (fun v τ gs => gs = [] ∧ .I r = v) := by
 refine call_of Tryz.func71 Tryz.ntmps71 rfl rfl (fun cs fs => ?_)
 refine Z 2 rfl ?_
 refine o_box (cs := (lM a0 v1 v2)) rfl rfl rfl rfl rfl (fun b5 => ?_)
 refine Z 4 rfl ?_
 refine st_cut (fun ρ τ6 gs => ∃ (s6 : Bool), body_check_j1 a0 s6 r ∧ σ.Le τ6 ∧ ESub ρ [(2, .Pb b5), (4, .I 0), (10, .bool s6)] ∧ gs = [[(b5, .cells (lM a0 v1 v2).toArray 30 (0, 0))]]) ?_ (fun hk6 => ?_)
 ·rintro ρ6 τ6 gs6 ⟨s6, h, hl6, hρ, rfl⟩
  refine st_es hρ ?_
  refine st_if rfl h (fun h => ?_) (fun h => ?_)
  ·refine Z 4 rfl ?_
   refine st_ord [] _ rfl ?_
   obtain rfl := Eq.symm h
   exact st_ret (gs' := []) Tryz.func71 rfl (List.Sublist.refl _) hl6 ⟨rfl, rfl⟩
  ·refine ZZ 4 [0] rfl rfl ?_
   obtain ⟨r7, hr8, h⟩ := h
   refine st_call (foot := []) rfl rfl rfl rfl rfl rfl (callV_fn z_en21 (msg_Check_ok hr8 τ6 (hs3.up hl6) (hs4.up hl6))) ?_
   rintro vτ9 τ9 gsτ9 hl10 ⟨rfl, rfl⟩
   refine Z 2 rfl ?_
   refine st_ord [] _ rfl ?_
   obtain rfl := Eq.symm h
   exact st_ret (gs' := []) Tryz.func71 rfl (List.Sublist.refl _) (hl6.trans hl10) ⟨rfl, rfl⟩
 refine Z 3 rfl ?_
 refine o_mif rfl rfl rfl rfl h (fun h => ?_) (fun h => ?_)
 ·refine Z 4 rfl ?_
  exact hk6 _ _ _ ⟨(!(decide (a1 = 2))), h, (Sto.Le.refl _), rfl, rfl⟩
 ·refine Z 4 rfl ?_
  exact hk6 _ _ _ ⟨false, h, (Sto.Le.refl _), rfl, rfl⟩
theorem field_All_1_ok {c0 : Int} {c1 : Int} {bc0 : Nat} {bc1 : Nat} {σ0 : Sto} (hc0_0 : Cel σ0 ⟨bc0, 0, none⟩ (.I c0)) (hc1_0 : Cel σ0 ⟨bc1, 0, none⟩ (.I c1)) :
    IterV Tryz.prog (fun _ x vx => vx = [.agg (lA x).toArray]) (.func (.func 102) #[] [.Pb bc0, .Pb bc1].toArray) σ0 [] (fun (_ : Unit) _ f => f = []) (field_All_1 c0 c1) := by
 intro S Y I y hyc hyo hIm hY s s' o hR σ g hle hIg
 obtain ⟨r, hr0⟩ : ∃ r, r = (s', o) := ⟨_, rfl⟩
 rw [← hr0] at hR
 have h := hR
 refine callV_of (caps := [.Pb bc0, .Pb bc1]) z_en102 ?_
 refine call_of Tryz.func102 Tryz.ntmps102 rfl rfl (fun cs fs => ?_)
 refine st_ord [0] _ rfl ?_
 refine Z 5 rfl ?_
 refine o_loadI (v := .I c0) rfl rfl rfl z_sc3 rfl (Cel.up hc0_0 hle) ?_
 obtain ⟨r1, hr2, h⟩ := h
 refine st_call (foot := []) rfl rfl rfl rfl rfl rfl (callV_fn z_en40 (field_Of_ok hr2 σ)) ?_
 rintro vτ3 τ3 gsτ3 hl4 ⟨v5, rfl, rfl, hs6⟩
 refine o_lenI rfl rfl rfl z_slT86 rfl hs6 ?_
 refine Z 2 rfl ?_
 obtain ⟨e7, hL7, hA7⟩ := h
 refine st_loop hL7 (fun (s7 : S × Int) ρ τ7 gs => τ3.Le τ7 ∧ ∃ (g8 : Grp), ESub ρ [(0, y), (2, .Pb bc1), (7, v5), (8, .I (r1.length : Int)), (9, .I s7.2)] ∧ gs = [g8] ∧ I s7.1 τ7 g8) ⟨Sto.Le.refl _, g, rfl, rfl, (hIm _ _ _ _ hl4 hIg)⟩ ?_
 rintro s7 o7 h he7 ρ7 τ7 gs7 ⟨hl7, g8, hρ, rfl, hI9⟩ hn7
 refine st_es hρ ?_
 refine Z 5 rfl ?_
 refine st_if rfl h (fun h => ?_) (fun h => ?_)
 ·refine Z 2 rfl ?_
  refine st_cut (fun ρ τ10 gs => ∃ (s10 : S) (g11 : Grp), field_All_1_j2 S Y s7 s10 o7 ∧ τ7.Le τ10 ∧ ESub ρ [(0, y), (2, .Pb bc1), (7, v5), (8, .I (r1.length : Int)), (9, .I s7.2)] ∧ gs = [g11] ∧ I s10 τ10 g11) ?_ (fun hk10 => ?_)
  ·rintro ρ10 τ10 gs10 ⟨s10, g11, h, hl10, hρ, rfl, hI12⟩
   refine st_es hρ ?_
   refine Z 4 rfl ?_
   exact hn7 _ _ _ _ h ⟨(hl7.trans hl10), g11, rfl, rfl, hI12⟩
  refine Z 3 rfl ?_
  obtain ⟨q13, hf14, h⟩ := h
  refine o_index rfl rfl rfl z_slT86 rfl rfl (hs6.up hl7) rfl hf14 (fun b15 of16 vs hc17 hrep => ?_)
  obtain ⟨_, _, rfl, rfl, ⟨_, _, rfl, rfl, ⟨_, _, rfl, rfl, ⟨_, _, rfl, rfl, ⟨_, _, rfl, rfl, ⟨_, _, rfl, rfl, rfl⟩⟩⟩⟩⟩⟩ := hrep
  refine o_loadIN (vs := (lA q13)) rfl rfl rfl z_agg89 rfl rfl (celn_part 0 rfl hc17) ?_
  refine o_alloc rfl rfl rfl z_zero89 (fun b18 => ?_)
  refine ZZ 7 [0, 0] rfl rfl ?_
  refine o_loadI (v := .I c1) rfl rfl rfl z_sc3 rfl (Cel.up hc1_0 ((hle.trans hl4).trans hl7)) ?_
  refine Z 2 rfl ?_
  refine st_if rfl h (fun h => ?_) (fun h => ?_)
  ·refine st_exit rfl ?_
   refine st_ord [1] _ rfl ?_
   exact hk10 _ _ _ ⟨s7.1, g8, h, (Sto.Le.refl _), rfl, rfl, hI9⟩
  ·refine ZZ 5 [0] rfl rfl ?_
   obtain ⟨y19, u20, hy21, h⟩ := h
   refine st_ord [1, 0] _ rfl ?_
   refine st_call (foot := [g8]) rfl rfl rfl rfl rfl rfl (hY q13 s7.1 _ _ _ _ _ (hle.trans (hl4.trans hl7)) hy21 rfl hI9) ?_
   rintro vτ22 τ22 gsτ22 hl23 ⟨rfl, g24, rfl, hI25⟩
   refine Z 2 rfl ?_
   refine st_if rfl h (fun h => ?_) (fun h => ?_)
   ·refine Z 2 rfl ?_
    refine st_ord [0] _ rfl ?_
    obtain rfl := he7 _ h
    replace h := hA7
    obtain rfl := Eq.symm h
    cases hr0
    exact st_fin (gs' := [g24, []]) Tryz.func102 rfl (by simp) ((hl4.trans hl7).trans hl23) ⟨g24, _, rfl, hI25, rfl⟩
   ·refine Z 2 rfl ?_
    refine st_ord [0] _ rfl ?_
    exact hk10 _ _ _ ⟨u20, g24, h, hl23, rfl, rfl, hI25⟩
 ·refine Z 2 rfl ?_
  obtain rfl := he7 _ h
  replace h := hA7
  obtain rfl := Eq.symm h
  cases hr0
  exact st_fin (gs' := [g8, []]) Tryz.func102 rfl (by simp) (hl4.trans hl7) ⟨g8, _, rfl, hI9, rfl⟩
theorem field_All_ok {a0 : Int} {a1 : Int} {r : (((S : Type) → ((TyA) → S → Bool × S → Prop) → S → S × Unit → Prop))} (h : field_All a0 a1 r) (σ : Sto)  :
    Does Tryz.prog 89 [.I a0, .I a1] σ [] (fun v τ gs => ∃ (f9 : Nat) (q10 : Array Value), gs = [] ∧ .func (.func f9) #[] q10 = v ∧ IterV Tryz.prog (fun _ x vx => vx = [.agg (lA x).toArray]) (.func (.func f9) #[] q10) τ [] (fun (_ : Unit) _ f => f = []) r) := by
 refine call_of Tryz.func89 Tryz.ntmps89 rfl rfl (fun cs fs => ?_)
 refine Z 2 rfl ?_
 refine o_boxC rfl rfl rfl rfl rfl rfl (fun b1 => ?_)
 refine o_boxC rfl rfl rfl rfl rfl rfl (fun b2 => ?_)
 refine Z 4 rfl ?_
 refine st_ord [1, 0] _ rfl ?_
 refine st_freeze (fun τ3 hl4 hg5 => ?_)
 refine st_freeze (fun τ6 hl7 hg8 => ?_)
 refine Z 3 rfl ?_
 obtain rfl := Eq.symm h
 exact st_ret (gs' := []) Tryz.func89 rfl (List.Sublist.refl _) (hl4.trans hl7) ⟨_, _, rfl, rfl, (field_All_1_ok (Cel.up (cel_of hg5 rfl) hl7) (cel_of hg8 rfl))⟩
theorem varint_Put_ok {a0 : List Int} {v1 : Value} {r : List Int} (h : varint_Put a0 r) (σ : Sto) (hs2 : Sl (kI .u64) σ v1 a0) :
    Does Tryz.prog 73 [v1] σ [] (fun v τ gs => ∃ (v48 : Value), gs = [] ∧ v48 = v ∧ Sl (kI .u8) τ v48 r) := by
 refine call_of Tryz.func73 Tryz.ntmps73 rfl rfl (fun cs fs => ?_)
 refine Z 9 rfl ?_
 refine st_cut (fun ρ τ3 gs => ∃ (s3 : List Int) (v4 : Value) (g5 : Grp), varint_Put_j1 s3 r ∧ σ.Le τ3 ∧ ESub ρ [(2, .N0), (3, v4)] ∧ gs = [g5] ∧ Ow (kI .u8) 5 τ3 v4 s3 g5) ?_ (fun hk3 => ?_)
 ·rintro ρ3 τ3 gs3 ⟨s3, v4, g5, h, hl3, hρ, rfl, ho6⟩
  refine st_es hρ ?_
  refine Z 5 rfl ?_
  refine st_freeze (fun τ7 hl8 hg9 => ?_)
  have hs10 := ho6.freeze hl8 hg9
  obtain rfl := Eq.symm h
  exact st_ret (gs' := []) Tryz.func73 rfl (List.Sublist.refl _) (hl3.trans hl8) ⟨_, rfl, rfl, hs10⟩
 refine Z 3 rfl ?_
 refine o_lenI rfl rfl rfl z_slT112 rfl hs2 ?_
 refine Z 2 rfl ?_
 obtain ⟨e13, hL13, hA13⟩ := h
 refine st_addNil ?_
 refine st_loop hL13 (fun (s13 : List Int × Int) ρ τ13 gs => σ.Le τ13 ∧ ∃ (v14 : Value) (g15 : Grp), ESub ρ [(2, .N0), (3, v14), (6, v1), (7, .I (a0.length : Int)), (8, .I s13.2)] ∧ gs = [g15] ∧ Ow (kI .u8) 5 τ13 v14 s13.1 g15) ⟨Sto.Le.refl _, _, _, rfl, rfl, Ow.nil⟩ ?_
 rintro s13 o13 h he13 ρ13 τ13 gs13 ⟨hl13, v14, g15, hρ, rfl, ho16⟩ hn13
 refine st_es hρ ?_
 refine Z 5 rfl ?_
 refine st_if rfl h (fun h => ?_) (fun h => ?_)
 ·refine Z 5 rfl ?_
  obtain ⟨q17, hf18, h⟩ := h
  refine o_index rfl rfl rfl z_slT112 rfl rfl (hs2.up hl13) rfl hf18 (fun b19 of20 vs hc21 hrep => ?_)
  obtain rfl := hrep
  refine o_loadI (v := .int .u64 q17) rfl rfl rfl z_sc77 rfl (hc21 0 _ rfl) ?_
  refine Z 3 rfl ?_
  refine st_cut (fun ρ τ22 gs => ∃ (s22 : List Int × Int) (v23 : Value) (g24 : Grp), varint_Put_j3 s13 s22 o13 ∧ τ13.Le τ22 ∧ ESub ρ [(2, .N0), (3, v23), (6, v1), (7, .I (a0.length : Int)), (8, .I s13.2), (5, .int .u64 s22.2)] ∧ gs = [g24] ∧ Ow (kI .u8) 5 τ22 v23 s22.1 g24) ?_ (fun hk22 => ?_)
  ·rintro ρ22 τ22 gs22 ⟨s22, v23, g24, h, hl22, hρ, rfl, ho25⟩
   refine st_es hρ ?_
   refine Z 4 rfl ?_
   refine o_litE (eI .u8) [(IntKind.u8.wrap s22.2)] rfl rfl rfl z_slT42 z_zero5 ⟨rfl, ⟨_, rfl, rfl⟩, trivial⟩ rfl rfl rfl rfl (fun v26 g27 ho28 => ?_)
   obtain ⟨hf32, hf33, h⟩ := h
   refine st_ord [1, 0] _ rfl ?_
   refine o_append (dk := (kI .u8)) (xs := s22.1) (ys := [(IntKind.u8.wrap s22.2)]) rfl rfl rfl rfl z_slT42 rfl ho25 rfl (Ow.src (j := 1) ho28 rfl) hf32 hf33 (fun v29 g30 ho31 => ?_)
   refine Z 7 rfl ?_
   refine st_ord [0] _ rfl ?_
   exact hn13 _ _ _ _ h ⟨(hl13.trans hl22), _, _, rfl, rfl, ho31⟩
  obtain ⟨e34, hL34, hA34⟩ := h
  refine st_loop hL34 (fun (s34 : List Int × Int) ρ τ34 gs => τ13.Le τ34 ∧ ∃ (v35 : Value) (g36 : Grp), ESub ρ [(2, .N0), (3, v35), (6, v1), (7, .I (a0.length : Int)), (8, .I s13.2), (5, .int .u64 s34.2)] ∧ gs = [g36] ∧ Ow (kI .u8) 5 τ34 v35 s34.1 g36) ⟨Sto.Le.refl _, _, _, rfl, rfl, ho16⟩ ?_
  rintro s34 o34 h he34 ρ34 τ34 gs34 ⟨hl34, v35, g36, hρ, rfl, ho37⟩ hn34
  refine st_es hρ ?_
  refine Z 6 rfl ?_
  refine st_if rfl h (fun h => ?_) (fun h => ?_)
  ·refine Z 8 rfl ?_
   refine o_litE (eI .u8) [(ior .u8 (IntKind.u8.wrap s34.2) 128)] rfl rfl rfl z_slT42 z_zero5 ⟨rfl, ⟨_, rfl, rfl⟩, trivial⟩ rfl rfl rfl rfl (fun v38 g39 ho40 => ?_)
   obtain ⟨hf44, hf45, h⟩ := h
   refine st_ord [1, 0] _ rfl ?_
   refine o_append (dk := (kI .u8)) (xs := s34.1) (ys := [(ior .u8 (IntKind.u8.wrap s34.2) 128)]) rfl rfl rfl rfl z_slT42 rfl ho37 rfl (Ow.src (j := 1) ho40 rfl) hf44 hf45 (fun v41 g42 ho43 => ?_)
   refine Z 8 rfl ?_
   refine st_ord [0] _ rfl ?_
   exact hn34 _ _ _ _ h ⟨hl34, _, _, rfl, rfl, ho43⟩
  ·refine st_exit rfl ?_
   obtain rfl := he34 _ h
   replace h := hA34
   exact hk22 _ _ _ ⟨(s34.1, s34.2), _, _, h, hl34, rfl, rfl, ho37⟩
 ·refine st_exit rfl ?_
  obtain rfl := he13 _ h
  replace h := hA13
  exact hk3 _ _ _ ⟨s13.1, _, _, h, hl13, rfl, rfl, ho16⟩
theorem pen_Pen_Number_ok {a0 : (List Int × Int × Bool)} {a1 : List Int} {ba0 : Nat} {v1 : Value} {g2 : Grp} {v4 : Value} {r : Int × ((List Int × Int × Bool))} (h : pen_Pen_Number a0 a1 r) (σ : Sto) (ho3 : Ow (kI .u8) 5 σ v1 a0.1 g2) (hs5 : Sl (kI .u64) σ v4 a1) :
    Does Tryz.prog 103 [.Pb ba0, v4] σ [[(ba0, .cells [v1, .I a0.2.1, .bool a0.2.2].toArray 129 (0, 0))], g2] (fun v τ gs => ∃ (v19 : Value) (g20 : Grp), gs = [[(ba0, .cells [v19, .I r.2.2.1, .bool r.2.2.2].toArray 129 (0, 0))], g20] ∧ .I r.1 = v ∧ Ow (kI .u8) 5 τ v19 r.2.1 g20) := by
 refine call_of Tryz.func103 Tryz.ntmps103 rfl rfl (fun cs fs => ?_)
 refine Z 8 rfl ?_
 obtain ⟨r6, hr7, h⟩ := h
 refine st_call (foot := []) rfl rfl rfl rfl rfl rfl (callV_fn z_en73 (varint_Put_ok hr7 σ hs5)) ?_
 rintro vτ8 τ8 gsτ8 hl9 ⟨v10, rfl, rfl, hs11⟩
 obtain ⟨r12, hr13, h⟩ := h
 refine st_call (foot := [[(ba0, .cells #[v1, .I a0.2.1, .bool a0.2.2] 129 (0, 0))], g2]) rfl rfl rfl rfl rfl rfl (callV_fn z_en54 (pen_Pen_Raw_ok hr13 τ8 (ho3.up hl9) hs11)) ?_
 rintro vτ14 τ14 gsτ14 hl15 ⟨v16, g17, rfl, rfl, ho18⟩
 refine Z 2 rfl ?_
 obtain rfl := Eq.symm h
 exact st_ret (gs' := [[(ba0, .cells #[v16, .I r12.2.2.1, .bool r12.2.2.2] 129 (0, 0))], g17]) Tryz.func103 rfl (List.Sublist.refl _) (hl9.trans hl15) ⟨_, _, rfl, rfl, ho18⟩
theorem varint_Zig_ok {a0 : Int} {r : Int} (h : varint_Zig a0 r) (σ : Sto)  :
    Does Tryz.prog 117 [.I a0] σ [] (fun v τ gs => gs = [] ∧ .int .u64 r = v) := by
 refine call_of Tryz.func117 Tryz.ntmps117 rfl rfl (fun cs fs => ?_)
 refine Z 15 rfl ?_
 obtain rfl := Eq.symm h
 exact st_ret (gs' := []) Tryz.func117 rfl (List.Sublist.refl _) (Sto.Le.refl _) ⟨rfl, rfl⟩
theorem pen_Pen_Signed_ok {a0 : (List Int × Int × Bool)} {a1 : List Int} {ba0 : Nat} {v1 : Value} {g2 : Grp} {v4 : Value} {r : Int × ((List Int × Int × Bool))} (h : pen_Pen_Signed a0 a1 r) (σ : Sto) (ho3 : Ow (kI .u8) 5 σ v1 a0.1 g2) (hs5 : Sl (kI .i64) σ v4 a1) :
    Does Tryz.prog 104 [.Pb ba0, v4] σ [[(ba0, .cells [v1, .I a0.2.1, .bool a0.2.2].toArray 129 (0, 0))], g2] (fun v τ gs => ∃ (v44 : Value) (g45 : Grp), gs = [[(ba0, .cells [v44, .I r.2.2.1, .bool r.2.2.2].toArray 129 (0, 0))], g45] ∧ .I r.1 = v ∧ Ow (kI .u8) 5 τ v44 r.2.1 g45) := by
 refine call_of Tryz.func104 Tryz.ntmps104 rfl rfl (fun cs fs => ?_)
 refine Z 9 rfl ?_
 refine st_cut (fun ρ τ6 gs => ∃ (s6 : List Int) (v7 : Value) (g8 : Grp), pen_Pen_Signed_j1 a0 s6 r ∧ σ.Le τ6 ∧ ESub ρ [(0, .Pb ba0), (4, .I 0), (5, v7)] ∧ gs = [[(ba0, .cells #[v1, .I a0.2.1, .bool a0.2.2] 129 (0, 0))], g2, g8] ∧ Ow (kI .u64) 77 τ6 v7 s6 g8) ?_ (fun hk6 => ?_)
 ·rintro ρ6 τ6 gs6 ⟨s6, v7, g8, h, hl6, hρ, rfl, ho9⟩
  refine st_es hρ ?_
  refine Z 4 rfl ?_
  obtain ⟨r15, hr16, h⟩ := h
  refine st_ord [2, 0, 0] _ rfl ?_
  refine st_freeze (fun τ10 hl11 hg12 => ?_)
  have hs13 := ho9.freeze hl11 hg12
  refine st_call (foot := [[(ba0, .cells #[v1, .I a0.2.1, .bool a0.2.2] 129 (0, 0))], g2]) rfl rfl rfl rfl rfl rfl (callV_fn z_en103 (pen_Pen_Number_ok hr16 τ10 (ho3.up (hl6.trans hl11)) hs13)) ?_
  rintro vτ17 τ17 gsτ17 hl18 ⟨v19, g20, rfl, rfl, ho21⟩
  refine Z 2 rfl ?_
  obtain rfl := Eq.symm h
  exact st_ret (gs' := [[(ba0, .cells #[v19, .I r15.2.2.1, .bool r15.2.2.2] 129 (0, 0))], g20]) Tryz.func104 rfl (List.Sublist.refl _) ((hl6.trans hl11).trans hl18) ⟨_, _, rfl, rfl, ho21⟩
 refine Z 3 rfl ?_
 refine o_lenI rfl rfl rfl z_slT182 rfl hs5 ?_
 refine Z 2 rfl ?_
 obtain ⟨e22, hL22, hA22⟩ := h
 refine st_addNil ?_
 refine st_ord [1, 1, 0] _ rfl ?_
 refine st_loop hL22 (fun (s22 : List Int × Int) ρ τ22 gs => σ.Le τ22 ∧ ∃ (v23 : Value) (g24 : Grp), ESub ρ [(0, .Pb ba0), (4, .I 0), (5, v23), (8, v4), (9, .I (a1.length : Int)), (10, .I s22.2)] ∧ gs = [[(ba0, .cells #[v1, .I a0.2.1, .bool a0.2.2] 129 (0, 0))], g2, g24] ∧ Ow (kI .u64) 77 τ22 v23 s22.1 g24) ⟨Sto.Le.refl _, _, _, rfl, rfl, Ow.nil⟩ ?_
 rintro s22 o22 h he22 ρ22 τ22 gs22 ⟨hl22, v23, g24, hρ, rfl, ho25⟩ hn22
 refine st_es hρ ?_
 refine Z 5 rfl ?_
 refine st_if rfl h (fun h => ?_) (fun h => ?_)
 ·refine Z 5 rfl ?_
  obtain ⟨q26, hf27, h⟩ := h
  refine o_index rfl rfl rfl z_slT182 rfl rfl (hs5.up hl22) rfl hf27 (fun b28 of29 vs hc30 hrep => ?_)
  obtain rfl := hrep
  refine o_loadI (v := .I q26) rfl rfl rfl z_sc2 rfl (hc30 0 _ rfl) ?_
  refine Z 5 rfl ?_
  obtain ⟨r31, hr32, h⟩ := h
  refine st_call (foot := []) rfl rfl rfl rfl rfl rfl (callV_fn z_en117 (varint_Zig_ok hr32 τ22)) ?_
  rintro vτ33 τ33 gsτ33 hl34 ⟨rfl, rfl⟩
  refine o_litE (eI .u64) [r31] rfl rfl rfl z_slT112 z_zero77 ⟨rfl, ⟨_, rfl, rfl⟩, trivial⟩ rfl rfl rfl rfl (fun v35 g36 ho37 => ?_)
  obtain ⟨hf41, hf42, h⟩ := h
  refine st_ord [3, 0, 0, 0] _ rfl ?_
  refine o_append (dk := (kI .u64)) (xs := s22.1) (ys := [r31]) rfl rfl rfl rfl z_slT112 rfl (ho25.up hl34) rfl (Ow.src (j := 1) ho37 rfl) hf41 hf42 (fun v38 g39 ho40 => ?_)
  refine Z 7 rfl ?_
  refine st_ord [2, 2, 0] _ rfl ?_
  exact hn22 _ _ _ _ h ⟨(hl22.trans hl34), _, _, rfl, rfl, ho40⟩
 ·refine st_exit rfl ?_
  obtain rfl := he22 _ h
  replace h := hA22
  exact hk6 _ _ _ ⟨s22.1, _, _, h, hl22, rfl, rfl, ho25⟩
theorem body_points_ok {a0 : (List Int × Int × Bool)} {a1 : List (Int × Int)} {ba0 : Nat} {v1 : Value} {g2 : Grp} {v4 : Value} {r : ((List Int × Int × Bool))} (h : body_points a0 a1 r) (σ : Sto) (ho3 : Ow (kI .u8) 5 σ v1 a0.1 g2) (hs5 : Sl (kP (kI .i64) (kI .i64)) σ v4 a1) :
    Does Tryz.prog 105 [.Pb ba0, v4] σ [[(ba0, .cells [v1, .I a0.2.1, .bool a0.2.2].toArray 129 (0, 0))], g2] (fun v τ gs => ∃ (v46 : Value) (g47 : Grp), gs = [[(ba0, .cells [v46, .I r.2.1, .bool r.2.2].toArray 129 (0, 0))], g47] ∧ .tuple [].toArray = v ∧ Ow (kI .u8) 5 τ v46 r.1 g47) := by
 refine call_of Tryz.func105 Tryz.ntmps105 rfl rfl (fun cs fs => ?_)
 refine Z 4 rfl ?_
 refine o_lenI rfl rfl rfl z_slT27 rfl hs5 ?_
 refine o_conv rfl rfl rfl Tryz.underlying3 Tryz.underlying77 rfl ?_
 refine o_litE (eI .u64) [(IntKind.u64.wrap (a1.length : Int))] rfl rfl rfl z_slT112 z_zero77 ⟨rfl, ⟨_, rfl, rfl⟩, trivial⟩ rfl rfl rfl rfl (fun v6 g7 ho8 => ?_)
 obtain ⟨r13, hr14, h⟩ := h
 refine st_freeze (fun τ9 hl10 hg11 => ?_)
 have hs12 := ho8.freeze hl10 hg11
 refine st_call (foot := [[(ba0, .cells #[v1, .I a0.2.1, .bool a0.2.2] 129 (0, 0))], g2]) rfl rfl rfl rfl rfl rfl (callV_fn z_en103 (pen_Pen_Number_ok hr14 τ9 (ho3.up hl10) hs12)) ?_
 rintro vτ15 τ15 gsτ15 hl16 ⟨v17, g18, rfl, rfl, ho19⟩
 refine Z 3 rfl ?_
 refine o_alloc rfl rfl rfl z_zero84 (fun b20 => ?_)
 refine Z 4 rfl ?_
 refine o_lenI rfl rfl rfl z_slT27 rfl (hs5.up (hl10.trans hl16)) ?_
 refine Z 2 rfl ?_
 obtain ⟨e21, hL21, hA21⟩ := h
 refine st_ord [1, 0, 0] _ rfl ?_
 refine st_loop hL21 (fun (s21 : Int × List Int × Int × Bool × Int × Int) ρ τ21 gs => τ15.Le τ21 ∧ ∃ (v22 : Value) (g23 : Grp), ESub ρ [(0, .Pb ba0), (4, .Pb b20), (13, v4), (14, .I (a1.length : Int)), (15, .I s21.1)] ∧ gs = [[(ba0, .cells #[v22, .I s21.2.2.1, .bool s21.2.2.2.1] 129 (0, 0))], [(b20, .cells #[.I s21.t4.1, .I s21.t4.2] 84 (0, 0))], g23] ∧ Ow (kI .u8) 5 τ21 v22 s21.2.1 g23) ⟨Sto.Le.refl _, _, _, rfl, rfl, ho19⟩ ?_
 rintro s21 o21 h he21 ρ21 τ21 gs21 ⟨hl21, v22, g23, hρ, rfl, ho24⟩ hn21
 refine st_es hρ ?_
 refine Z 5 rfl ?_
 refine st_if rfl h (fun h => ?_) (fun h => ?_)
 ·refine Z 5 rfl ?_
  obtain ⟨q25, hf26, h⟩ := h
  refine o_index rfl rfl rfl z_slT27 rfl rfl (hs5.up ((hl10.trans hl16).trans hl21)) rfl hf26 (fun b27 of28 vs hc29 hrep => ?_)
  obtain ⟨_, _, rfl, rfl, rfl⟩ := hrep
  refine o_loadIN (vs := [.I q25.1, .I q25.2]) rfl rfl rfl z_agg84 rfl rfl (celn_part 0 rfl hc29) ?_
  refine o_alloc rfl rfl rfl z_zero84 (fun b30 => ?_)
  refine ZZ 15 [0, 0, 2, 0, 2] rfl rfl ?_
  refine o_litE (eI .i64) [(IntKind.i64.wrap (q25.1 - s21.t4.1)), (IntKind.i64.wrap (q25.2 - s21.t4.2))] rfl rfl rfl z_slT182 z_zero2 ⟨rfl, ⟨_, rfl, rfl⟩, ⟨rfl, ⟨_, rfl, rfl⟩, trivial⟩⟩ rfl rfl rfl rfl (fun v31 g32 ho33 => ?_)
  obtain ⟨r38, hr39, h⟩ := h
  refine st_freeze (fun τ34 hl35 hg36 => ?_)
  have hs37 := ho33.freeze hl35 hg36
  refine st_ord [1, 2, 0, 0] _ rfl ?_
  refine st_call (foot := [[(ba0, .cells #[v22, .I s21.2.2.1, .bool s21.2.2.2.1] 129 (0, 0))], g23]) rfl rfl rfl rfl rfl rfl (callV_fn z_en104 (pen_Pen_Signed_ok hr39 τ34 (ho24.up hl35) hs37)) ?_
  rintro vτ40 τ40 gsτ40 hl41 ⟨v42, g43, rfl, rfl, ho44⟩
  refine ZZ 10 [2, 3] rfl rfl ?_
  refine st_ord [0, 2, 0] _ rfl ?_
  exact hn21 _ _ _ _ h ⟨((hl21.trans hl35).trans hl41), _, _, rfl, rfl, ho44⟩
 ·refine st_exit rfl ?_
  refine st_ord [0, 1] _ rfl ?_
  obtain rfl := he21 _ h
  replace h := hA21
  obtain rfl := Eq.symm h
  exact st_fin (gs' := [[(ba0, .cells #[v22, .I s21.2.2.1, .bool s21.2.2.2.1] 129 (0, 0))], g23]) Tryz.func105 rfl (List.Sublist.refl _) ((hl10.trans hl16).trans hl21) ⟨_, _, rfl, rfl, ho24⟩
theorem body_cells_ok {a0 : (List Int × Int × Bool)} {a1 : List Int} {ba0 : Nat} {v1 : Value} {g2 : Grp} {v4 : Value} {r : ((List Int × Int × Bool))} (h : body_cells a0 a1 r) (σ : Sto) (ho3 : Ow (kI .u8) 5 σ v1 a0.1 g2) (hs5 : Sl (kI .i64) σ v4 a1) :
    Does Tryz.prog 106 [.Pb ba0, v4] σ [[(ba0, .cells [v1, .I a0.2.1, .bool a0.2.2].toArray 129 (0, 0))], g2] (fun v τ gs => ∃ (v44 : Value) (g45 : Grp), gs = [[(ba0, .cells [v44, .I r.2.1, .bool r.2.2].toArray 129 (0, 0))], g45] ∧ .tuple [].toArray = v ∧ Ow (kI .u8) 5 τ v44 r.1 g45) := by
 refine call_of Tryz.func106 Tryz.ntmps106 rfl rfl (fun cs fs => ?_)
 refine Z 4 rfl ?_
 refine o_lenI rfl rfl rfl z_slT28 rfl hs5 ?_
 refine o_conv rfl rfl rfl Tryz.underlying3 Tryz.underlying77 rfl ?_
 refine o_litE (eI .u64) [(IntKind.u64.wrap (a1.length : Int))] rfl rfl rfl z_slT112 z_zero77 ⟨rfl, ⟨_, rfl, rfl⟩, trivial⟩ rfl rfl rfl rfl (fun v6 g7 ho8 => ?_)
 obtain ⟨r13, hr14, h⟩ := h
 refine st_freeze (fun τ9 hl10 hg11 => ?_)
 have hs12 := ho8.freeze hl10 hg11
 refine st_call (foot := [[(ba0, .cells #[v1, .I a0.2.1, .bool a0.2.2] 129 (0, 0))], g2]) rfl rfl rfl rfl rfl rfl (callV_fn z_en103 (pen_Pen_Number_ok hr14 τ9 (ho3.up hl10) hs12)) ?_
 rintro vτ15 τ15 gsτ15 hl16 ⟨v17, g18, rfl, rfl, ho19⟩
 refine Z 8 rfl ?_
 refine o_lenI rfl rfl rfl z_slT28 rfl (hs5.up (hl10.trans hl16)) ?_
 refine Z 2 rfl ?_
 obtain ⟨e20, hL20, hA20⟩ := h
 refine st_loop hL20 (fun (s20 : Int × Int × List Int × Int × Bool) ρ τ20 gs => τ15.Le τ20 ∧ ∃ (v21 : Value) (g22 : Grp), ESub ρ [(0, .Pb ba0), (4, .I s20.1), (13, v4), (14, .I (a1.length : Int)), (15, .I s20.2.1)] ∧ gs = [[(ba0, .cells #[v21, .I s20.2.2.2.1, .bool s20.t4] 129 (0, 0))], g22] ∧ Ow (kI .u8) 5 τ20 v21 s20.2.2.1 g22) ⟨Sto.Le.refl _, _, _, rfl, rfl, ho19⟩ ?_
 rintro s20 o20 h he20 ρ20 τ20 gs20 ⟨hl20, v21, g22, hρ, rfl, ho23⟩ hn20
 refine st_es hρ ?_
 refine Z 5 rfl ?_
 refine st_if rfl h (fun h => ?_) (fun h => ?_)
 ·refine Z 5 rfl ?_
  obtain ⟨q24, hf25, h⟩ := h
  refine o_index rfl rfl rfl z_slT28 rfl rfl (hs5.up ((hl10.trans hl16).trans hl20)) rfl hf25 (fun b26 of27 vs hc28 hrep => ?_)
  obtain rfl := hrep
  refine o_loadI (v := .I q24) rfl rfl rfl z_sc3 rfl (hc28 0 _ rfl) ?_
  refine Z 10 rfl ?_
  refine o_litE (eI .u64) [(IntKind.u64.wrap (IntKind.i64.wrap ((IntKind.i64.wrap (q24 - s20.1)) - 1)))] rfl rfl rfl z_slT112 z_zero77 ⟨rfl, ⟨_, rfl, rfl⟩, trivial⟩ rfl rfl rfl rfl (fun v29 g30 ho31 => ?_)
  obtain ⟨r36, hr37, h⟩ := h
  refine st_freeze (fun τ32 hl33 hg34 => ?_)
  have hs35 := ho31.freeze hl33 hg34
  refine st_call (foot := [[(ba0, .cells #[v21, .I s20.2.2.2.1, .bool s20.t4] 129 (0, 0))], g22]) rfl rfl rfl rfl rfl rfl (callV_fn z_en103 (pen_Pen_Number_ok hr37 τ32 (ho23.up hl33) hs35)) ?_
  rintro vτ38 τ38 gsτ38 hl39 ⟨v40, g41, rfl, rfl, ho42⟩
  refine Z 10 rfl ?_
  exact hn20 _ _ _ _ h ⟨((hl20.trans hl33).trans hl39), _, _, rfl, rfl, ho42⟩
 ·refine st_exit rfl ?_
  obtain rfl := he20 _ h
  replace h := hA20
  obtain rfl := Eq.symm h
  exact st_fin (gs' := [[(ba0, .cells #[v21, .I s20.2.2.2.1, .bool s20.t4] 129 (0, 0))], g22]) Tryz.func106 rfl (List.Sublist.refl _) ((hl10.trans hl16).trans hl20) ⟨_, _, rfl, rfl, ho23⟩
theorem varint_Put_own_ok {a0 : List Int} {v1 : Value} {r : List Int} (h : varint_Put a0 r) (σ : Sto) (hs2 : Sl (kI .u64) σ v1 a0) :
    Does Tryz.prog 73 [v1] σ [] (fun v τ gs => ∃ (v42 : Value) (g43 : Grp), gs = [g43] ∧ v42 = v ∧ Ow (kI .u8) 5 τ v42 r g43) := by
 refine call_of Tryz.func73 Tryz.ntmps73 rfl rfl (fun cs fs => ?_)
 refine Z 9 rfl ?_
 refine st_cut (fun ρ τ3 gs => ∃ (s3 : List Int) (v4 : Value) (g5 : Grp), varint_Put_j1 s3 r ∧ σ.Le τ3 ∧ ESub ρ [(2, .N0), (3, v4)] ∧ gs = [g5] ∧ Ow (kI .u8) 5 τ3 v4 s3 g5) ?_ (fun hk3 => ?_)
 ·rintro ρ3 τ3 gs3 ⟨s3, v4, g5, h, hl3, hρ, rfl, ho6⟩
  refine st_es hρ ?_
  refine Z 5 rfl ?_
  obtain rfl := Eq.symm h
  exact st_ret (gs' := [g5]) Tryz.func73 rfl (List.Sublist.refl _) hl3 ⟨_, _, rfl, rfl, ho6⟩
 refine Z 3 rfl ?_
 refine o_lenI rfl rfl rfl z_slT112 rfl hs2 ?_
 refine Z 2 rfl ?_
 obtain ⟨e7, hL7, hA7⟩ := h
 refine st_addNil ?_
 refine st_loop hL7 (fun (s7 : List Int × Int) ρ τ7 gs => σ.Le τ7 ∧ ∃ (v8 : Value) (g9 : Grp), ESub ρ [(2, .N0), (3, v8), (6, v1), (7, .I (a0.length : Int)), (8, .I s7.2)] ∧ gs = [g9] ∧ Ow (kI .u8) 5 τ7 v8 s7.1 g9) ⟨Sto.Le.refl _, _, _, rfl, rfl, Ow.nil⟩ ?_
 rintro s7 o7 h he7 ρ7 τ7 gs7 ⟨hl7, v8, g9, hρ, rfl, ho10⟩ hn7
 refine st_es hρ ?_
 refine Z 5 rfl ?_
 refine st_if rfl h (fun h => ?_) (fun h => ?_)
 ·refine Z 5 rfl ?_
  obtain ⟨q11, hf12, h⟩ := h
  refine o_index rfl rfl rfl z_slT112 rfl rfl (hs2.up hl7) rfl hf12 (fun b13 of14 vs hc15 hrep => ?_)
  obtain rfl := hrep
  refine o_loadI (v := .int .u64 q11) rfl rfl rfl z_sc77 rfl (hc15 0 _ rfl) ?_
  refine Z 3 rfl ?_
  refine st_cut (fun ρ τ16 gs => ∃ (s16 : List Int × Int) (v17 : Value) (g18 : Grp), varint_Put_j3 s7 s16 o7 ∧ τ7.Le τ16 ∧ ESub ρ [(2, .N0), (3, v17), (6, v1), (7, .I (a0.length : Int)), (8, .I s7.2), (5, .int .u64 s16.2)] ∧ gs = [g18] ∧ Ow (kI .u8) 5 τ16 v17 s16.1 g18) ?_ (fun hk16 => ?_)
  ·rintro ρ16 τ16 gs16 ⟨s16, v17, g18, h, hl16, hρ, rfl, ho19⟩
   refine st_es hρ ?_
   refine Z 4 rfl ?_
   refine o_litE (eI .u8) [(IntKind.u8.wrap s16.2)] rfl rfl rfl z_slT42 z_zero5 ⟨rfl, ⟨_, rfl, rfl⟩, trivial⟩ rfl rfl rfl rfl (fun v20 g21 ho22 => ?_)
   obtain ⟨hf26, hf27, h⟩ := h
   refine st_ord [1, 0] _ rfl ?_
   refine o_append (dk := (kI .u8)) (xs := s16.1) (ys := [(IntKind.u8.wrap s16.2)]) rfl rfl rfl rfl z_slT42 rfl ho19 rfl (Ow.src (j := 1) ho22 rfl) hf26 hf27 (fun v23 g24 ho25 => ?_)
   refine Z 7 rfl ?_
   refine st_ord [0] _ rfl ?_
   exact hn7 _ _ _ _ h ⟨(hl7.trans hl16), _, _, rfl, rfl, ho25⟩
  obtain ⟨e28, hL28, hA28⟩ := h
  refine st_loop hL28 (fun (s28 : List Int × Int) ρ τ28 gs => τ7.Le τ28 ∧ ∃ (v29 : Value) (g30 : Grp), ESub ρ [(2, .N0), (3, v29), (6, v1), (7, .I (a0.length : Int)), (8, .I s7.2), (5, .int .u64 s28.2)] ∧ gs = [g30] ∧ Ow (kI .u8) 5 τ28 v29 s28.1 g30) ⟨Sto.Le.refl _, _, _, rfl, rfl, ho10⟩ ?_
  rintro s28 o28 h he28 ρ28 τ28 gs28 ⟨hl28, v29, g30, hρ, rfl, ho31⟩ hn28
  refine st_es hρ ?_
  refine Z 6 rfl ?_
  refine st_if rfl h (fun h => ?_) (fun h => ?_)
  ·refine Z 8 rfl ?_
   refine o_litE (eI .u8) [(ior .u8 (IntKind.u8.wrap s28.2) 128)] rfl rfl rfl z_slT42 z_zero5 ⟨rfl, ⟨_, rfl, rfl⟩, trivial⟩ rfl rfl rfl rfl (fun v32 g33 ho34 => ?_)
   obtain ⟨hf38, hf39, h⟩ := h
   refine st_ord [1, 0] _ rfl ?_
   refine o_append (dk := (kI .u8)) (xs := s28.1) (ys := [(ior .u8 (IntKind.u8.wrap s28.2) 128)]) rfl rfl rfl rfl z_slT42 rfl ho31 rfl (Ow.src (j := 1) ho34 rfl) hf38 hf39 (fun v35 g36 ho37 => ?_)
   refine Z 8 rfl ?_
   refine st_ord [0] _ rfl ?_
   exact hn28 _ _ _ _ h ⟨hl28, _, _, rfl, rfl, ho37⟩
  ·refine st_exit rfl ?_
   obtain rfl := he28 _ h
   replace h := hA28
   exact hk16 _ _ _ ⟨(s28.1, s28.2), _, _, h, hl28, rfl, rfl, ho31⟩
 ·refine st_exit rfl ?_
  obtain rfl := he7 _ h
  replace h := hA7
  exact hk3 _ _ _ ⟨s7.1, _, _, h, hl7, rfl, rfl, ho10⟩
theorem pen_Pen_Field_ok {a0 : (List Int × Int × Bool)} {a1 : List Int} {ba0 : Nat} {v1 : Value} {g2 : Grp} {v4 : Value} {r : Int × ((List Int × Int × Bool))} (h : pen_Pen_Field a0 a1 r) (σ : Sto) (ho3 : Ow (kI .u8) 5 σ v1 a0.1 g2) (hs5 : Sl (kI .u8) σ v4 a1) :
    Does Tryz.prog 55 [.Pb ba0, v4] σ [[(ba0, .cells [v1, .I a0.2.1, .bool a0.2.2].toArray 129 (0, 0))], g2] (fun v τ gs => ∃ (v36 : Value) (g37 : Grp), gs = [[(ba0, .cells [v36, .I r.2.2.1, .bool r.2.2.2].toArray 129 (0, 0))], g37] ∧ .I r.1 = v ∧ Ow (kI .u8) 5 τ v36 r.2.1 g37) := by
 refine call_of Tryz.func55 Tryz.ntmps55 rfl rfl (fun cs fs => ?_)
 refine Z 8 rfl ?_
 refine o_lenI rfl rfl rfl z_slT42 rfl hs5 ?_
 refine o_conv rfl rfl rfl Tryz.underlying3 Tryz.underlying77 rfl ?_
 refine o_litE (eI .u64) [(IntKind.u64.wrap (a1.length : Int))] rfl rfl rfl z_slT112 z_zero77 ⟨rfl, ⟨_, rfl, rfl⟩, trivial⟩ rfl rfl rfl rfl (fun v6 g7 ho8 => ?_)
 obtain ⟨r13, hr14, h⟩ := h
 refine st_freeze (fun τ9 hl10 hg11 => ?_)
 have hs12 := ho8.freeze hl10 hg11
 refine st_call (foot := []) rfl rfl rfl rfl rfl rfl (callV_fn z_en73 (varint_Put_own_ok hr14 τ9 hs12)) ?_
 rintro vτ15 τ15 gsτ15 hl16 ⟨v17, g18, rfl, rfl, ho19⟩
 refine o_move rfl rfl rfl rfl ?_
 obtain ⟨hf23, hf24, h⟩ := h
 refine o_append (dk := (kI .u8)) (xs := r13) (ys := a1) rfl rfl rfl rfl z_slT42 rfl ho19 rfl (Sl.src (hs5.up (hl10.trans hl16))) hf23 hf24 (fun v20 g21 ho22 => ?_)
 obtain ⟨r29, hr30, h⟩ := h
 refine st_freeze (fun τ25 hl26 hg27 => ?_)
 have hs28 := ho22.freeze hl26 hg27
 refine st_call (foot := [[(ba0, .cells #[v1, .I a0.2.1, .bool a0.2.2] 129 (0, 0))], g2]) rfl rfl rfl rfl rfl rfl (callV_fn z_en54 (pen_Pen_Raw_ok hr30 τ25 (ho3.up ((hl10.trans hl16).trans hl26)) hs28)) ?_
 rintro vτ31 τ31 gsτ31 hl32 ⟨v33, g34, rfl, rfl, ho35⟩
 refine Z 2 rfl ?_
 obtain rfl := Eq.symm h
 exact st_ret (gs' := [[(ba0, .cells #[v33, .I r29.2.2.1, .bool r29.2.2.2] 129 (0, 0))], g34]) Tryz.func55 rfl (List.Sublist.refl _) (((hl10.trans hl16).trans hl26).trans hl32) ⟨_, _, rfl, rfl, ho35⟩
theorem pen_Pen_Bytes_ok {a0 : (List Int × Int × Bool)} {ba0 : Nat} {v1 : Value} {g2 : Grp} {r : List Int} (h : pen_Pen_Bytes a0 r) (σ : Sto) (ho3 : Ow (kI .u8) 5 σ v1 a0.1 g2) :
    Does Tryz.prog 56 [.Pb ba0] σ [[(ba0, .cells [v1, .I a0.2.1, .bool a0.2.2].toArray 129 (0, 0))], g2] (fun v τ gs => ∃ (v14 : Value), gs = [[(ba0, .cells [v1, .I a0.2.1, .bool a0.2.2].toArray 129 (0, 0))], g2] ∧ v14 = v ∧ Sl (kI .u8) τ v14 r) := by
 refine call_of Tryz.func56 Tryz.ntmps56 rfl rfl (fun cs fs => ?_)
 refine ZZ 19 [0] rfl rfl ?_
 obtain ⟨hf7, hf8, h⟩ := h
 refine st_addNil ?_
 refine o_append (dk := (kI .u8)) (xs := ([] : List Int)) (ys := a0.1) rfl rfl rfl rfl z_slT42 rfl Ow.nil rfl (Ow.src (j := 2) ho3 rfl) hf7 hf8 (fun v4 g5 ho6 => ?_)
 refine Z 2 rfl ?_
 refine st_freeze (fun τ9 hl10 hg11 => ?_)
 have hs12 := ho6.freeze hl10 hg11
 obtain rfl := Eq.symm h
 exact st_ret (gs' := [[(ba0, .cells #[v1, .I a0.2.1, .bool a0.2.2] 129 (0, 0))], g2]) Tryz.func56 rfl (List.Sublist.refl _) hl10 ⟨_, rfl, rfl, hs12⟩
theorem body_part_ok {a0 : TyM} {a1 : TyA} {v1 : Value} {v2 : Value} {r : List Int} (h : body_part a0 a1 r) (σ : Sto) (hs3 : Sl (kP (kI .i64) (kI .i64)) σ v1 a0.2.2.1) (hs4 : Sl (kI .i64) σ v2 a0.2.2.2.1) :
    Does Tryz.prog 90 [.agg (lM a0 v1 v2).toArray, .agg (lA a1).toArray] σ [] (fun v τ gs => ∃ (v95 : Value), gs = [] ∧ v95 = v ∧ Sl (kI .u8) τ v95 r) := by
 refine call_of Tryz.func90 Tryz.ntmps90 rfl rfl (fun cs fs => ?_)
 refine Z 2 rfl ?_
 refine o_box (cs := (lM a0 v1 v2)) rfl rfl rfl rfl rfl (fun b5 => ?_)
 refine o_boxC rfl rfl rfl rfl rfl rfl (fun b6 => ?_)
 refine Z 4 rfl ?_
 obtain ⟨r7, hr8, h⟩ := h
 refine st_call (foot := []) rfl rfl rfl rfl rfl rfl (callV_fn z_en50 (pen_New_ok hr8 σ)) ?_
 rintro vτ9 τ9 gsτ9 hl10 ⟨b11, v12, g13, rfl, rfl, ho14⟩
 refine Z 3 rfl ?_
 refine st_cut (fun ρ τ15 gs => ∃ (s15 : List Int × Int × Bool) (v16 : Value) (g17 : Grp), body_part_j1 s15 r ∧ τ9.Le τ15 ∧ ESub ρ [(4, .N0), (5, .Pb b11)] ∧ gs = [[(b11, .cells #[v16, .I s15.2.1, .bool s15.2.2] 129 (0, 0))], g17] ∧ Ow (kI .u8) 5 τ15 v16 s15.1 g17) ?_ (fun hk15 => ?_)
 ·rintro ρ15 τ15 gs15 ⟨s15, v16, g17, h, hl15, hρ, rfl, ho18⟩
  refine st_es hρ ?_
  refine Z 3 rfl ?_
  obtain ⟨r19, hr20, h⟩ := h
  refine st_call (foot := [[(b11, .cells #[v16, .I s15.2.1, .bool s15.2.2] 129 (0, 0))], g17]) rfl rfl rfl rfl rfl rfl (callV_fn z_en56 (pen_Pen_Bytes_ok hr20 τ15 ho18)) ?_
  rintro vτ21 τ21 gsτ21 hl22 ⟨v23, rfl, rfl, hs24⟩
  refine Z 2 rfl ?_
  refine st_ord [] _ rfl ?_
  obtain rfl := Eq.symm h
  exact st_ret (gs' := []) Tryz.func90 rfl (List.Sublist.refl _) ((hl10.trans hl15).trans hl22) ⟨_, rfl, rfl, hs24⟩
 refine ZZ 11 [2] rfl rfl ?_
 refine st_if rfl h (fun h => ?_) (fun h => ?_)
 ·refine ZZ 5 [2] rfl rfl ?_
  obtain ⟨hf25, hf26, h⟩ := h
  refine o_indexA rfl rfl rfl z_arr26 rfl rfl hf25 hf26 ?_
  refine o_loadV (j := 3) (a1.2.2.1.toNat) (f := (Value.int .i64)) (zz := 0) (l := 6) (xs := a0.2.1) [.I a0.1] [v1, v2, .string a0.t4.1, .string a0.t4.2] rfl rfl rfl z_sc3 rfl rfl (by simp only [List.length_cons, List.length_nil] <;> omega) (by omega) ?_
  refine o_conv rfl rfl rfl Tryz.underlying3 Tryz.underlying77 rfl ?_
  refine o_litE (eI .u64) [(IntKind.u64.wrap (a0.2.1.getD a1.2.2.1.toNat 0))] rfl rfl rfl z_slT112 z_zero77 ⟨rfl, ⟨_, rfl, rfl⟩, trivial⟩ rfl rfl rfl rfl (fun v27 g28 ho29 => ?_)
  obtain ⟨r34, hr35, h⟩ := h
  refine st_freeze (fun τ30 hl31 hg32 => ?_)
  have hs33 := ho29.freeze hl31 hg32
  refine st_call (foot := [[(b11, .cells #[v12, .I r7.2.1, .bool r7.2.2] 129 (0, 0))], g13]) rfl rfl rfl rfl rfl rfl (callV_fn z_en103 (pen_Pen_Number_ok hr35 τ30 (ho14.up hl31) hs33)) ?_
  rintro vτ36 τ36 gsτ36 hl37 ⟨v38, g39, rfl, rfl, ho40⟩
  refine Z 2 rfl ?_
  refine st_ord [0, 0] _ rfl ?_
  exact hk15 _ _ _ ⟨(r34.2.1, r34.2.2.1, r34.2.2.2), _, _, h, (hl31.trans hl37), rfl, rfl, ho40⟩
 ·refine Z 5 rfl ?_
  refine st_if rfl h (fun h => ?_) (fun h => ?_)
  ·refine ZZ 5 [2] rfl rfl ?_
   obtain ⟨hf41, hf42, h⟩ := h
   refine o_indexA rfl rfl rfl z_arr26 rfl rfl hf41 hf42 ?_
   refine o_loadV (j := 3) (a1.2.2.1.toNat) (f := (Value.int .i64)) (zz := 0) (l := 6) (xs := a0.2.1) [.I a0.1] [v1, v2, .string a0.t4.1, .string a0.t4.2] rfl rfl rfl z_sc3 rfl rfl (by simp only [List.length_cons, List.length_nil] <;> omega) (by omega) ?_
   refine o_litE (eI .i64) [(a0.2.1.getD a1.2.2.1.toNat 0)] rfl rfl rfl z_slT182 z_zero2 ⟨rfl, ⟨_, rfl, rfl⟩, trivial⟩ rfl rfl rfl rfl (fun v43 g44 ho45 => ?_)
   obtain ⟨r50, hr51, h⟩ := h
   refine st_freeze (fun τ46 hl47 hg48 => ?_)
   have hs49 := ho45.freeze hl47 hg48
   refine st_call (foot := [[(b11, .cells #[v12, .I r7.2.1, .bool r7.2.2] 129 (0, 0))], g13]) rfl rfl rfl rfl rfl rfl (callV_fn z_en104 (pen_Pen_Signed_ok hr51 τ46 (ho14.up hl47) hs49)) ?_
   rintro vτ52 τ52 gsτ52 hl53 ⟨v54, g55, rfl, rfl, ho56⟩
   refine Z 2 rfl ?_
   refine st_ord [0, 0] _ rfl ?_
   exact hk15 _ _ _ ⟨(r50.2.1, r50.2.2.1, r50.2.2.2), _, _, h, (hl47.trans hl53), rfl, rfl, ho56⟩
  ·refine Z 5 rfl ?_
   refine st_if rfl h (fun h => ?_) (fun h => ?_)
   ·refine ZZ 4 [3] rfl rfl ?_
    obtain ⟨r57, hr58, h⟩ := h
    refine st_call (foot := [[(b11, .cells #[v12, .I r7.2.1, .bool r7.2.2] 129 (0, 0))], g13]) rfl rfl rfl rfl rfl rfl (callV_fn z_en105 (body_points_ok hr58 τ9 ho14 (hs3.up hl10))) ?_
    rintro vτ59 τ59 gsτ59 hl60 ⟨v61, g62, rfl, rfl, ho63⟩
    refine Z 2 rfl ?_
    refine st_ord [0, 0] _ rfl ?_
    exact hk15 _ _ _ ⟨(r57.1, r57.2.1, r57.2.2), _, _, h, hl60, rfl, rfl, ho63⟩
   ·refine Z 5 rfl ?_
    refine st_if rfl h (fun h => ?_) (fun h => ?_)
    ·refine ZZ 4 [3] rfl rfl ?_
     obtain ⟨r64, hr65, h⟩ := h
     refine st_call (foot := [[(b11, .cells #[v12, .I r7.2.1, .bool r7.2.2] 129 (0, 0))], g13]) rfl rfl rfl rfl rfl rfl (callV_fn z_en106 (body_cells_ok hr65 τ9 ho14 (hs4.up hl10))) ?_
     rintro vτ66 τ66 gsτ66 hl67 ⟨v68, g69, rfl, rfl, ho70⟩
     refine Z 2 rfl ?_
     refine st_ord [0, 0] _ rfl ?_
     exact hk15 _ _ _ ⟨(r64.1, r64.2.1, r64.2.2), _, _, h, hl67, rfl, rfl, ho70⟩
    ·refine Z 5 rfl ?_
     refine st_if rfl h (fun h => ?_) (fun h => ?_)
     ·refine ZZ 4 [3] rfl rfl ?_
      obtain ⟨hf75, h⟩ := h
      refine o_bytes rfl rfl rfl Tryz.underlying9 Tryz.underlying42 Tryz.underlying5 rfl hf75 (fun v71 τ72 hl73 hs74 => ?_)
      obtain ⟨r76, hr77, h⟩ := h
      refine st_call (foot := [[(b11, .cells #[v12, .I r7.2.1, .bool r7.2.2] 129 (0, 0))], g13]) rfl rfl rfl rfl rfl rfl (callV_fn z_en55 (pen_Pen_Field_ok hr77 τ72 (ho14.up hl73) hs74)) ?_
      rintro vτ78 τ78 gsτ78 hl79 ⟨v80, g81, rfl, rfl, ho82⟩
      refine Z 2 rfl ?_
      refine st_ord [0, 0] _ rfl ?_
      exact hk15 _ _ _ ⟨(r76.2.1, r76.2.2.1, r76.2.2.2), _, _, h, (hl73.trans hl79), rfl, rfl, ho82⟩
     ·refine Z 5 rfl ?_
      refine st_if rfl h (fun h => ?_) (fun h => ?_)
      ·refine ZZ 4 [3] rfl rfl ?_
       obtain ⟨hf87, h⟩ := h
       refine o_bytes rfl rfl rfl Tryz.underlying9 Tryz.underlying42 Tryz.underlying5 rfl hf87 (fun v83 τ84 hl85 hs86 => ?_)
       obtain ⟨r88, hr89, h⟩ := h
       refine st_call (foot := [[(b11, .cells #[v12, .I r7.2.1, .bool r7.2.2] 129 (0, 0))], g13]) rfl rfl rfl rfl rfl rfl (callV_fn z_en55 (pen_Pen_Field_ok hr89 τ84 (ho14.up hl85) hs86)) ?_
       rintro vτ90 τ90 gsτ90 hl91 ⟨v92, g93, rfl, rfl, ho94⟩
       refine Z 2 rfl ?_
       refine st_ord [0, 0] _ rfl ?_
       exact hk15 _ _ _ ⟨(r88.2.1, r88.2.2.1, r88.2.2.2), _, _, h, (hl85.trans hl91), rfl, rfl, ho94⟩
      ·refine Z 2 rfl ?_
       refine st_ord [0, 0] _ rfl ?_
       exact hk15 _ _ _ ⟨(r7.1, r7.2.1, r7.2.2), _, _, h, (Sto.Le.refl _), rfl, rfl, ho14⟩
theorem body_Parts_1_ok {c0 : TyM} {c1 : Int} {bc0 : Nat} {v1 : Value} {v2 : Value} {bc1 : Nat} {σ0 : Sto} (hc0_0 : Cel σ0 ⟨bc0, 0, none⟩ (.I c0.1)) (hc0_1 : Cel σ0 ⟨bc0, 1, none⟩ (.I (c0.2.1.getD 0 0))) (hc0_2 : Cel σ0 ⟨bc0, 2, none⟩ (.I (c0.2.1.getD 1 0))) (hc0_3 : Cel σ0 ⟨bc0, 3, none⟩ (.I (c0.2.1.getD 2 0))) (hc0_4 : Cel σ0 ⟨bc0, 4, none⟩ (.I (c0.2.1.getD 3 0))) (hc0_5 : Cel σ0 ⟨bc0, 5, none⟩ (.I (c0.2.1.getD 4 0))) (hc0_6 : Cel σ0 ⟨bc0, 6, none⟩ (.I (c0.2.1.getD 5 0))) (hc0_7 : Cel σ0 ⟨bc0, 7, none⟩ (v1)) (hc0_8 : Cel σ0 ⟨bc0, 8, none⟩ (v2)) (hc0_9 : Cel σ0 ⟨bc0, 9, none⟩ (.string c0.t4.1)) (hc0_10 : Cel σ0 ⟨bc0, 10, none⟩ (.string c0.t4.2)) (hs3 : Sl (kP (kI .i64) (kI .i64)) σ0 v1 c0.2.2.1) (hs4 : Sl (kI .i64) σ0 v2 c0.2.2.2.1) (hc1_0 : Cel σ0 ⟨bc1, 0, none⟩ (.I c1)) :
    IterV Tryz.prog (fun τ x vx => ∃ (v2 : Value), vx = [.string x.1, v2] ∧ Sl (kI .u8) τ v2 x.2) (.func (.func 88) #[] [.Pb bc0, .Pb bc1].toArray) σ0 [] (fun (_ : Unit) _ f => f = []) (body_Parts_1 c0 c1) := by
 intro S Y I y hyc hyo hIm hY s s' o hR σ g hle hIg
 obtain ⟨r, hr0⟩ : ∃ r, r = (s', o) := ⟨_, rfl⟩
 rw [← hr0] at hR
 have h := hR
 refine callV_of (caps := [.Pb bc0, .Pb bc1]) z_en88 ?_
 refine call_of Tryz.func88 Tryz.ntmps88 rfl rfl (fun cs fs => ?_)
 refine st_ord [0] _ rfl ?_
 refine Z 2 rfl ?_
 refine o_box (cs := [y]) rfl rfl rfl rfl hyc (fun b5 => ?_)
 refine Z 5 rfl ?_
 refine o_loadIN (vs := (lM c0 v1 v2)) rfl rfl rfl z_agg30 rfl rfl (celn_cons (Cel.up hc0_0 hle) (celn_cons (Cel.up hc0_1 hle) (celn_cons (Cel.up hc0_2 hle) (celn_cons (Cel.up hc0_3 hle) (celn_cons (Cel.up hc0_4 hle) (celn_cons (Cel.up hc0_5 hle) (celn_cons (Cel.up hc0_6 hle) (celn_cons (Cel.up hc0_7 hle) (celn_cons (Cel.up hc0_8 hle) (celn_cons (Cel.up hc0_9 hle) (celn_cons (Cel.up hc0_10 hle) celn_nil))))))))))) ?_
 refine o_loadI (v := .I c1) rfl rfl rfl z_sc3 rfl (Cel.up hc1_0 hle) ?_
 obtain ⟨r6, hr7, h⟩ := h
 refine st_call (foot := []) rfl rfl rfl rfl rfl rfl (callV_fn z_en71 (body_check_ok hr7 σ (hs3.up hle) (hs4.up hle))) ?_
 rintro vτ8 τ8 gsτ8 hl9 ⟨rfl, rfl⟩
 refine Z 2 rfl ?_
 refine st_cond rfl (fun hc => ?_) (fun hc => ?_)
 ·replace h := (if_pos hc).mp h
  refine st_ord [1] _ rfl ?_
  obtain rfl := Eq.symm h
  cases hr0
  exact st_ret (gs' := [g, []]) Tryz.func88 rfl (by simp) hl9 ⟨g, _, rfl, (hIm _ _ _ _ hl9 hIg), rfl⟩
 ·replace h := (if_neg (ne_t hc)).mp h
  refine Z 6 rfl ?_
  refine o_loadI (v := .I c0.1) rfl rfl rfl z_sc3 rfl (Cel.up hc0_0 (hle.trans hl9)) ?_
  refine o_loadI (v := .I c1) rfl rfl rfl z_sc3 rfl (Cel.up hc1_0 (hle.trans hl9)) ?_
  obtain ⟨r10, hr11, h⟩ := h
  refine st_call (foot := []) rfl rfl rfl rfl rfl rfl (callV_fn z_en89 (field_All_ok hr11 τ8)) ?_
  rintro vτ12 τ12 gsτ12 hl13 ⟨f14, q15, rfl, rfl, hit16⟩
  refine Z 2 rfl ?_
  obtain ⟨t17, w17, hR17, hA17⟩ := h
  refine st_env (ρ' := [(1, .Pb bc0), (3, .Pb b5), (12, .func (.func f14) #[] q15)]) ⟨rfl, rfl, rfl, trivial⟩ ?_
  refine st_addNil ?_
  refine st_range (B := body_Parts_1_l1 S Y c0) (s0 := s) ranges_fctx rfl hit16 (Sto.Le.refl _) hR17 rfl (fun _ _ _ h => by cases h; rfl) (fun (s17 : S) τ17 gs => τ12.Le τ17 ∧ ∃ (g18 : Grp), gs = [[(b5, .cells #[y] 152 (0, 0))], g18] ∧ I s17 τ17 g18) (fun (p37 : S) cd τ38 gs => cd = .exit 0 ∧ τ12.Le τ38 ∧ ∃ (g40 : Grp), gs = [[(b5, .cells #[y] 152 (0, 0))], g40] ∧ I p37 τ38 g40) (fun _ _ _ _ hl ⟨hb, g18, hg, hI19⟩ => ⟨hb.trans hl, g18, hg, hIm _ _ _ _ hl hI19⟩) (fun _ _ _ _ _ hl ⟨hc, hb, g40, hg, hI41⟩ => ⟨hc, hb.trans hl, g40, hg, hIm _ _ _ _ hl hI41⟩) ⟨Sto.Le.refl _, g, rfl, (hIm _ _ _ _ (hl9.trans hl13) hIg)⟩ ?_ ?_ ?_
  ·rintro x17 s17 o17 τ17 gs17 vx17 hl17 h rfl ⟨hb17, g18, rfl, hI19⟩ l17 rc17 caller17 cs17 fs17
   refine st_region ?_
   refine o_alloc rfl rfl rfl z_zero89 (fun b20 => ?_)
   refine ZZ 2 [0] rfl rfl ?_
   refine st_begin ?_
   refine Z 2 rfl ?_
   obtain ⟨r21, hr22, y27, u28, hy29, h⟩ := h
   refine st_d41 [[(b20, .cells (lA x17).toArray 89 (0, 0))], [(b5, .cells #[y] 152 (0, 0))]] [g18] 8 1 [none, none, none, none, none, none, some (0, 0), none] [none, none, none, none, none, none, none, none] [[none, some 20]] [.v (y), .v (.Pb b20), .v (.string x17.1), .v (.agg (lM c0 v1 v2).toArray), .v (.agg (lA x17).toArray), .t fun τ v => ∃ (v25 : Value), (v25 : Value) = v ∧ Sl (kI .u8) τ v25 r21, .v (.bool y27), .v (.bool (!y27))] [[fun τ u F => F = [g18], fun τ u F => ∃ (g34 : Grp), F = [g34] ∧ I u28 τ g34]] rfl z_mix rfl ⟨fun _ _ _ hl ⟨v25, hv, hs26⟩ => ⟨v25, hv, hs26.up hl⟩, trivial⟩ ⟨⟨fun _ _ _ _ hl h => h, ⟨fun _ _ _ _ hl h => (let ⟨g34, hF, hI35⟩ := h; ⟨g34, hF, hIm _ _ _ _ hl hI35⟩), trivial⟩⟩, trivial⟩ rfl rfl ?_ (allB_cons (allB_cons (allB_cons (allB_cons (allB_cons (allB_cons (allB_cons (allB_cons allB_nil ?_) (p4 dA)) ?_) ?_) ?_) ?_) ?_) (p4 dA)) ?_
   ·exact rfl
   ·intro ρ' τ pool rs hl hd hout hw hk
    refine o_load (j := 1) (v := y) rfl rfl rfl z_sc152 ((hout 3 rfl).trans rfl) rfl rfl ?_
    exact hk _ _ (Sto.Le.refl _) rfl
   ·intro ρ' τ pool rs hl hd hout hw hk
    obtain ⟨_, e1, rfl⟩ := hd 1 rfl _ rfl
    refine o_load (j := 0) (v := .string x17.1) rfl rfl rfl z_sc9 e1 rfl rfl ?_
    exact hk _ _ (Sto.Le.refl _) rfl
   ·intro ρ' τ pool rs hl hd hout hw hk
    refine o_loadIN (vs := (lM c0 v1 v2)) rfl rfl rfl z_agg30 ((hout 1 rfl).trans rfl) rfl (celn_cons (Cel.up hc0_0 ((((hle.trans hl9).trans hl13).trans hl17).trans hl)) (celn_cons (Cel.up hc0_1 ((((hle.trans hl9).trans hl13).trans hl17).trans hl)) (celn_cons (Cel.up hc0_2 ((((hle.trans hl9).trans hl13).trans hl17).trans hl)) (celn_cons (Cel.up hc0_3 ((((hle.trans hl9).trans hl13).trans hl17).trans hl)) (celn_cons (Cel.up hc0_4 ((((hle.trans hl9).trans hl13).trans hl17).trans hl)) (celn_cons (Cel.up hc0_5 ((((hle.trans hl9).trans hl13).trans hl17).trans hl)) (celn_cons (Cel.up hc0_6 ((((hle.trans hl9).trans hl13).trans hl17).trans hl)) (celn_cons (Cel.up hc0_7 ((((hle.trans hl9).trans hl13).trans hl17).trans hl)) (celn_cons (Cel.up hc0_8 ((((hle.trans hl9).trans hl13).trans hl17).trans hl)) (celn_cons (Cel.up hc0_9 ((((hle.trans hl9).trans hl13).trans hl17).trans hl)) (celn_cons (Cel.up hc0_10 ((((hle.trans hl9).trans hl13).trans hl17).trans hl)) celn_nil))))))))))) ?_
    exact hk _ _ (Sto.Le.refl _) rfl
   ·intro ρ' τ pool rs hl hd hout hw hk
    refine o_loadN (j := 0) (vs := (lA x17)) rfl rfl rfl z_agg89 ((hout 4 rfl).trans rfl) rfl rfl ?_
    exact hk _ _ (Sto.Le.refl _) rfl
   ·intro ρ' τ pool rs hl hd hout hw hk
    obtain ⟨_, e3, rfl⟩ := hd 3 rfl _ rfl
    obtain ⟨_, e4, rfl⟩ := hd 4 rfl _ rfl
    refine st_call (foot := []) rfl rfl rfl rfl (evs_cons e3 (evs_cons e4 rfl)) rfl (callV_fn z_en90 (body_part_ok hr22 τ (hs3.up ((((hle.trans hl9).trans hl13).trans hl17).trans hl)) (hs4.up ((((hle.trans hl9).trans hl13).trans hl17).trans hl)))) ?_
    rintro vτ23 τ23 gsτ23 hl24 ⟨v25, rfl, rfl, hs26⟩
    exact hk _ _ hl24 ⟨v25, rfl, hs26⟩
   ·intro ρ' τ u Fv pool rs hl hI hu hd hout hw hk
    obtain ⟨_, e0, rfl⟩ := hd 0 rfl _ rfl
    obtain ⟨_, e2, rfl⟩ := hd 2 rfl _ rfl
    obtain ⟨_, e5, v25, rfl, hs26⟩ := hd 5 rfl _ rfl
    have hI0 := hI
    obtain rfl := hI
    refine st_ord [2, 0, 0, 0] _ rfl ?_
    refine st_call (foot := [g18]) rfl rfl rfl e0 (evs_cons e2 (evs_cons e5 rfl)) rfl (hY (x17.1, r21) s17 _ _ _ _ _ (hle.trans (((hl9.trans hl13).trans hl17).trans hl)) hy29 ⟨_, rfl, hs26⟩ (hIm _ _ _ _ hl hI19)) ?_
    rintro vτ30 τ30 gsτ30 hl31 ⟨rfl, g32, rfl, hI33⟩
    refine st_ord [1, 1, 0, 0] _ rfl ?_
    exact hk _ _ [g32] hl31 rfl (by exact ⟨g32, rfl, hI33⟩)
   intro ρ' τ36 vals u Fv hl36 hI hu hv hout
   obtain ⟨g34, rfl, hI35⟩ := hI
   refine st_env (ρ' := [(21, .bool (!y27)), (1, .Pb bc0), (3, .Pb b5), (13, .agg (lA x17).toArray), (4, .Pb b20)]) ⟨(lv4 hv 7 rfl rfl rfl), (hout 1 rfl).trans rfl, (hout 3 rfl).trans rfl, (hout 13 rfl).trans rfl, (hout 4 rfl).trans rfl, trivial⟩ ?_
   refine st_end ?_
   refine st_if rfl h (fun h => ?_) (fun h => ?_)
   ·refine st_ord [1, 1] _ rfl ?_
    exact st_rexit rfl (List.Sublist.refl _) hl36 ⟨_, h, rfl, (hl17.trans hl36), g34, rfl, hI35⟩
   ·refine Z 2 rfl ?_
    refine st_ord [1, 1] _ rfl ?_
    exact st_rend (List.Sublist.refl _) hl36 ⟨_, h, (hl17.trans hl36), g34, rfl, hI35⟩
  ·rintro p42 τ43 gs17 f17 ht hl44 ⟨hb, g45, rfl, hI46⟩ rfl
   subst ht
   replace h := hA17
   refine st_ord [1, 1] _ rfl ?_
   refine Z 2 rfl ?_
   refine st_ord [1] _ rfl ?_
   obtain rfl := Eq.symm h
   cases hr0
   exact st_fin (gs' := [g45, []]) Tryz.func88 rfl (by simp) ((hl9.trans hl13).trans hl44) ⟨g45, _, rfl, hI46, rfl⟩
  ·rintro p37 cd17 τ38 gs17 f17 ht hl39 ⟨rfl, hb, g40, rfl, hI41⟩ rfl
   subst ht
   replace h := hA17
   refine st_ord [1, 1] _ rfl ?_
   refine Z 2 rfl ?_
   refine st_ord [1] _ rfl ?_
   obtain rfl := Eq.symm h
   cases hr0
   exact st_fin (gs' := [g40, []]) Tryz.func88 rfl (by simp) ((hl9.trans hl13).trans hl39) ⟨g40, _, rfl, hI41, rfl⟩
theorem body_Parts_ok {a0 : TyM} {a1 : Int} {v1 : Value} {v2 : Value} {r : (((S : Type) → ((ByteArray × List Int) → S → Bool × S → Prop) → S → S × Unit → Prop))} (h : body_Parts a0 a1 r) (σ : Sto) (hs3 : Sl (kP (kI .i64) (kI .i64)) σ v1 a0.2.2.1) (hs4 : Sl (kI .i64) σ v2 a0.2.2.2.1) :
    Does Tryz.prog 72 [.agg (lM a0 v1 v2).toArray, .I a1] σ [] (fun v τ gs => ∃ (f13 : Nat) (q14 : Array Value), gs = [] ∧ .func (.func f13) #[] q14 = v ∧ IterV Tryz.prog (fun τ x vx => ∃ (v4 : Value), vx = [.string x.1, v4] ∧ Sl (kI .u8) τ v4 x.2) (.func (.func f13) #[] q14) τ [] (fun (_ : Unit) _ f => f = []) r) := by
 refine call_of Tryz.func72 Tryz.ntmps72 rfl rfl (fun cs fs => ?_)
 refine Z 2 rfl ?_
 refine o_box (cs := (lM a0 v1 v2)) rfl rfl rfl rfl rfl (fun b5 => ?_)
 refine o_boxC rfl rfl rfl rfl rfl rfl (fun b6 => ?_)
 refine Z 4 rfl ?_
 refine st_ord [1, 0] _ rfl ?_
 refine st_freeze (fun τ7 hl8 hg9 => ?_)
 refine st_freeze (fun τ10 hl11 hg12 => ?_)
 refine Z 3 rfl ?_
 obtain rfl := Eq.symm h
 exact st_ret (gs' := []) Tryz.func72 rfl (List.Sublist.refl _) (hl8.trans hl11) ⟨_, _, rfl, rfl, (body_Parts_1_ok (Cel.up (cel_of hg9 rfl) hl11) (Cel.up (cel_of hg9 rfl) hl11) (Cel.up (cel_of hg9 rfl) hl11) (Cel.up (cel_of hg9 rfl) hl11) (Cel.up (cel_of hg9 rfl) hl11) (Cel.up (cel_of hg9 rfl) hl11) (Cel.up (cel_of hg9 rfl) hl11) (Cel.up (cel_of hg9 rfl) hl11) (Cel.up (cel_of hg9 rfl) hl11) (Cel.up (cel_of hg9 rfl) hl11) (Cel.up (cel_of hg9 rfl) hl11) (hs3.up (hl8.trans hl11)) (hs4.up (hl8.trans hl11)) (cel_of hg12 rfl))⟩
theorem body_Encode_ok {a0 : TyM} {a1 : Int} {v1 : Value} {v2 : Value} {r : List Int × Int} (h : body_Encode a0 a1 r) (σ : Sto) (hs3 : Sl (kP (kI .i64) (kI .i64)) σ v1 a0.2.2.1) (hs4 : Sl (kI .i64) σ v2 a0.2.2.2.1) :
    Does Tryz.prog 53 [.agg (lM a0 v1 v2).toArray, .I a1] σ [] (fun v τ gs => ∃ (v41 : Value), gs = [] ∧ .tuple [v41, .I r.2].toArray = v ∧ Sl (kI .u8) τ v41 r.1) := by
 refine call_of Tryz.func53 Tryz.ntmps53 rfl rfl (fun cs fs => ?_)
 refine Z 2 rfl ?_
 refine o_box (cs := (lM a0 v1 v2)) rfl rfl rfl rfl rfl (fun b5 => ?_)
 refine ZZ 8 [0] rfl rfl ?_
 obtain ⟨r6, hr7, h⟩ := h
 refine st_call (foot := []) rfl rfl rfl rfl rfl rfl (callV_fn z_en71 (body_check_ok hr7 σ hs3 hs4)) ?_
 rintro vτ8 τ8 gsτ8 hl9 ⟨rfl, rfl⟩
 refine Z 7 rfl ?_
 refine st_if rfl h (fun h => ?_) (fun h => ?_)
 ·refine Z 6 rfl ?_
  refine st_ord [] _ rfl ?_
  obtain rfl := Eq.symm h
  exact st_ret (gs' := []) Tryz.func53 rfl (List.Sublist.refl _) hl9 ⟨_, rfl, rfl, Sl.nil⟩
 ·refine Z 3 rfl ?_
  refine o_alloc rfl rfl rfl z_zero42 (fun b10 => ?_)
  refine ZZ 6 [1] rfl rfl ?_
  obtain ⟨r11, hr12, h⟩ := h
  refine st_call (foot := []) rfl rfl rfl rfl rfl rfl (callV_fn z_en72 (body_Parts_ok hr12 τ8 (hs3.up hl9) (hs4.up hl9))) ?_
  rintro vτ13 τ13 gsτ13 hl14 ⟨f15, q16, rfl, rfl, hit17⟩
  refine Z 2 rfl ?_
  obtain ⟨t18, w18, hR18, hA18⟩ := h
  refine st_env (ρ' := [(4, .N0), (5, .I 0), (7, .Pb b10), (18, .func (.func f15) #[] q16)]) ⟨rfl, rfl, rfl, rfl, trivial⟩ ?_
  refine st_addNil ?_
  refine st_ord [1, 0] _ rfl ?_
  refine st_addNil ?_
  refine st_range (B := body_Encode_l1) (s0 := []) ranges_fctx rfl hit17 (Sto.Le.refl _) hR18 rfl (fun _ _ _ h => by obtain ⟨_, rfl, _⟩ := h; rfl) (fun (s18 : List Int) τ18 gs => τ13.Le τ18 ∧ ∃ (v19 : Value) (g20 : Grp), gs = [[(b10, .cells #[v19] 42 (0, 0))], g20] ∧ Ow (kI .u8) 5 τ18 v19 s18 g20) (fun _ _ _ _ => False) (fun _ _ _ _ hl ⟨hb, v19, g20, hg, ho21⟩ => ⟨hb.trans hl, v19, g20, hg, ho21.up hl⟩) (fun _ _ _ _ _ _ h => h.elim) ⟨Sto.Le.refl _, _, _, rfl, Ow.nil⟩ ?_ ?_ ?_
  ·rintro x18 s18 o18 τ18 gs18 vx18 hl18 h ⟨v22, rfl, hs23⟩ ⟨hb18, v19, g20, rfl, ho21⟩ l18 rc18 caller18 cs18 fs18
   refine Z 3 rfl ?_
   refine st_begin ?_
   refine ZZ 4 [0] rfl rfl ?_
   obtain ⟨hf27, hf28, h⟩ := h
   refine st_ord [1, 0] _ rfl ?_
   refine o_append (dk := (kI .u8)) (xs := s18) (ys := x18.2) rfl rfl rfl rfl z_slT42 rfl ho21 rfl (Sl.src hs23) hf27 hf28 (fun v24 g25 ho26 => ?_)
   refine o_store (j := 1) (vs := [v24]) (cs' := [v24]) rfl rfl rfl z_size42 rfl rfl (oneL_ow ho26) (ones_cons ho26.one' ones_nil) rfl rfl rfl ?_
   refine Z 2 rfl ?_
   refine st_ord [1, 0] _ rfl ?_
   exact st_rend (List.Sublist.refl _) (Sto.Le.refl _) ⟨_, h, hl18, _, _, rfl, ho26⟩
  ·rintro p29 τ30 gs18 f18 ht hl31 ⟨hb, v32, g33, rfl, ho34⟩ rfl
   subst ht
   replace h := hA18
   refine st_ord [1, 1] _ rfl ?_
   refine ZZ 7 [0] rfl rfl ?_
   refine st_ord [1, 0] _ rfl ?_
   refine st_freeze (fun τ35 hl36 hg37 => ?_)
   have hs38 := ho34.freeze hl36 hg37
   refine st_ord [] _ rfl ?_
   obtain rfl := Eq.symm h
   exact st_ret (gs' := []) Tryz.func53 rfl (List.Sublist.refl _) (((hl9.trans hl14).trans hl31).trans hl36) ⟨_, rfl, rfl, hs38⟩
  ·exact fun _ _ _ _ _ _ _ h => h.elim
theorem log_one_ok {a0 : Int × Int × Int × Int × (TyM)} {v1 : Value} {v2 : Value} {r : List Int × Int} (h : log_one a0 r) (σ : Sto) (hs3 : Sl (kP (kI .i64) (kI .i64)) σ v1 a0.t4.2.2.1) (hs4 : Sl (kI .i64) σ v2 a0.t4.2.2.2.1) :
    Does Tryz.prog 27 [.agg [.I a0.1, .int .u32 a0.2.1, .I a0.2.2.1, .I a0.2.2.2.1, .I a0.t4.1, .I (a0.t4.2.1.getD 0 0), .I (a0.t4.2.1.getD 1 0), .I (a0.t4.2.1.getD 2 0), .I (a0.t4.2.1.getD 3 0), .I (a0.t4.2.1.getD 4 0), .I (a0.t4.2.1.getD 5 0), v1, v2, .string a0.t4.t4.1, .string a0.t4.t4.2].toArray] σ [] (fun v τ gs => ∃ (v97 : Value), gs = [] ∧ .tuple [v97, .I r.2].toArray = v ∧ Sl (kI .u8) τ v97 r.1) := by
 refine call_of Tryz.func27 Tryz.ntmps27 rfl rfl (fun cs fs => ?_)
 refine Z 2 rfl ?_
 refine o_box (cs := [.I a0.1, .int .u32 a0.2.1, .I a0.2.2.1, .I a0.2.2.2.1, .I a0.t4.1, .I (a0.t4.2.1.getD 0 0), .I (a0.t4.2.1.getD 1 0), .I (a0.t4.2.1.getD 2 0), .I (a0.t4.2.1.getD 3 0), .I (a0.t4.2.1.getD 4 0), .I (a0.t4.2.1.getD 5 0), v1, v2, .string a0.t4.t4.1, .string a0.t4.t4.2]) rfl rfl rfl rfl rfl (fun b5 => ?_)
 refine ZZ 7 [0] rfl rfl ?_
 obtain ⟨r6, hr7, h⟩ := h
 refine st_call (foot := []) rfl rfl rfl rfl rfl rfl (callV_fn z_en7 (log_Check_ok hr7 σ hs3 hs4)) ?_
 rintro vτ8 τ8 gsτ8 hl9 ⟨rfl, rfl⟩
 refine Z 7 rfl ?_
 refine st_if rfl h (fun h => ?_) (fun h => ?_)
 ·refine Z 6 rfl ?_
  refine st_ord [] _ rfl ?_
  obtain rfl := Eq.symm h
  exact st_ret (gs' := []) Tryz.func27 rfl (List.Sublist.refl _) hl9 ⟨_, rfl, rfl, Sl.nil⟩
 ·refine Z 3 rfl ?_
  obtain ⟨r10, hr11, h⟩ := h
  refine st_call (foot := []) rfl rfl rfl rfl rfl rfl (callV_fn z_en50 (pen_New_ok hr11 τ8)) ?_
  rintro vτ12 τ12 gsτ12 hl13 ⟨b14, v15, g16, rfl, rfl, ho17⟩
  refine ZZ 8 [2] rfl rfl ?_
  obtain ⟨r18, hr19, h⟩ := h
  refine st_call (foot := [[(b14, .cells #[v15, .I r10.2.1, .bool r10.2.2] 129 (0, 0))], g16]) rfl rfl rfl rfl rfl rfl (callV_fn z_en51 (pen_Pen_U8_ok hr19 τ12 ho17)) ?_
  rintro vτ20 τ20 gsτ20 hl21 ⟨v22, g23, rfl, rfl, ho24⟩
  refine ZZ 6 [2] rfl rfl ?_
  obtain ⟨r25, hr26, h⟩ := h
  refine st_call (foot := [[(b14, .cells #[v22, .I r18.2.2.1, .bool r18.2.2.2] 129 (0, 0))], g23]) rfl rfl rfl rfl rfl rfl (callV_fn z_en52 (pen_Pen_U32_ok hr26 τ20 ho24)) ?_
  rintro vτ27 τ27 gsτ27 hl28 ⟨v29, g30, rfl, rfl, ho31⟩
  refine Z 2 rfl ?_
  refine st_cut (fun ρ τ32 gs => ∃ (s32 : List Int × Int × Bool) (v33 : Value) (g34 : Grp), log_one_j1 s32 r ∧ τ27.Le τ32 ∧ ESub ρ [(2, .N0), (3, .I 0), (5, .Pb b14)] ∧ gs = [[(b14, .cells #[v33, .I s32.2.1, .bool s32.2.2] 129 (0, 0))], g34] ∧ Ow (kI .u8) 5 τ32 v33 s32.1 g34) ?_ (fun hk32 => ?_)
  ·rintro ρ32 τ32 gs32 ⟨s32, v33, g34, h, hl32, hρ, rfl, ho35⟩
   refine st_es hρ ?_
   refine Z 2 rfl ?_
   obtain ⟨r36, hr37, h⟩ := h
   refine st_call (foot := []) rfl rfl rfl rfl rfl rfl (callV_fn z_en50 (pen_New_ok hr37 τ32)) ?_
   rintro vτ38 τ38 gsτ38 hl39 ⟨b40, v41, g42, rfl, rfl, ho43⟩
   refine Z 6 rfl ?_
   obtain ⟨r44, hr45, h⟩ := h
   refine st_ord [2, 2, 0, 0] _ rfl ?_
   refine st_call (foot := [[(b14, .cells #[v33, .I s32.2.1, .bool s32.2.2] 129 (0, 0))], g34]) rfl rfl rfl rfl rfl rfl (callV_fn z_en56 (pen_Pen_Bytes_ok hr45 τ38 (ho35.up hl39))) ?_
   rintro vτ46 τ46 gsτ46 hl47 ⟨v48, rfl, rfl, hs49⟩
   obtain ⟨r50, hr51, h⟩ := h
   refine st_ord [2, 2, 0, 0] _ rfl ?_
   refine st_call (foot := [[(b40, .cells #[v41, .I r36.2.1, .bool r36.2.2] 129 (0, 0))], g42]) rfl rfl rfl rfl rfl rfl (callV_fn z_en55 (pen_Pen_Field_ok hr51 τ46 (ho43.up hl47) hs49)) ?_
   rintro vτ52 τ52 gsτ52 hl53 ⟨v54, g55, rfl, rfl, ho56⟩
   refine Z 5 rfl ?_
   obtain ⟨r57, hr58, h⟩ := h
   refine st_call (foot := [[(b40, .cells #[v54, .I r50.2.2.1, .bool r50.2.2.2] 129 (0, 0))], g55]) rfl rfl rfl rfl rfl rfl (callV_fn z_en56 (pen_Pen_Bytes_ok hr58 τ52 ho56)) ?_
   rintro vτ59 τ59 gsτ59 hl60 ⟨v61, rfl, rfl, hs62⟩
   refine Z 4 rfl ?_
   refine st_ord [] _ rfl ?_
   obtain rfl := Eq.symm h
   exact st_ret (gs' := []) Tryz.func27 rfl (List.Sublist.refl _) ((((((((hl9.trans hl13).trans hl21).trans hl28).trans hl32).trans hl39).trans hl47).trans hl53).trans hl60) ⟨_, rfl, rfl, hs62⟩
  refine ZZ 11 [2] rfl rfl ?_
  refine st_if rfl h (fun h => ?_) (fun h => ?_)
  ·refine ZZ 4 [2] rfl rfl ?_
   obtain ⟨r63, hr64, h⟩ := h
   refine st_call (foot := []) rfl rfl rfl rfl rfl rfl (callV_fn z_en53 (body_Encode_ok hr64 τ27 (hs3.up (((hl9.trans hl13).trans hl21).trans hl28)) (hs4.up (((hl9.trans hl13).trans hl21).trans hl28)))) ?_
   rintro vτ65 τ65 gsτ65 hl66 ⟨v67, rfl, rfl, hs68⟩
   refine Z 12 rfl ?_
   refine st_if rfl h (fun h => ?_) (fun h => ?_)
   ·refine Z 6 rfl ?_
    refine st_ord [] _ rfl ?_
    obtain rfl := Eq.symm h
    exact st_ret (gs' := []) Tryz.func27 rfl (List.Sublist.refl _) ((((hl9.trans hl13).trans hl21).trans hl28).trans hl66) ⟨_, rfl, rfl, Sl.nil⟩
   ·refine ZZ 7 [2] rfl rfl ?_
    obtain ⟨r69, hr70, h⟩ := h
    refine st_call (foot := [[(b14, .cells #[v29, .I r25.2.2.1, .bool r25.2.2.2] 129 (0, 0))], g30]) rfl rfl rfl rfl rfl rfl (callV_fn z_en51 (pen_Pen_U8_ok hr70 τ65 (ho31.up hl66))) ?_
    rintro vτ71 τ71 gsτ71 hl72 ⟨v73, g74, rfl, rfl, ho75⟩
    refine ZZ 8 [2] rfl rfl ?_
    obtain ⟨r76, hr77, h⟩ := h
    refine st_call (foot := [[(b14, .cells #[v73, .I r69.2.2.1, .bool r69.2.2.2] 129 (0, 0))], g74]) rfl rfl rfl rfl rfl rfl (callV_fn z_en51 (pen_Pen_U8_ok hr77 τ71 ho75)) ?_
    rintro vτ78 τ78 gsτ78 hl79 ⟨v80, g81, rfl, rfl, ho82⟩
    refine Z 4 rfl ?_
    obtain ⟨r83, hr84, h⟩ := h
    refine st_call (foot := [[(b14, .cells #[v80, .I r76.2.2.1, .bool r76.2.2.2] 129 (0, 0))], g81]) rfl rfl rfl rfl rfl rfl (callV_fn z_en54 (pen_Pen_Raw_ok hr84 τ78 ho82 (hs68.up (hl72.trans hl79)))) ?_
    rintro vτ85 τ85 gsτ85 hl86 ⟨v87, g88, rfl, rfl, ho89⟩
    refine Z 2 rfl ?_
    refine st_ord [0, 0] _ rfl ?_
    exact hk32 _ _ _ ⟨(r83.2.1, r83.2.2.1, r83.2.2.2), _, _, h, (((hl66.trans hl72).trans hl79).trans hl86), rfl, rfl, ho89⟩
  ·refine Z 5 rfl ?_
   refine st_if rfl h (fun h => ?_) (fun h => ?_)
   ·refine ZZ 5 [2] rfl rfl ?_
    obtain ⟨r90, hr91, h⟩ := h
    refine st_call (foot := [[(b14, .cells #[v29, .I r25.2.2.1, .bool r25.2.2.2] 129 (0, 0))], g30]) rfl rfl rfl rfl rfl rfl (callV_fn z_en51 (pen_Pen_U8_ok hr91 τ27 ho31)) ?_
    rintro vτ92 τ92 gsτ92 hl93 ⟨v94, g95, rfl, rfl, ho96⟩
    refine Z 2 rfl ?_
    refine st_ord [0, 0] _ rfl ?_
    exact hk32 _ _ _ ⟨(r90.2.1, r90.2.2.1, r90.2.2.2), _, _, h, hl93, rfl, rfl, ho96⟩
   ·refine Z 2 rfl ?_
    refine st_ord [0, 0] _ rfl ?_
    exact hk32 _ _ _ ⟨(r25.2.1, r25.2.2.1, r25.2.2.2), _, _, h, (Sto.Le.refl _), rfl, rfl, ho31⟩
theorem log_Bytes_ok {a0 : List (Int × Int × Int × Int × (TyM))} {v1 : Value} {r : List Int × Int} (h : log_Bytes a0 r) (σ : Sto) (hs2 : Sl (kP (kI .i64) (kP (kI .u32) (kP (kI .i64) (kP (kI .i64) (kP (kI .i64) (kP (kA .i64 6) (kP (kSl (kP (kI .i64) (kI .i64))) (kP (kSl (kI .i64)) (kP kS kS))))))))) σ v1 a0) :
    Does Tryz.prog 9 [v1] σ [] (fun v τ gs => ∃ (v40 : Value), gs = [] ∧ .tuple [v40, .I r.2].toArray = v ∧ Sl (kI .u8) τ v40 r.1) := by
 refine call_of Tryz.func9 Tryz.ntmps9 rfl rfl (fun cs fs => ?_)
 refine Z 10 rfl ?_
 refine st_cut (fun ρ τ3 gs => ∃ (s3 : List Int) (v4 : Value) (g5 : Grp), log_Bytes_j1 s3 r ∧ σ.Le τ3 ∧ ESub ρ [(2, .N0), (3, .I 0), (4, v4)] ∧ gs = [g5] ∧ Ow (kI .u8) 5 τ3 v4 s3 g5) ?_ (fun hk3 => ?_)
 ·rintro ρ3 τ3 gs3 ⟨s3, v4, g5, h, hl3, hρ, rfl, ho6⟩
  refine st_es hρ ?_
  refine Z 6 rfl ?_
  refine st_freeze (fun τ7 hl8 hg9 => ?_)
  have hs10 := ho6.freeze hl8 hg9
  obtain rfl := Eq.symm h
  exact st_ret (gs' := []) Tryz.func9 rfl (List.Sublist.refl _) (hl3.trans hl8) ⟨_, rfl, rfl, hs10⟩
 refine Z 3 rfl ?_
 refine o_lenI rfl rfl rfl z_slT22 rfl hs2 ?_
 refine Z 2 rfl ?_
 obtain ⟨e13, hL13, hA13⟩ := h
 refine st_addNil ?_
 refine st_loop hL13 (fun (s13 : List Int × Int) ρ τ13 gs => σ.Le τ13 ∧ ∃ (v14 : Value) (g15 : Grp), ESub ρ [(2, .N0), (3, .I 0), (4, v14), (9, v1), (10, .I (a0.length : Int)), (11, .I s13.2)] ∧ gs = [g15] ∧ Ow (kI .u8) 5 τ13 v14 s13.1 g15) ⟨Sto.Le.refl _, _, _, rfl, rfl, Ow.nil⟩ ?_
 rintro s13 o13 h he13 ρ13 τ13 gs13 ⟨hl13, v14, g15, hρ, rfl, ho16⟩ hn13
 refine st_es hρ ?_
 refine Z 5 rfl ?_
 refine st_if rfl h (fun h => ?_) (fun h => ?_)
 ·refine Z 5 rfl ?_
  obtain ⟨q17, hf18, h⟩ := h
  refine o_index rfl rfl rfl z_slT22 rfl rfl (hs2.up hl13) rfl hf18 (fun b19 of20 vs hc23 hrep => ?_)
  obtain ⟨_, _, rfl, rfl, ⟨_, _, rfl, rfl, ⟨_, _, rfl, rfl, ⟨_, _, rfl, rfl, ⟨_, _, rfl, rfl, ⟨_, _, rfl, rfl, ⟨_, _, rfl, ⟨v21, rfl, hs24⟩, ⟨_, _, rfl, ⟨v22, rfl, hs25⟩, ⟨_, _, rfl, rfl, rfl⟩⟩⟩⟩⟩⟩⟩⟩⟩ := hrep
  refine o_loadIN (vs := [.I q17.1, .int .u32 q17.2.1, .I q17.2.2.1, .I q17.2.2.2.1, .I q17.t4.1, .I (q17.t4.2.1.getD 0 0), .I (q17.t4.2.1.getD 1 0), .I (q17.t4.2.1.getD 2 0), .I (q17.t4.2.1.getD 3 0), .I (q17.t4.2.1.getD 4 0), .I (q17.t4.2.1.getD 5 0), v21, v22, .string q17.t4.t4.1, .string q17.t4.t4.2]) rfl rfl rfl z_agg32 rfl rfl (celn_part 0 rfl hc23) ?_
  refine o_alloc rfl rfl rfl z_zero32 (fun b26 => ?_)
  refine o_store (j := 0) (vs := [.I q17.1, .int .u32 q17.2.1, .I q17.2.2.1, .I q17.2.2.2.1, .I q17.t4.1, .I (q17.t4.2.1.getD 0 0), .I (q17.t4.2.1.getD 1 0), .I (q17.t4.2.1.getD 2 0), .I (q17.t4.2.1.getD 3 0), .I (q17.t4.2.1.getD 4 0), .I (q17.t4.2.1.getD 5 0), v21, v22, .string q17.t4.t4.1, .string q17.t4.t4.2]) (cs' := [.I q17.1, .int .u32 q17.2.1, .I q17.2.2.1, .I q17.2.2.2.1, .I q17.t4.1, .I (q17.t4.2.1.getD 0 0), .I (q17.t4.2.1.getD 1 0), .I (q17.t4.2.1.getD 2 0), .I (q17.t4.2.1.getD 3 0), .I (q17.t4.2.1.getD 4 0), .I (q17.t4.2.1.getD 5 0), v21, v22, .string q17.t4.t4.1, .string q17.t4.t4.2]) rfl rfl rfl z_size32 rfl rfl rfl (ones_cons rfl (ones_cons rfl (ones_cons rfl (ones_cons rfl (ones_cons rfl (ones_cons rfl (ones_cons rfl (ones_cons rfl (ones_cons rfl (ones_cons rfl (ones_cons rfl (ones_cons hs24.one' (ones_cons hs25.one' (ones_cons rfl (ones_cons rfl ones_nil))))))))))))))) rfl rfl rfl ?_
  refine ZZ 4 [0] rfl rfl ?_
  obtain ⟨r27, hr28, h⟩ := h
  refine st_call (foot := []) rfl rfl rfl rfl rfl rfl (callV_fn z_en27 (log_one_ok hr28 τ13 hs24 hs25)) ?_
  rintro vτ29 τ29 gsτ29 hl30 ⟨v31, rfl, rfl, hs32⟩
  refine Z 12 rfl ?_
  refine st_if rfl h (fun h => ?_) (fun h => ?_)
  ·refine Z 6 rfl ?_
   refine st_ord [] _ rfl ?_
   obtain rfl := he13 _ h
   replace h := hA13
   obtain rfl := Eq.symm h
   exact st_ret (gs' := []) Tryz.func9 rfl (List.Sublist.refl _) (hl13.trans hl30) ⟨_, rfl, rfl, Sl.nil⟩
  ·refine Z 4 rfl ?_
   obtain ⟨hf36, hf37, h⟩ := h
   refine st_ord [1, 0] _ rfl ?_
   refine o_append (dk := (kI .u8)) (xs := s13.1) (ys := r27.1) rfl rfl rfl rfl z_slT42 rfl (ho16.up hl30) rfl (Sl.src hs32) hf36 hf37 (fun v33 g34 ho35 => ?_)
   refine Z 7 rfl ?_
   refine st_ord [0] _ rfl ?_
   exact hn13 _ _ _ _ h ⟨(hl13.trans hl30), _, _, rfl, rfl, ho35⟩
 ·refine st_exit rfl ?_
  obtain rfl := he13 _ h
  replace h := hA13
  exact hk3 _ _ _ ⟨s13.1, _, _, h, hl13, rfl, rfl, ho16⟩
theorem ref01_Same_ok {a0 : List Int} {a1 : List Int} {v1 : Value} {v3 : Value} {r : Bool} (h : ref01_Same a0 a1 r) (σ : Sto) (hs2 : Sl (kI .u8) σ v1 a0) (hs4 : Sl (kI .u8) σ v3 a1) :
    Does Tryz.prog 11 [v1, v3] σ [] (fun v τ gs => gs = [] ∧ .bool r = v) := by
 refine call_of Tryz.func11 Tryz.ntmps11 rfl rfl (fun cs fs => ?_)
 refine Z 8 rfl ?_
 refine o_lenI rfl rfl rfl z_slT42 rfl hs2 ?_
 refine o_move rfl rfl rfl rfl ?_
 refine o_lenI rfl rfl rfl z_slT42 rfl hs4 ?_
 refine Z 2 rfl ?_
 refine st_if rfl h (fun h => ?_) (fun h => ?_)
 ·refine Z 4 rfl ?_
  obtain rfl := Eq.symm h
  exact st_ret (gs' := []) Tryz.func11 rfl (List.Sublist.refl _) (Sto.Le.refl _) ⟨rfl, rfl⟩
 ·refine Z 2 rfl ?_
  refine st_cut (fun ρ τ5 gs => ∃ (s5 : Unit), ref01_Same_j1 s5 r ∧ σ.Le τ5 ∧ ESub ρ [(4, .bool false)] ∧ gs = []) ?_ (fun hk5 => ?_)
  ·rintro ρ5 τ5 gs5 ⟨s5, h, hl5, hρ, rfl⟩
   refine st_es hρ ?_
   refine Z 4 rfl ?_
   obtain rfl := Eq.symm h
   exact st_ret (gs' := []) Tryz.func11 rfl (List.Sublist.refl _) hl5 ⟨rfl, rfl⟩
  refine Z 4 rfl ?_
  obtain ⟨e6, hL6, hA6⟩ := h
  refine st_loop hL6 (fun (s6 : Int) ρ τ6 gs => σ.Le τ6 ∧ ESub ρ [(0, v1), (1, v3), (4, .bool false), (5, .I s6)] ∧ gs = []) ⟨Sto.Le.refl _, rfl, rfl⟩ ?_
  rintro s6 o6 h he6 ρ6 τ6 gs6 ⟨hl6, hρ, rfl⟩ hn6
  refine st_es hρ ?_
  refine Z 5 rfl ?_
  refine o_lenI rfl rfl rfl z_slT42 rfl (hs2.up hl6) ?_
  refine Z 2 rfl ?_
  refine st_if rfl h (fun h => ?_) (fun h => ?_)
  ·refine Z 4 rfl ?_
   obtain ⟨q7, hf8, q12, hf13, h⟩ := h
   refine st_draw 9 (dl [.v (v1), .v (.I s6), .t fun τ v => ∃ (b9 : Nat) (of10 : Nat) (vsb9 : List Value), (.pointer (some ⟨b9, of10, none⟩) : Value) = v ∧ CelN τ ⟨b9, of10, none⟩ vsb9 ∧ (kI .u8).rep τ vsb9 q7, .v (.int .u8 q7), .v (v3), .v (.I s6), .t fun τ v => ∃ (b14 : Nat) (of15 : Nat) (vsb14 : List Value), (.pointer (some ⟨b14, of15, none⟩) : Value) = v ∧ CelN τ ⟨b14, of15, none⟩ vsb14 ∧ (kI .u8).rep τ vsb14 q12, .v (.int .u8 q12), .v (.bool (!(decide (q7 = q12))))]) (fun _ _ => []) z_mix rfl (dl_mono ⟨fun _ _ _ hl ⟨b9, of10, vsb9, hv, hc11, hrepb9⟩ => ⟨b9, of10, vsb9, hv, hc11.up hl, Kd.mono _ hl hrepb9⟩, ⟨fun _ _ _ hl ⟨b14, of15, vsb14, hv, hc16, hrepb14⟩ => ⟨b14, of15, vsb14, hv, hc16.up hl, Kd.mono _ hl hrepb14⟩, trivial⟩⟩) (allB_cons (allB_cons (allB_cons (allB_cons (allB_cons (allB_cons (allB_cons (allB_cons (allB_cons allB_nil (p1 dA)) (p1 dA)) ?_) ?_) (p1 dA)) (p1 dA)) ?_) ?_) (p1 dA)) ?_
   ·intro ρ' τ pool rs hl hd hout hk
    obtain ⟨_, e0, rfl⟩ := hd 0 rfl
    obtain ⟨_, e1, rfl⟩ := hd 1 rfl
    refine o_index rfl rfl rfl z_slT42 rfl e0 (hs2.up (hl6.trans hl)) e1 hf8 (fun b9 of10 vsb9 hc11 hrepb9 => ?_)
    exact st_addNil (hk _ _ (Sto.Le.refl _) ⟨b9, of10, _, rfl, hc11, hrepb9⟩)
   ·intro ρ' τ pool rs hl hd hout hk
    obtain ⟨_, e2, b9, of10, vsb9, rfl, hc11, hrepb9⟩ := hd 2 rfl
    have hrepb9 := hrepb9
    obtain rfl := hrepb9
    refine o_loadI (v := .int .u8 q7) rfl rfl rfl z_sc5 e2 (hc11 0 _ rfl) ?_
    exact st_addNil (hk _ _ (Sto.Le.refl _) rfl)
   ·intro ρ' τ pool rs hl hd hout hk
    obtain ⟨_, e4, rfl⟩ := hd 4 rfl
    obtain ⟨_, e5, rfl⟩ := hd 5 rfl
    refine o_index rfl rfl rfl z_slT42 rfl e4 (hs4.up (hl6.trans hl)) e5 hf13 (fun b14 of15 vsb14 hc16 hrepb14 => ?_)
    exact st_addNil (hk _ _ (Sto.Le.refl _) ⟨b14, of15, _, rfl, hc16, hrepb14⟩)
   ·intro ρ' τ pool rs hl hd hout hk
    obtain ⟨_, e6, b14, of15, vsb14, rfl, hc16, hrepb14⟩ := hd 6 rfl
    have hrepb14 := hrepb14
    obtain rfl := hrepb14
    refine o_loadI (v := .int .u8 q12) rfl rfl rfl z_sc5 e6 (hc16 0 _ rfl) ?_
    exact st_addNil (hk _ _ (Sto.Le.refl _) rfl)
   intro ρ' τ17 vals hl17 hv hout
   refine st_ord [] _ rfl ?_
   refine st_env (ρ' := [(25, .bool (!(decide (q7 = q12)))), (0, v1), (1, v3), (4, .bool false), (5, .I s6)]) ⟨(lv1 hv 8 rfl rfl), (hout 0 rfl).trans rfl, (hout 1 rfl).trans rfl, (hout 4 rfl).trans rfl, (hout 5 rfl).trans rfl, trivial⟩ ?_
   refine st_end ?_
   refine st_if rfl h (fun h => ?_) (fun h => ?_)
   ·refine Z 4 rfl ?_
    obtain rfl := he6 _ h
    replace h := hA6
    obtain rfl := Eq.symm h
    exact st_ret (gs' := []) Tryz.func11 rfl (List.Sublist.refl _) (hl6.trans hl17) ⟨rfl, rfl⟩
   ·refine Z 7 rfl ?_
    exact hn6 _ _ _ _ h ⟨(hl6.trans hl17), rfl, rfl⟩
  ·refine st_exit rfl ?_
   obtain rfl := he6 _ h
   replace h := hA6
   exact hk5 _ _ _ ⟨(), h, hl6, rfl, rfl⟩
theorem event_Eviction_ok {a0 : Int} {r : (Int × Int × Int × Int × (TyM))} (h : event_Eviction a0 r) (σ : Sto)  :
    Does Tryz.prog 31 [.int .u32 a0] σ [] (fun v τ gs => ∃ (v2 : Value) (v3 : Value), gs = [] ∧ .agg [.I r.1, .int .u32 r.2.1, .I r.2.2.1, .I r.2.2.2.1, .I r.t4.1, .I (r.t4.2.1.getD 0 0), .I (r.t4.2.1.getD 1 0), .I (r.t4.2.1.getD 2 0), .I (r.t4.2.1.getD 3 0), .I (r.t4.2.1.getD 4 0), .I (r.t4.2.1.getD 5 0), v2, v3, .string r.t4.t4.1, .string r.t4.t4.2].toArray = v ∧ Sl (kP (kI .i64) (kI .i64)) τ v2 r.t4.2.2.1 ∧ Sl (kI .i64) τ v3 r.t4.2.2.2.1) := by
 refine call_of Tryz.func31 Tryz.ntmps31 rfl rfl (fun cs fs => ?_)
 refine Z 2 rfl ?_
 refine o_alloc rfl rfl rfl z_zero32 (fun b1 => ?_)
 refine ZZ 7 [0] rfl rfl ?_
 obtain rfl := Eq.symm h
 exact st_retC (gs' := []) [.agg #[.I 3, .int .u32 a0, .I 0, .I 0, .I 0, .I 0, .I 0, .I 0, .I 0, .I 0, .I 0, .N0, .N0, .E0, .E0]] Tryz.func31 ⟨⟨_, _, _, _, rfl, mem_flat 0 rfl, fun w hw => cellOfN (vs := [.I 3, .int .u32 a0, .I 0, .I 0, .I 0, .I 0, .I 0, .I 0, .I 0, .I 0, .I 0, .N0, .N0, .E0, .E0]) z_agg32 rfl w hw⟩, trivial⟩ (by simp) (Sto.Le.refl _) ⟨_, _, rfl, rfl, Sl.nil, Sl.nil⟩
theorem event_Rejection_ok {a0 : Int} {a1 : Int} {r : (Int × Int × Int × Int × (TyM))} (h : event_Rejection a0 a1 r) (σ : Sto)  :
    Does Tryz.prog 32 [.int .u32 a0, .I a1] σ [] (fun v τ gs => ∃ (v2 : Value) (v3 : Value), gs = [] ∧ .agg [.I r.1, .int .u32 r.2.1, .I r.2.2.1, .I r.2.2.2.1, .I r.t4.1, .I (r.t4.2.1.getD 0 0), .I (r.t4.2.1.getD 1 0), .I (r.t4.2.1.getD 2 0), .I (r.t4.2.1.getD 3 0), .I (r.t4.2.1.getD 4 0), .I (r.t4.2.1.getD 5 0), v2, v3, .string r.t4.t4.1, .string r.t4.t4.2].toArray = v ∧ Sl (kP (kI .i64) (kI .i64)) τ v2 r.t4.2.2.1 ∧ Sl (kI .i64) τ v3 r.t4.2.2.2.1) := by
 refine call_of Tryz.func32 Tryz.ntmps32 rfl rfl (fun cs fs => ?_)
 refine Z 2 rfl ?_
 refine o_alloc rfl rfl rfl z_zero32 (fun b1 => ?_)
 refine ZZ 8 [0] rfl rfl ?_
 obtain rfl := Eq.symm h
 exact st_retC (gs' := []) [.agg #[.I 2, .int .u32 a0, .I 0, .I a1, .I 0, .I 0, .I 0, .I 0, .I 0, .I 0, .I 0, .N0, .N0, .E0, .E0]] Tryz.func32 ⟨⟨_, _, _, _, rfl, mem_flat 0 rfl, fun w hw => cellOfN (vs := [.I 2, .int .u32 a0, .I 0, .I a1, .I 0, .I 0, .I 0, .I 0, .I 0, .I 0, .I 0, .N0, .N0, .E0, .E0]) z_agg32 rfl w hw⟩, trivial⟩ (by simp) (Sto.Le.refl _) ⟨_, _, rfl, rfl, Sl.nil, Sl.nil⟩
theorem law34_known_ok  {r : Bool} (h : law34_known r) (σ : Sto)  :
    Does Tryz.prog 12 [] σ [] (fun v τ gs => gs = [] ∧ .bool r = v) := by
 refine call_of Tryz.func12 Tryz.ntmps12 rfl rfl (fun cs fs => ?_)
 refine Z 6 rfl ?_
 obtain ⟨r1, hr2, h⟩ := h
 refine st_call (foot := []) rfl rfl rfl rfl rfl rfl (callV_fn z_en31 (event_Eviction_ok hr2 σ)) ?_
 rintro vτ3 τ3 gsτ3 hl4 ⟨v5, v6, rfl, rfl, hs7, hs8⟩
 refine o_lit (dk := (kP (kI .i64) (kP (kI .u32) (kP (kI .i64) (kP (kI .i64) (kP (kI .i64) (kP (kA .i64 6) (kP (kSl (kP (kI .i64) (kI .i64))) (kP (kSl (kI .i64)) (kP kS kS)))))))))) (xs := [r1]) (ps := [(0, [.I r1.1, .int .u32 r1.2.1, .I r1.2.2.1, .I r1.2.2.2.1, .I r1.t4.1, .I (r1.t4.2.1.getD 0 0), .I (r1.t4.2.1.getD 1 0), .I (r1.t4.2.1.getD 2 0), .I (r1.t4.2.1.getD 3 0), .I (r1.t4.2.1.getD 4 0), .I (r1.t4.2.1.getD 5 0), v5, v6, .string r1.t4.t4.1, .string r1.t4.t4.2])]) (cs := [.I r1.1, .int .u32 r1.2.1, .I r1.2.2.1, .I r1.2.2.2.1, .I r1.t4.1, .I (r1.t4.2.1.getD 0 0), .I (r1.t4.2.1.getD 1 0), .I (r1.t4.2.1.getD 2 0), .I (r1.t4.2.1.getD 3 0), .I (r1.t4.2.1.getD 4 0), .I (r1.t4.2.1.getD 5 0), v5, v6, .string r1.t4.t4.1, .string r1.t4.t4.2]) rfl rfl rfl z_slT22 z_zero32 ⟨rfl, ⟨_, rfl, rfl⟩, trivial⟩ rfl rfl rfl rfl (Kd.Many.cons (d := (kP (kI .i64) (kP (kI .u32) (kP (kI .i64) (kP (kI .i64) (kP (kI .i64) (kP (kA .i64 6) (kP (kSl (kP (kI .i64) (kI .i64))) (kP (kSl (kI .i64)) (kP kS kS)))))))))) (x := r1) (a := [.I r1.1, .int .u32 r1.2.1, .I r1.2.2.1, .I r1.2.2.2.1, .I r1.t4.1, .I (r1.t4.2.1.getD 0 0), .I (r1.t4.2.1.getD 1 0), .I (r1.t4.2.1.getD 2 0), .I (r1.t4.2.1.getD 3 0), .I (r1.t4.2.1.getD 4 0), .I (r1.t4.2.1.getD 5 0), v5, v6, .string r1.t4.t4.1, .string r1.t4.t4.2]) ⟨[.I r1.1], _, rfl, rfl, ⟨[.int .u32 r1.2.1], _, rfl, rfl, ⟨[.I r1.2.2.1], _, rfl, rfl, ⟨[.I r1.2.2.2.1], _, rfl, rfl, ⟨[.I r1.t4.1], _, rfl, rfl, ⟨[.I (r1.t4.2.1.getD 0 0), .I (r1.t4.2.1.getD 1 0), .I (r1.t4.2.1.getD 2 0), .I (r1.t4.2.1.getD 3 0), .I (r1.t4.2.1.getD 4 0), .I (r1.t4.2.1.getD 5 0)], _, rfl, rfl, ⟨[v5], _, rfl, ⟨_, rfl, hs7⟩, ⟨[v6], _, rfl, ⟨_, rfl, hs8⟩, ⟨[.string r1.t4.t4.1], _, rfl, rfl, rfl⟩⟩⟩⟩⟩⟩⟩⟩⟩ Kd.Many.nil) (fun v9 g10 ho11 => ?_)
 obtain ⟨r16, hr17, h⟩ := h
 refine st_freeze (fun τ12 hl13 hg14 => ?_)
 have hs15 := ho11.freeze hl13 hg14
 refine st_call (foot := []) rfl rfl rfl rfl rfl rfl (callV_fn z_en9 (log_Bytes_ok hr17 τ12 hs15)) ?_
 rintro vτ18 τ18 gsτ18 hl19 ⟨v20, rfl, rfl, hs21⟩
 refine Z 8 rfl ?_
 obtain ⟨r22, hr23, h⟩ := h
 refine st_call (foot := []) rfl rfl rfl rfl rfl rfl (callV_fn z_en32 (event_Rejection_ok hr23 τ18)) ?_
 rintro vτ24 τ24 gsτ24 hl25 ⟨v26, v27, rfl, rfl, hs28, hs29⟩
 refine o_lit (dk := (kP (kI .i64) (kP (kI .u32) (kP (kI .i64) (kP (kI .i64) (kP (kI .i64) (kP (kA .i64 6) (kP (kSl (kP (kI .i64) (kI .i64))) (kP (kSl (kI .i64)) (kP kS kS)))))))))) (xs := [r22]) (ps := [(0, [.I r22.1, .int .u32 r22.2.1, .I r22.2.2.1, .I r22.2.2.2.1, .I r22.t4.1, .I (r22.t4.2.1.getD 0 0), .I (r22.t4.2.1.getD 1 0), .I (r22.t4.2.1.getD 2 0), .I (r22.t4.2.1.getD 3 0), .I (r22.t4.2.1.getD 4 0), .I (r22.t4.2.1.getD 5 0), v26, v27, .string r22.t4.t4.1, .string r22.t4.t4.2])]) (cs := [.I r22.1, .int .u32 r22.2.1, .I r22.2.2.1, .I r22.2.2.2.1, .I r22.t4.1, .I (r22.t4.2.1.getD 0 0), .I (r22.t4.2.1.getD 1 0), .I (r22.t4.2.1.getD 2 0), .I (r22.t4.2.1.getD 3 0), .I (r22.t4.2.1.getD 4 0), .I (r22.t4.2.1.getD 5 0), v26, v27, .string r22.t4.t4.1, .string r22.t4.t4.2]) rfl rfl rfl z_slT22 z_zero32 ⟨rfl, ⟨_, rfl, rfl⟩, trivial⟩ rfl rfl rfl rfl (Kd.Many.cons (d := (kP (kI .i64) (kP (kI .u32) (kP (kI .i64) (kP (kI .i64) (kP (kI .i64) (kP (kA .i64 6) (kP (kSl (kP (kI .i64) (kI .i64))) (kP (kSl (kI .i64)) (kP kS kS)))))))))) (x := r22) (a := [.I r22.1, .int .u32 r22.2.1, .I r22.2.2.1, .I r22.2.2.2.1, .I r22.t4.1, .I (r22.t4.2.1.getD 0 0), .I (r22.t4.2.1.getD 1 0), .I (r22.t4.2.1.getD 2 0), .I (r22.t4.2.1.getD 3 0), .I (r22.t4.2.1.getD 4 0), .I (r22.t4.2.1.getD 5 0), v26, v27, .string r22.t4.t4.1, .string r22.t4.t4.2]) ⟨[.I r22.1], _, rfl, rfl, ⟨[.int .u32 r22.2.1], _, rfl, rfl, ⟨[.I r22.2.2.1], _, rfl, rfl, ⟨[.I r22.2.2.2.1], _, rfl, rfl, ⟨[.I r22.t4.1], _, rfl, rfl, ⟨[.I (r22.t4.2.1.getD 0 0), .I (r22.t4.2.1.getD 1 0), .I (r22.t4.2.1.getD 2 0), .I (r22.t4.2.1.getD 3 0), .I (r22.t4.2.1.getD 4 0), .I (r22.t4.2.1.getD 5 0)], _, rfl, rfl, ⟨[v26], _, rfl, ⟨_, rfl, hs28⟩, ⟨[v27], _, rfl, ⟨_, rfl, hs29⟩, ⟨[.string r22.t4.t4.1], _, rfl, rfl, rfl⟩⟩⟩⟩⟩⟩⟩⟩⟩ Kd.Many.nil) (fun v30 g31 ho32 => ?_)
 obtain ⟨r37, hr38, h⟩ := h
 refine st_freeze (fun τ33 hl34 hg35 => ?_)
 have hs36 := ho32.freeze hl34 hg35
 refine st_call (foot := []) rfl rfl rfl rfl rfl rfl (callV_fn z_en9 (log_Bytes_ok hr38 τ33 hs36)) ?_
 rintro vτ39 τ39 gsτ39 hl40 ⟨v41, rfl, rfl, hs42⟩
 refine Z 7 rfl ?_
 refine st_cut (fun ρ τ43 gs => ∃ (s43 : Bool), law34_known_j1 s43 r ∧ τ39.Le τ43 ∧ ESub ρ [(0, .bool s43)] ∧ gs = []) ?_ (fun hk43 => ?_)
 ·rintro ρ43 τ43 gs43 ⟨s43, h, hl43, hρ, rfl⟩
  refine st_es hρ ?_
  obtain rfl := Eq.symm h
  exact st_ret (gs' := []) Tryz.func12 rfl (List.Sublist.refl _) ((((((hl4.trans hl13).trans hl19).trans hl25).trans hl34).trans hl40).trans hl43) ⟨rfl, rfl⟩
 refine Z 3 rfl ?_
 refine o_mif rfl rfl rfl rfl h (fun h => ?_) (fun h => ?_)
 ·refine Z 3 rfl ?_
  refine o_mif rfl rfl rfl rfl h (fun h => ?_) (fun h => ?_)
  ·refine o_move rfl rfl rfl rfl ?_
   refine o_litE (eI .u8) [5, 3, 7, 0, 0, 0] rfl rfl rfl z_slT42 z_zero5 ⟨rfl, ⟨_, rfl, rfl⟩, ⟨rfl, ⟨_, rfl, rfl⟩, ⟨rfl, ⟨_, rfl, rfl⟩, ⟨rfl, ⟨_, rfl, rfl⟩, ⟨rfl, ⟨_, rfl, rfl⟩, ⟨rfl, ⟨_, rfl, rfl⟩, trivial⟩⟩⟩⟩⟩⟩ rfl rfl rfl rfl (fun v44 g45 ho46 => ?_)
   obtain ⟨r51, hr52, h⟩ := h
   refine st_freeze (fun τ47 hl48 hg49 => ?_)
   have hs50 := ho46.freeze hl48 hg49
   refine st_call (foot := []) rfl rfl rfl rfl rfl rfl (callV_fn z_en11 (ref01_Same_ok hr52 τ47 (hs21.up (((hl25.trans hl34).trans hl40).trans hl48)) hs50)) ?_
   rintro vτ53 τ53 gsτ53 hl54 ⟨rfl, rfl⟩
   refine o_pick rfl rfl rfl rfl rfl ?_
   refine o_mif rfl rfl rfl rfl h (fun h => ?_) (fun h => ?_)
   ·refine o_move rfl rfl rfl rfl ?_
    refine o_litE (eI .u8) [6, 2, 0, 0, 0, 0, 11] rfl rfl rfl z_slT42 z_zero5 ⟨rfl, ⟨_, rfl, rfl⟩, ⟨rfl, ⟨_, rfl, rfl⟩, ⟨rfl, ⟨_, rfl, rfl⟩, ⟨rfl, ⟨_, rfl, rfl⟩, ⟨rfl, ⟨_, rfl, rfl⟩, ⟨rfl, ⟨_, rfl, rfl⟩, ⟨rfl, ⟨_, rfl, rfl⟩, trivial⟩⟩⟩⟩⟩⟩⟩ rfl rfl rfl rfl (fun v55 g56 ho57 => ?_)
    obtain ⟨r62, hr63, h⟩ := h
    refine st_freeze (fun τ58 hl59 hg60 => ?_)
    have hs61 := ho57.freeze hl59 hg60
    refine st_call (foot := []) rfl rfl rfl rfl rfl rfl (callV_fn z_en11 (ref01_Same_ok hr63 τ58 (hs42.up ((hl48.trans hl54).trans hl59)) hs61)) ?_
    rintro vτ64 τ64 gsτ64 hl65 ⟨rfl, rfl⟩
    refine Z 3 rfl ?_
    exact hk43 _ _ _ ⟨r62, h, (((hl48.trans hl54).trans hl59).trans hl65), rfl, rfl⟩
   ·refine Z 6 rfl ?_
    exact hk43 _ _ _ ⟨false, h, (hl48.trans hl54), rfl, rfl⟩
  ·refine Z 11 rfl ?_
   exact hk43 _ _ _ ⟨false, h, (Sto.Le.refl _), rfl, rfl⟩
 ·refine Z 15 rfl ?_
  exact hk43 _ _ _ ⟨false, h, (Sto.Le.refl _), rfl, rfl⟩
theorem lens_New_ok {a0 : List Int} {v1 : Value} {r : (List Int × Int × Int)} (h : lens_New a0 r) (σ : Sto) (hs2 : Sl (kI .u8) σ v1 a0) :
    Does Tryz.prog 59 [v1] σ [] (fun v τ gs => ∃ (b15 : Nat) (v16 : Value), gs = [[(b15, .cells [v16, .I r.2.1, .I r.2.2].toArray 137 (0, 0))]] ∧ .Pb b15 = v ∧ Sl (kI .u8) τ v16 r.1) := by
 refine call_of Tryz.func59 Tryz.ntmps59 rfl rfl (fun cs fs => ?_)
 refine Z 7 rfl ?_
 obtain ⟨hf6, hf7, h⟩ := h
 refine st_addNil ?_
 refine o_append (dk := (kI .u8)) (xs := ([] : List Int)) (ys := a0) rfl rfl rfl rfl z_slT42 rfl Ow.nil rfl (Sl.src hs2) hf6 hf7 (fun v3 g4 ho5 => ?_)
 refine o_build (ps := [(0, [v3])]) (cs := [v3, .I 0, .I 0]) rfl rfl rfl z_struct137 ⟨rfl, ⟨_, rfl, (oneL_ow ho5)⟩, trivial⟩ rfl ?_
 refine o_box (cs := [v3, .I 0, .I 0]) rfl rfl rfl rfl rfl (fun b8 => ?_)
 refine Z 2 rfl ?_
 refine st_ord [1, 0] _ rfl ?_
 refine st_freeze (fun τ9 hl10 hg11 => ?_)
 have hs12 := ho5.freeze hl10 hg11
 obtain rfl := Eq.symm h
 exact st_ret (gs' := [[(b8, .cells #[v3, .I 0, .I 0] 137 (0, 0))]]) Tryz.func59 rfl (List.Sublist.refl _) hl10 ⟨_, _, rfl, rfl, hs12⟩
theorem lens_Lens_left_ok {a0 : List Int × Int × Int} {ba0 : Nat} {v1 : Value} {r : List Int} (h : lens_Lens_left a0 r) (σ : Sto) (hs2 : Sl (kI .u8) σ v1 a0.1) :
    Does Tryz.prog 76 [.Pb ba0] σ [[(ba0, .cells [v1, .I a0.2.1, .I a0.2.2].toArray 137 (0, 0))]] (fun v τ gs => ∃ (v11 : Value), gs = [[(ba0, .cells [v1, .I a0.2.1, .I a0.2.2].toArray 137 (0, 0))]] ∧ v11 = v ∧ Sl (kI .u8) τ v11 r) := by
 refine call_of Tryz.func76 Tryz.ntmps76 rfl rfl (fun cs fs => ?_)
 refine Z 5 rfl ?_
 obtain ⟨hf3, hf4, hf5, hf6, hf7, h⟩ := h
 refine st_draw 19 (dl [.v (.Pb ba0), .v (.Pb ba0), .v (.Pb ba0), .v (v1), .v (.Pb ba0), .v (.Pb ba0), .v (.pointer (some ⟨ba0, 1, none⟩)), .v (.I a0.2.1), .v (.Pb ba0), .v (.Pb ba0), .v (.Pb ba0), .v (v1), .v (.I (a0.1.length : Int)), .v (.Pb ba0), .v (.Pb ba0), .v (.Pb ba0), .v (v1), .v (.I (a0.1.length : Int)), .t fun τ v => ∃ (v8 : Value), (v8 : Value) = v ∧ Sl (kI .u8) τ v8 ((a0.1.drop a0.2.1.toNat).take (((a0.1.length : Int) : Int) - a0.2.1).toNat)]) (fun _ _ => []) z_mix rfl (dl_mono ⟨fun _ _ _ hl ⟨v8, hv, hs9⟩ => ⟨v8, hv, hs9.up hl⟩, trivial⟩) (allB_cons (allB_cons (allB_cons (allB_cons (allB_cons (allB_cons (allB_cons (allB_cons (allB_cons (allB_cons (allB_cons (allB_cons (allB_cons (allB_cons (allB_cons (allB_cons (allB_cons (allB_cons (allB_cons allB_nil (p1 dA)) (p1 dA)) (p1 dA)) ?_) (p1 dA)) (p1 dA)) (p1 dA)) ?_) (p1 dA)) (p1 dA)) (p1 dA)) ?_) ?_) (p1 dA)) (p1 dA)) (p1 dA)) ?_) ?_) ?_) ?_
 ·intro ρ' τ pool rs hl hd hout hk
  obtain ⟨_, e2, rfl⟩ := hd 2 rfl
  refine o_load (j := 0) (v := v1) rfl rfl rfl z_sc42 e2 rfl rfl ?_
  exact st_addNil (hk _ _ (Sto.Le.refl _) rfl)
 ·intro ρ' τ pool rs hl hd hout hk
  obtain ⟨_, e6, rfl⟩ := hd 6 rfl
  refine o_load (j := 0) (v := .I a0.2.1) rfl rfl rfl z_sc3 e6 rfl rfl ?_
  exact st_addNil (hk _ _ (Sto.Le.refl _) rfl)
 ·intro ρ' τ pool rs hl hd hout hk
  obtain ⟨_, e10, rfl⟩ := hd 10 rfl
  refine o_load (j := 0) (v := v1) rfl rfl rfl z_sc42 e10 rfl rfl ?_
  exact st_addNil (hk _ _ (Sto.Le.refl _) rfl)
 ·intro ρ' τ pool rs hl hd hout hk
  obtain ⟨_, e11, rfl⟩ := hd 11 rfl
  refine o_lenI rfl rfl rfl z_slT42 e11 (hs2.up hl) ?_
  exact st_addNil (hk _ _ (Sto.Le.refl _) rfl)
 ·intro ρ' τ pool rs hl hd hout hk
  obtain ⟨_, e15, rfl⟩ := hd 15 rfl
  refine o_load (j := 0) (v := v1) rfl rfl rfl z_sc42 e15 rfl rfl ?_
  exact st_addNil (hk _ _ (Sto.Le.refl _) rfl)
 ·intro ρ' τ pool rs hl hd hout hk
  obtain ⟨_, e16, rfl⟩ := hd 16 rfl
  refine o_lenI rfl rfl rfl z_slT42 e16 (hs2.up hl) ?_
  exact st_addNil (hk _ _ (Sto.Le.refl _) rfl)
 ·intro ρ' τ pool rs hl hd hout hk
  obtain ⟨_, e3, rfl⟩ := hd 3 rfl
  obtain ⟨_, e7, rfl⟩ := hd 7 rfl
  obtain ⟨_, e12, rfl⟩ := hd 12 rfl
  obtain ⟨_, e17, rfl⟩ := hd 17 rfl
  refine o_slice (L := a0.2.1) (H := (a0.1.length : Int)) rfl rfl rfl z_slT42 rfl e3 (hs2.up hl) ⟨_, e7⟩ ⟨_, e12⟩ hf3 hf4 hf5 ⟨_, _, e17, hf6, hf7⟩ (by simp) (fun v8 hs9 => ?_)
  exact st_addNil (hk _ _ (Sto.Le.refl _) ⟨v8, rfl, hs9⟩)
 intro ρ' τ10 vals hl10 hv hout
 obtain ⟨l18, v8, t18, hs9⟩ := hv 18 (by decide)
 replace l18 : Eng.look ρ' 21 = some (v8) := l18.trans (congrArg some (Eq.symm t18))
 refine st_ord [0] _ rfl ?_
 refine st_env (ρ' := [(21, v8), (2, .N0)]) ⟨l18, (hout 2 rfl).trans rfl, trivial⟩ ?_
 refine Z 2 rfl ?_
 obtain rfl := Eq.symm h
 exact st_ret (gs' := [[(ba0, .cells #[v1, .I a0.2.1, .I a0.2.2] 137 (0, 0))]]) Tryz.func76 rfl (List.Sublist.refl _) hl10 ⟨_, rfl, rfl, hs9⟩
theorem lens_Lens_Left_ok {a0 : List Int × Int × Int} {ba0 : Nat} {v1 : Value} {r : Int} (h : lens_Lens_Left a0 r) (σ : Sto) (hs2 : Sl (kI .u8) σ v1 a0.1) :
    Does Tryz.prog 60 [.Pb ba0] σ [[(ba0, .cells [v1, .I a0.2.1, .I a0.2.2].toArray 137 (0, 0))]] (fun v τ gs => gs = [[(ba0, .cells [v1, .I a0.2.1, .I a0.2.2].toArray 137 (0, 0))]] ∧ .I r = v) := by
 refine call_of Tryz.func60 Tryz.ntmps60 rfl rfl (fun cs fs => ?_)
 refine Z 15 rfl ?_
 obtain ⟨r3, hr4, h⟩ := h
 refine st_call (foot := [[(ba0, .cells #[v1, .I a0.2.1, .I a0.2.2] 137 (0, 0))]]) rfl rfl rfl rfl rfl rfl (callV_fn z_en76 (lens_Lens_left_ok hr4 σ hs2)) ?_
 rintro vτ5 τ5 gsτ5 hl6 ⟨v7, rfl, rfl, hs8⟩
 refine o_lenI rfl rfl rfl z_slT42 rfl hs8 ?_
 refine Z 2 rfl ?_
 obtain rfl := Eq.symm h
 exact st_ret (gs' := [[(ba0, .cells #[v1, .I a0.2.1, .I a0.2.2] 137 (0, 0))]]) Tryz.func60 rfl (List.Sublist.refl _) hl6 ⟨rfl, rfl⟩
theorem lens_Lens_Place_ok {a0 : List Int × Int × Int} {ba0 : Nat} {v1 : Value} {r : Int} (h : lens_Lens_Place a0 r) (σ : Sto) (hs2 : Sl (kI .u8) σ v1 a0.1) :
    Does Tryz.prog 61 [.Pb ba0] σ [[(ba0, .cells [v1, .I a0.2.1, .I a0.2.2].toArray 137 (0, 0))]] (fun v τ gs => gs = [[(ba0, .cells [v1, .I a0.2.1, .I a0.2.2].toArray 137 (0, 0))]] ∧ .I r = v) := by
 refine call_of Tryz.func61 Tryz.ntmps61 rfl rfl (fun cs fs => ?_)
 refine ZZ 20 [0] rfl rfl ?_
 obtain rfl := Eq.symm h
 exact st_ret (gs' := [[(ba0, .cells #[v1, .I a0.2.1, .I a0.2.2] 137 (0, 0))]]) Tryz.func61 rfl (List.Sublist.refl _) (Sto.Le.refl _) ⟨rfl, rfl⟩
end Go.Rel
