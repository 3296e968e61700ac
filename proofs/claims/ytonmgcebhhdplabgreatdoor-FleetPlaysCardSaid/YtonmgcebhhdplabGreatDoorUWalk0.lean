import Derived.Test.YtonmgcebhhdplabGreatDoorURel
import Derived.Test.YtonmgcebhhdplabGreatDoorUFacts
import Derived.Test.YtonmgcebhhdplabGreatDoorEngO
/-! The walks. -/
set_option linter.unusedVariables false
set_option linter.unusedSimpArgs false
set_option maxRecDepth 4000
set_option maxHeartbeats 4000000
namespace Go.Rel
open Go Go.Eng Go.Proofs Go.Proofs.Tryz
open Go.IntKind (i64 u8 u16 u32 u64)
theorem fleet_New_ok  {r : (List (Int × (Int × Int × Int × Int × Int × Bool × Bool × Int × Int × List (Int × Int) × Int × Int)) × List ((Int × Int) × List Int))} (h : fleet_New r) (σ : Sto)  :
    Does prog 5 [] σ [] (fun v τ gs => ∃ (b8 : Nat) (v9 : Value) (g10 : Grp) (v11 : Value) (g12 : Grp), gs = [[(b8, .cells [v9, v11].toArray 76 (0, 0))], g10, g12] ∧ .Pb b8 = v ∧ Mp (Value.int .i64) (rK (kP (kI .i64) (kP (kI .i64) (kP (kI .i64) (kP (kI .i64) (kP (kI .i64) (kP kB (kP kB (kP (kI .i64) (kP (kI .i64) (kP (kSl (kP (kI .i64) (kI .i64))) (kP (kI .i64) (kI .i64))))))))))))) τ v9 r.1 g10 ∧ Mp kPr (rSl (kI .i64)) τ v11 r.2 g12) := by
 refine CO func5 ntmps5 rfl (fun cs fs => Z 6 ?_)
 refine o_makeMap (fk := (Value.int .i64)) (rv := (rK (kP (kI .i64) (kP (kI .i64) (kP (kI .i64) (kP (kI .i64) (kP (kI .i64) (kP kB (kP kB (kP (kI .i64) (kP (kI .i64) (kP (kSl (kP (kI .i64) (kI .i64))) (kP (kI .i64) (kI .i64)))))))))))))) rfl rfl rfl (fun v1 g2 ho3 => ?_)
 refine o_makeMap (fk := kPr) (rv := (rSl (kI .i64))) rfl rfl rfl (fun v4 g5 ho6 => ?_)
 refine o_build (ps := [(0, [v1]), (1, [v4])]) rfl rfl rfl z_struct76 ⟨rfl, ⟨_, rfl, (oneL_mp ho3)⟩, ⟨rfl, ⟨_, rfl, (oneL_mp ho6)⟩, trivial⟩⟩ rfl ?_
 refine o_box (cs := [v1, v4]) rfl rfl rfl rfl rfl (fun b7 => Z 2 ?_)
 refine st_ord [0, 1, 0] _ rfl ?_
 obtain rfl := Eq.symm h
 exact st_ret (gs' := [[(b7, .cells #[v1, v4] 76 (0, 0))], g2, g5]) func5 rfl (List.Sublist.refl _) LR ⟨_, _, _, _, _, rfl, rfl, ho3, ho6⟩
theorem law17_Cut_ok {a0 : TyM} {v1 v2 : Value} {r : (TyM)} (h : law17_Cut a0 r) (σ : Sto) (hs3 : Sl (kP (kI .i64) (kI .i64)) σ v1 a0.2.2.1) (hs4 : Sl (kI .i64) σ v2 a0.2.2.2.1) :
    Does prog 6 [.agg (lM a0 v1 v2).toArray] σ [] (fun v τ gs => ∃ (v23 v24 : Value), gs = [] ∧ .agg (lM r v23 v24).toArray = v ∧ Sl (kP (kI .i64) (kI .i64)) τ v23 r.2.2.1 ∧ Sl (kI .i64) τ v24 r.2.2.2.1) := by
 refine CO func6 ntmps6 rfl (fun cs fs => Z 2 ?_)
 refine o_box (cs := (lM a0 v1 v2)) rfl rfl rfl rfl rfl (fun b5 => ?_)
 refine o_alloc rfl rfl rfl z_zero33 (fun b6 => Z 2 ?_)
 obtain ⟨hf7, hf8, hf11, hf12, h⟩ := h
 refine st_d41 [[(b6, .cells lY.toArray 33 (0, 0))]] [[(b5, .cells (lM a0 v1 v2).toArray 33 (0, 0))]] 16 1 [none, none, none, none, none, none, none, none, none, none, none, none, none, none, none, some (0, 0)] [none, some (0, 0), none, some (0, 0), none, none, none, none, some (0, 0), none, some (0, 0), none, none, none, none, none] [[none, none]] [.v (.pointer (some ⟨b5, 7, none⟩)), .v (v1), .v (.pointer (some ⟨b5, 7, none⟩)), .v (v1), .v (.I (a0.2.2.1.length : Int)), .v (.I (min (a0.2.2.1.length : Int) 40)), .t fun τ v => ∃ (v9 : Value), (v9 : Value) = v ∧ Sl (kP (kI .i64) (kI .i64)) τ v9 ((a0.2.2.1.drop (0 : Int).toNat).take (((min (a0.2.2.1.length : Int) 40) : Int) - 0).toNat), .v (.pointer (some ⟨b5, 8, none⟩)), .v (v2), .v (.pointer (some ⟨b5, 8, none⟩)), .v (v2), .v (.I (a0.2.2.2.1.length : Int)), .v (.I (min (a0.2.2.2.1.length : Int) 40)), .t fun τ v => ∃ (v13 : Value), (v13 : Value) = v ∧ Sl (kI .i64) τ v13 ((a0.2.2.2.1.drop (0 : Int).toNat).take (((min (a0.2.2.2.1.length : Int) 40) : Int) - 0).toNat), .v (.pointer (some ⟨b5, 7, none⟩)), .t fun _ _ => True] [[fun τ u F => F = [[(b5, .cells (lM a0 v1 v2).toArray 33 (0, 0))]], fun τ u F => ∃ (v15 : Value), F = [[(b5, .cells (lM a0 v15 v2).toArray 33 (0, 0))]] ∧ Sl (kP (kI .i64) (kI .i64)) τ v15 ((a0.2.2.1.drop (0 : Int).toNat).take (((min (a0.2.2.1.length : Int) 40) : Int) - 0).toNat)]] rfl z_mix rfl ⟨fun _ _ _ hl ⟨v9, hv, hs10⟩ => ⟨v9, hv, hs10.up hl⟩, ⟨fun _ _ _ hl ⟨v13, hv, hs14⟩ => ⟨v13, hv, hs14.up hl⟩, ⟨fun _ _ _ _ _ => trivial, trivial⟩⟩⟩ ⟨⟨fun _ _ _ _ hl h => h, ⟨fun _ _ _ _ hl h => (let ⟨v15, hF, hs16⟩ := h; ⟨v15, hF, hs16.up hl⟩), trivial⟩⟩, trivial⟩ rfl rfl ?_ (allB_cons (allB_cons (allB_cons (allB_cons (allB_cons (allB_cons (allB_cons (allB_cons (allB_cons (allB_cons (allB_cons (allB_cons (allB_cons (allB_cons (allB_cons (allB_cons allB_nil (p4 dA)) ?_) (p4 dA)) ?_) ?_) (p4 dA)) ?_) (p4 dA)) ?_) (p4 dA)) ?_) ?_) (p4 dA)) ?_) (p4 dA)) ?_) ?_
 ·exact rfl
 ·intro ρ' τ u Fv pq rs hl hI hu hd hq hw hk
  obtain ⟨_, e0, rfl⟩ := hd 0 rfl _ rfl
  have hI0 := hI
  obtain rfl := hI
  refine o_load (j := 1) (v := v1) rfl rfl rfl z_sc30 e0 rfl rfl ?_
  exact hk _ _ LR rfl
 ·intro ρ' τ u Fv pq rs hl hI hu hd hq hw hk
  obtain ⟨_, e2, rfl⟩ := hd 2 rfl _ rfl
  have hI0 := hI
  obtain rfl := hI
  refine o_load (j := 1) (v := v1) rfl rfl rfl z_sc30 e2 rfl rfl ?_
  exact hk _ _ LR rfl
 ·intro ρ' τ pq rs hl hd hq hw hk
  obtain ⟨_, e3, rfl⟩ := hd 3 rfl _ rfl
  refine o_lenI rfl rfl rfl z_slT30 e3 (hs3.up hl) ?_
  exact hk _ _ LR rfl
 ·intro ρ' τ pq rs hl hd hq hw hk
  obtain ⟨_, e1, rfl⟩ := hd 1 rfl _ rfl
  obtain ⟨_, e5, rfl⟩ := hd 5 rfl _ rfl
  refine o_slice (L := 0) (H := (min (a0.2.2.1.length : Int) 40)) rfl rfl rfl z_slT30 rfl e1 (hs3.up hl) rfl ⟨_, e5⟩ (by decide) hf7 hf8 trivial (by simp) (fun v9 hs10 => ?_)
  exact hk _ _ LR ⟨v9, rfl, hs10⟩
 ·intro ρ' τ u Fv pq rs hl hI hu hd hq hw hk
  obtain ⟨_, e7, rfl⟩ := hd 7 rfl _ rfl
  have hI0 := hI
  obtain rfl := hI
  refine o_load (j := 1) (v := v2) rfl rfl rfl z_sc31 e7 rfl rfl ?_
  exact hk _ _ LR rfl
 ·intro ρ' τ u Fv pq rs hl hI hu hd hq hw hk
  obtain ⟨_, e9, rfl⟩ := hd 9 rfl _ rfl
  have hI0 := hI
  obtain rfl := hI
  refine o_load (j := 1) (v := v2) rfl rfl rfl z_sc31 e9 rfl rfl ?_
  exact hk _ _ LR rfl
 ·intro ρ' τ pq rs hl hd hq hw hk
  obtain ⟨_, e10, rfl⟩ := hd 10 rfl _ rfl
  refine o_lenI rfl rfl rfl z_slT31 e10 (hs4.up hl) ?_
  exact hk _ _ LR rfl
 ·intro ρ' τ pq rs hl hd hq hw hk
  obtain ⟨_, e8, rfl⟩ := hd 8 rfl _ rfl
  obtain ⟨_, e12, rfl⟩ := hd 12 rfl _ rfl
  refine o_slice (L := 0) (H := (min (a0.2.2.2.1.length : Int) 40)) rfl rfl rfl z_slT31 rfl e8 (hs4.up hl) rfl ⟨_, e12⟩ (by decide) hf11 hf12 trivial (by simp) (fun v13 hs14 => ?_)
  exact hk _ _ LR ⟨v13, rfl, hs14⟩
 ·intro ρ' τ u Fv pq rs hl hI hu hd hq hw hk
  obtain ⟨_, e6, v9, rfl, hs10⟩ := hd 6 rfl _ rfl
  obtain ⟨_, e14, rfl⟩ := hd 14 rfl _ rfl
  have hI0 := hI
  obtain rfl := hI
  refine o_store (j := 1) (vs := [v9]) (cs' := (lM a0 v9 v2)) rfl rfl rfl z_size30 e14 e6 (oneL_sl hs10) (ones_cons hs10.one' ones_nil) rfl rfl rfl ?_
  exact hk _ _ [[(b5, .cells (lM a0 v9 v2).toArray 33 (0, 0))]] LR trivial (by exact ⟨v9, rfl, hs10⟩)
 intro ρ' τ17 vals u Fv hl17 hI hu hv hq
 obtain ⟨l13, v13, t13, hs14⟩ := hv 13 (by decide)
 replace l13 := l13 _ rfl
 replace l13 : Eng.look ρ' 16 = some (v13) := l13.trans (congrArg some (Eq.symm t13))
 obtain ⟨v15, rfl, hs16⟩ := hI
 refine st_env (ρ' := [(16, v13), (1, .Pb b5), (2, .Pb b6)]) ⟨l13, oT hq 1, oT hq 2, trivial⟩ ?_
 refine o_fieldAddr rfl rfl rfl z_field33_3 rfl ?_
 refine o_store (j := 1) (vs := [v13]) (cs' := (lM a0 v15 v13)) rfl rfl rfl z_size31 rfl rfl (oneL_sl hs14) (ones_cons hs14.one' ones_nil) rfl rfl rfl (Z 2 ?_)
 obtain ⟨hf18, hf19, hf20, hf21, h⟩ := h
 refine st_d41 [[(b6, .cells lY.toArray 33 (0, 0))]] [[(b5, .cells (lM a0 v15 v13).toArray 33 (0, 0))]] 16 1 [none, none, none, none, none, none, none, none, none, none, none, none, none, none, none, some (0, 0)] [none, some (0, 0), none, some (0, 0), none, none, none, none, some (0, 0), none, some (0, 0), none, none, none, none, none] [[none, none]] [.v (.pointer (some ⟨b5, 9, none⟩)), .v (.string a0.t4.1), .v (.pointer (some ⟨b5, 9, none⟩)), .v (.string a0.t4.1), .v (.I (a0.t4.1.size : Int)), .v (.I (min (a0.t4.1.size : Int) 80)), .v (.string (a0.t4.1.extract 0 (min (a0.t4.1.size : Int) 80).toNat)), .v (.pointer (some ⟨b5, 10, none⟩)), .v (.string a0.t4.2), .v (.pointer (some ⟨b5, 10, none⟩)), .v (.string a0.t4.2), .v (.I (a0.t4.2.size : Int)), .v (.I (min (a0.t4.2.size : Int) 80)), .v (.string (a0.t4.2.extract 0 (min (a0.t4.2.size : Int) 80).toNat)), .v (.pointer (some ⟨b5, 9, none⟩)), .t fun _ _ => True] [[fun τ u F => F = [[(b5, .cells (lM a0 v15 v13).toArray 33 (0, 0))]], fun τ u F => F = [[(b5, .cells #[.I a0.1, .I (a0.2.1.getD 0 0), .I (a0.2.1.getD 1 0), .I (a0.2.1.getD 2 0), .I (a0.2.1.getD 3 0), .I (a0.2.1.getD 4 0), .I (a0.2.1.getD 5 0), v15, v13, .string (a0.t4.1.extract 0 (min (a0.t4.1.size : Int) 80).toNat), .string a0.t4.2] 33 (0, 0))]]]] rfl z_mix rfl ⟨fun _ _ _ _ _ => trivial, trivial⟩ ⟨⟨fun _ _ _ _ hl h => h, ⟨fun _ _ _ _ hl h => h, trivial⟩⟩, trivial⟩ rfl rfl ?_ (allB_cons (allB_cons (allB_cons (allB_cons (allB_cons (allB_cons (allB_cons (allB_cons (allB_cons (allB_cons (allB_cons (allB_cons (allB_cons (allB_cons (allB_cons (allB_cons allB_nil (p4 dA)) ?_) (p4 dA)) ?_) (p4 dA)) (p4 dA)) ?_) (p4 dA)) ?_) (p4 dA)) ?_) (p4 dA)) (p4 dA)) ?_) (p4 dA)) ?_) ?_
 ·exact rfl
 ·intro ρ' τ u Fv pq rs hl hI hu hd hq hw hk
  obtain ⟨_, e0, rfl⟩ := hd 0 rfl _ rfl
  have hI0 := hI
  obtain rfl := hI
  refine o_load (j := 1) (v := .string a0.t4.1) rfl rfl rfl z_sc9 e0 rfl rfl ?_
  exact hk _ _ LR rfl
 ·intro ρ' τ u Fv pq rs hl hI hu hd hq hw hk
  obtain ⟨_, e2, rfl⟩ := hd 2 rfl _ rfl
  have hI0 := hI
  obtain rfl := hI
  refine o_load (j := 1) (v := .string a0.t4.1) rfl rfl rfl z_sc9 e2 rfl rfl ?_
  exact hk _ _ LR rfl
 ·intro ρ' τ pq rs hl hd hq hw hk
  obtain ⟨_, e1, rfl⟩ := hd 1 rfl _ rfl
  obtain ⟨_, e5, rfl⟩ := hd 5 rfl _ rfl
  refine o_sliceSh rfl rfl rfl underlying9 e1 e5 hf18 hf19 ?_
  exact hk _ _ LR rfl
 ·intro ρ' τ u Fv pq rs hl hI hu hd hq hw hk
  obtain ⟨_, e7, rfl⟩ := hd 7 rfl _ rfl
  have hI0 := hI
  obtain rfl := hI
  refine o_load (j := 1) (v := .string a0.t4.2) rfl rfl rfl z_sc9 e7 rfl rfl ?_
  exact hk _ _ LR rfl
 ·intro ρ' τ u Fv pq rs hl hI hu hd hq hw hk
  obtain ⟨_, e9, rfl⟩ := hd 9 rfl _ rfl
  have hI0 := hI
  obtain rfl := hI
  refine o_load (j := 1) (v := .string a0.t4.2) rfl rfl rfl z_sc9 e9 rfl rfl ?_
  exact hk _ _ LR rfl
 ·intro ρ' τ pq rs hl hd hq hw hk
  obtain ⟨_, e8, rfl⟩ := hd 8 rfl _ rfl
  obtain ⟨_, e12, rfl⟩ := hd 12 rfl _ rfl
  refine o_sliceSh rfl rfl rfl underlying9 e8 e12 hf20 hf21 ?_
  exact hk _ _ LR rfl
 ·intro ρ' τ u Fv pq rs hl hI hu hd hq hw hk
  obtain ⟨_, e6, rfl⟩ := hd 6 rfl _ rfl
  obtain ⟨_, e14, rfl⟩ := hd 14 rfl _ rfl
  have hI0 := hI
  obtain rfl := hI
  refine o_store (j := 1) (vs := [.string (a0.t4.1.extract 0 (min (a0.t4.1.size : Int) 80).toNat)]) (cs' := [.I a0.1, .I (a0.2.1.getD 0 0), .I (a0.2.1.getD 1 0), .I (a0.2.1.getD 2 0), .I (a0.2.1.getD 3 0), .I (a0.2.1.getD 4 0), .I (a0.2.1.getD 5 0), v15, v13, .string (a0.t4.1.extract 0 (min (a0.t4.1.size : Int) 80).toNat), .string a0.t4.2]) rfl rfl rfl z_size9 e14 e6 rfl (ones_cons rfl ones_nil) rfl rfl rfl ?_
  exact hk _ _ [[(b5, .cells #[.I a0.1, .I (a0.2.1.getD 0 0), .I (a0.2.1.getD 1 0), .I (a0.2.1.getD 2 0), .I (a0.2.1.getD 3 0), .I (a0.2.1.getD 4 0), .I (a0.2.1.getD 5 0), v15, v13, .string (a0.t4.1.extract 0 (min (a0.t4.1.size : Int) 80).toNat), .string a0.t4.2] 33 (0, 0))]] LR trivial (by exact rfl)
 intro ρ' τ22 vals u Fv hl22 hI hu hv hq
 obtain rfl := hI
 refine st_env (ρ' := [(32, .string (a0.t4.2.extract 0 (min (a0.t4.2.size : Int) 80).toNat)), (1, .Pb b5), (2, .Pb b6)]) ⟨(lv4 hv 13 rfl rfl rfl), oT hq 1, oT hq 2, trivial⟩ (ZZ 6 [1, 1] ?_)
 refine o_store (j := 0) (vs := [.I a0.1, .I (a0.2.1.getD 0 0), .I (a0.2.1.getD 1 0), .I (a0.2.1.getD 2 0), .I (a0.2.1.getD 3 0), .I (a0.2.1.getD 4 0), .I (a0.2.1.getD 5 0), v15, v13, .string (a0.t4.1.extract 0 (min (a0.t4.1.size : Int) 80).toNat), .string (a0.t4.2.extract 0 (min (a0.t4.2.size : Int) 80).toNat)]) (cs' := [.I a0.1, .I (a0.2.1.getD 0 0), .I (a0.2.1.getD 1 0), .I (a0.2.1.getD 2 0), .I (a0.2.1.getD 3 0), .I (a0.2.1.getD 4 0), .I (a0.2.1.getD 5 0), v15, v13, .string (a0.t4.1.extract 0 (min (a0.t4.1.size : Int) 80).toNat), .string (a0.t4.2.extract 0 (min (a0.t4.2.size : Int) 80).toNat)]) rfl rfl rfl z_size33 rfl rfl rfl (o4 (ones_cons rfl (ones_cons rfl (ones_cons rfl (ones_cons (hs16.up hl22).one' (ones_cons (hs14.up hl22).one' (ones_cons rfl (ones_cons rfl ones_nil)))))))) rfl rfl rfl ?_
 refine st_end ?_
 obtain rfl := h.symm
 exact RC [.agg #[.I a0.1, .I (a0.2.1.getD 0 0), .I (a0.2.1.getD 1 0), .I (a0.2.1.getD 2 0), .I (a0.2.1.getD 3 0), .I (a0.2.1.getD 4 0), .I (a0.2.1.getD 5 0), v15, v13, .string (a0.t4.1.extract 0 (min (a0.t4.1.size : Int) 80).toNat), .string (a0.t4.2.extract 0 (min (a0.t4.2.size : Int) 80).toNat)]] func6 ⟨cN 0 z_agg33, trivial⟩ (hl17.trans hl22) ⟨_, _, rfl, rfl, (hs16.up hl22), (hs14.up hl22)⟩
theorem law17_Of_ok {a0 : TyM} {v1 v2 : Value} {r : (TyR)} (h : law17_Of a0 r) (σ : Sto) (hs3 : Sl (kP (kI .i64) (kI .i64)) σ v1 a0.2.2.1) (hs4 : Sl (kI .i64) σ v2 a0.2.2.2.1) :
    Does prog 8 [.agg (lM a0 v1 v2).toArray] σ [] (fun v τ gs => ∃ (v49 v50 : Value), gs = [] ∧ .agg (lM r v49 v50).toArray = v ∧ Sl (kA .i64 2) τ v49 r.2.2.1 ∧ Sl (kI .i64) τ v50 r.2.2.2.1) := by
 refine CO func8 ntmps8 rfl (fun cs fs => Z 2 ?_)
 refine o_box (cs := (lM a0 v1 v2)) rfl rfl rfl rfl rfl (fun b5 => ?_)
 refine o_alloc rfl rfl rfl z_zero41 (fun b6 => ZZ 13 [1, 1, 1, 1, 1] ?_)
 refine o_build (ps := [(0, [.I a0.1]), (1, [.I (a0.2.1.getD 0 0), .I (a0.2.1.getD 1 0), .I (a0.2.1.getD 2 0), .I (a0.2.1.getD 3 0), .I (a0.2.1.getD 4 0), .I (a0.2.1.getD 5 0)]), (3, [v2]), (4, [.string a0.t4.1]), (5, [.string a0.t4.2])]) rfl rfl rfl z_struct41 ⟨rfl, ⟨_, rfl, rfl⟩, ⟨rfl, ⟨_, rfl, rfl⟩, ⟨rfl, ⟨_, rfl, (oneL_sl hs4)⟩, ⟨rfl, ⟨_, rfl, rfl⟩, ⟨rfl, ⟨_, rfl, rfl⟩, trivial⟩⟩⟩⟩⟩ rfl ?_
 refine o_alloc rfl rfl rfl z_zero41 (fun b7 => ?_)
 refine o_store (j := 0) (vs := (lM a0 .N0 v2)) (cs' := (lM a0 .N0 v2)) rfl rfl rfl z_size41 rfl rfl rfl (o4 (o4 (ones_cons hs4.one' (ones_cons rfl (ones_cons rfl ones_nil))))) rfl rfl rfl (Z 2 ?_)
 refine st_cut (fun ρ τ8 gs => ∃ (s8 : K29) (v9 : Value) (g10 : Grp), law17_Of_j1 a0 s8 r ∧ σ.Le τ8 ∧ ESub ρ [(2, .Pb b6), (3, .Pb b7)] ∧ gs = [[(b6, .cells lY.toArray 41 (0, 0))], [(b7, .cells (lM a0 v9 v2).toArray 41 (0, 0))], g10] ∧ Ow (kA .i64 2) 83 τ8 v9 s8 g10) ?_ (fun hk8 => ?_)
 ·rintro ρ8 τ8 gs8 ⟨s8, v9, g10, h, hl8, hρ, rfl, ho11⟩
  refine st_es hρ (ZZ 3 [1] ?_)
  refine o_store (j := 0) (vs := (lM a0 v9 v2)) (cs' := (lM a0 v9 v2)) rfl rfl rfl z_size41 rfl rfl rfl (o4 (ones_cons rfl (ones_cons rfl (ones_cons rfl (ones_cons ho11.one' (ones_cons (hs4.up hl8).one' (ones_cons rfl (ones_cons rfl ones_nil)))))))) rfl rfl rfl ?_
  refine st_end ?_
  refine st_ord [2, 0, 0] _ rfl ?_
  refine st_freeze (fun τ12 hl13 hg14 => ?_)
  have hs15 := ho11.freeze hl13 hg14
  obtain rfl := h.symm
  exact RC [.agg (lM a0 v9 v2).toArray] func8 ⟨cN 0 z_agg41, trivial⟩ (hl8.trans hl13) ⟨_, _, rfl, rfl, hs15, (hs4.up (hl8.trans hl13))⟩
 refine Z 4 ?_
 obtain ⟨e18, hL18, hA18⟩ := h
 refine st_addNil ?_
 refine st_ord [3, 2, 1, 0] _ rfl ?_
 refine st_loop hL18 (fun (s18 : Int × List (List Int)) ρ τ18 gs => σ.Le τ18 ∧ ∃ (v19 : Value) (g20 : Grp), ESub ρ [(1, .Pb b5), (2, .Pb b6), (3, .Pb b7), (4, .I s18.1)] ∧ gs = [[(b5, .cells (lM a0 v1 v2).toArray 33 (0, 0))], [(b6, .cells lY.toArray 41 (0, 0))], [(b7, .cells (lM a0 v19 v2).toArray 41 (0, 0))], g20] ∧ Ow (kA .i64 2) 83 τ18 v19 s18.2 g20) ⟨LR, _, _, rfl, rfl, Ow.nil⟩ ?_
 rintro s18 o18 h he18 ρ18 τ18 gs18 ⟨hl18, v19, g20, hρ, rfl, ho21⟩ hn18
 refine st_es hρ (ZZ 6 [0] ?_)
 refine o_lenI rfl rfl rfl z_slT30 rfl (hs3.up hl18) (Z 2 ?_)
 refine I2 h (fun h => ?_) (fun h => ?_)
 ·refine Z 3 ?_
  obtain ⟨q22, hf23, q27, hf28, hf42, hf43, h⟩ := h
  refine st_d41 [[(b5, .cells (lM a0 v1 v2).toArray 33 (0, 0))], [(b6, .cells lY.toArray 41 (0, 0))]] [[(b7, .cells (lM a0 v19 v2).toArray 41 (0, 0))], g20] 17 2 [none, some (0, 0), none, none, none, none, none, none, none, none, none, none, none, none, none, none, some (0, 1)] [none, none, none, none, none, none, none, none, none, none, none, none, none, none, none, none, none] [[none, some 24, some 39]] [.v (.pointer (some ⟨b7, 7, none⟩)), .v (v19), .v (.pointer (some ⟨b5, 7, none⟩)), .v (v1), .v (.I s18.1), .t fun τ v => ∃ (b24 of25 : Nat) (vsb24 : K4), (.pointer (some ⟨b24, of25, none⟩) : Value) = v ∧ CelN τ ⟨b24, of25, none⟩ vsb24 ∧ (kP (kI .i64) (kI .i64)).rep τ vsb24 q22, .t fun τ v => ∃ (b24 of25 : Nat) (vsb24 : K4), (.pointer (some ⟨b24, of25, none⟩) : Value) = v ∧ CelN τ ⟨b24, of25, none⟩ vsb24 ∧ (kP (kI .i64) (kI .i64)).rep τ vsb24 q22, .v (.I q22.1), .v (.pointer (some ⟨b5, 7, none⟩)), .v (v1), .v (.I s18.1), .t fun τ v => ∃ (b29 of30 : Nat) (vsb29 : K4), (.pointer (some ⟨b29, of30, none⟩) : Value) = v ∧ CelN τ ⟨b29, of30, none⟩ vsb29 ∧ (kP (kI .i64) (kI .i64)).rep τ vsb29 q27, .t fun τ v => ∃ (b29 of30 : Nat) (vsb29 : K4), (.pointer (some ⟨b29, of30 + 1, none⟩) : Value) = v ∧ CelN τ ⟨b29, of30, none⟩ vsb29 ∧ (kP (kI .i64) (kI .i64)).rep τ vsb29 q27, .v (.I q27.2), .v (.agg #[.I q22.1, .I q27.2]), .t fun τ v => ∃ (v32 : Value), (v32 : Value) = v ∧ Sl (kA .i64 2) τ v32 [[q22.1, q27.2]], .t fun _ _ => True] [[fun τ u F => F = [[(b7, .cells (lM a0 v19 v2).toArray 41 (0, 0))], g20], fun τ u F => F = [[(b7, .cells (lM a0 v19 v2).toArray 41 (0, 0))], g20], fun τ u F => ∃ (v44 : Value) (g45 : Grp), F = [g45, [(b7, .cells (lM a0 v19 v2).toArray 41 (0, 0))]] ∧ v44 = u ∧ Ow (kA .i64 2) 83 τ v44 (s18.2 ++ [[q22.1, q27.2]]) g45]] rfl z_mix rfl ⟨fun _ _ _ hl ⟨b24, of25, vsb24, hv, hc26, hrepb24⟩ => ⟨b24, of25, vsb24, hv, hc26.up hl, Kd.mono _ hl hrepb24⟩, ⟨fun _ _ _ hl ⟨b24, of25, vsb24, hv, hc26, hrepb24⟩ => ⟨b24, of25, vsb24, hv, hc26.up hl, Kd.mono _ hl hrepb24⟩, ⟨fun _ _ _ hl ⟨b29, of30, vsb29, hv, hc31, hrepb29⟩ => ⟨b29, of30, vsb29, hv, hc31.up hl, Kd.mono _ hl hrepb29⟩, ⟨fun _ _ _ hl ⟨b29, of30, vsb29, hv, hc31, hrepb29⟩ => ⟨b29, of30, vsb29, hv, hc31.up hl, Kd.mono _ hl hrepb29⟩, ⟨fun _ _ _ hl ⟨v32, hv, hs38⟩ => ⟨v32, hv, hs38.up hl⟩, ⟨fun _ _ _ _ _ => trivial, trivial⟩⟩⟩⟩⟩⟩ ⟨⟨fun _ _ _ _ hl h => h, ⟨fun _ _ _ _ hl h => h, ⟨fun _ _ _ _ hl h => (let ⟨v44, g45, hF, hU, ho46⟩ := h; ⟨v44, g45, hF, hU, ho46.up hl⟩), trivial⟩⟩⟩, trivial⟩ rfl rfl ?_ (allB_cons (allB_cons (allB_cons (allB_cons (allB_cons (allB_cons (allB_cons (allB_cons (allB_cons (allB_cons (allB_cons (allB_cons (allB_cons (allB_cons (allB_cons (allB_cons (allB_cons allB_nil (p4 dA)) ?_) (p4 dA)) ?_) (p4 dA)) ?_) ?_) ?_) (p4 dA)) ?_) (p4 dA)) ?_) ?_) ?_) ?_) ?_) ?_) ?_
  ·exact rfl
  ·intro ρ' τ u Fv pq rs hl hI hu hd hq hw hk
   obtain ⟨_, e0, rfl⟩ := hd 0 rfl _ rfl
   have hI0 := hI
   obtain rfl := hI
   refine o_load (j := 2) (v := v19) rfl rfl rfl z_sc39 e0 rfl rfl ?_
   exact hk _ _ [[(b7, .cells (lM a0 v19 v2).toArray 41 (0, 0))], g20] LR rfl (by exact hI0)
  ·intro ρ' τ pq rs hl hd hq hw hk
   obtain ⟨_, e2, rfl⟩ := hd 2 rfl _ rfl
   refine o_load (j := 0) (v := v1) rfl rfl rfl z_sc30 e2 rfl rfl ?_
   exact hk _ _ LR rfl
  ·intro ρ' τ pq rs hl hd hq hw hk
   obtain ⟨_, e3, rfl⟩ := hd 3 rfl _ rfl
   obtain ⟨_, e4, rfl⟩ := hd 4 rfl _ rfl
   refine o_index rfl rfl rfl z_slT30 rfl e3 (hs3.up (hl18.trans hl)) e4 hf23 (fun b24 of25 vsb24 hc26 hrepb24 => ?_)
   exact hk _ _ LR ⟨b24, of25, _, rfl, hc26, hrepb24⟩
  ·intro ρ' τ pq rs hl hd hq hw hk
   obtain ⟨_, e5, b24, of25, vsb24, rfl, hc26, hrepb24⟩ := hd 5 rfl _ rfl
   have hrepb24 := hrepb24
   obtain ⟨_, _, rfl, rfl, rfl⟩ := hrepb24
   refine o_fieldAddr rfl rfl rfl z_field82_0 e5 ?_
   exact hk _ _ LR ⟨b24, of25, _, rfl, hc26, hrepb24⟩
  ·intro ρ' τ pq rs hl hd hq hw hk
   obtain ⟨_, e6, b24, of25, vsb24, rfl, hc26, hrepb24⟩ := hd 6 rfl _ rfl
   have hrepb24 := hrepb24
   obtain ⟨_, _, rfl, rfl, rfl⟩ := hrepb24
   refine o_loadI (v := .I q22.1) rfl rfl rfl z_sc3 e6 (hc26 0 _ rfl) ?_
   exact hk _ _ LR rfl
  ·intro ρ' τ pq rs hl hd hq hw hk
   obtain ⟨_, e8, rfl⟩ := hd 8 rfl _ rfl
   refine o_load (j := 0) (v := v1) rfl rfl rfl z_sc30 e8 rfl rfl ?_
   exact hk _ _ LR rfl
  ·intro ρ' τ pq rs hl hd hq hw hk
   obtain ⟨_, e9, rfl⟩ := hd 9 rfl _ rfl
   obtain ⟨_, e10, rfl⟩ := hd 10 rfl _ rfl
   refine o_index rfl rfl rfl z_slT30 rfl e9 (hs3.up (hl18.trans hl)) e10 hf28 (fun b29 of30 vsb29 hc31 hrepb29 => ?_)
   exact hk _ _ LR ⟨b29, of30, _, rfl, hc31, hrepb29⟩
  ·intro ρ' τ pq rs hl hd hq hw hk
   obtain ⟨_, e11, b29, of30, vsb29, rfl, hc31, hrepb29⟩ := hd 11 rfl _ rfl
   have hrepb29 := hrepb29
   obtain ⟨_, _, rfl, rfl, rfl⟩ := hrepb29
   refine o_fieldAddr rfl rfl rfl z_field82_1 e11 ?_
   exact hk _ _ LR ⟨b29, of30, _, rfl, hc31, hrepb29⟩
  ·intro ρ' τ pq rs hl hd hq hw hk
   obtain ⟨_, e12, b29, of30, vsb29, rfl, hc31, hrepb29⟩ := hd 12 rfl _ rfl
   have hrepb29 := hrepb29
   obtain ⟨_, _, rfl, rfl, rfl⟩ := hrepb29
   refine o_loadI (v := .I q27.2) rfl rfl rfl z_sc3 e12 (hc31 1 _ rfl) ?_
   exact hk _ _ LR rfl
  ·intro ρ' τ pq rs hl hd hq hw hk
   obtain ⟨_, e7, rfl⟩ := hd 7 rfl _ rfl
   obtain ⟨_, e13, rfl⟩ := hd 13 rfl _ rfl
   refine o_buildA (ps := [(0, [.I q22.1]), (1, [.I q27.2])]) (cs := [.I q22.1, .I q27.2]) rfl rfl rfl z_arrz83 ⟨rfl, ⟨_, e7, rfl⟩, ⟨rfl, ⟨_, e13, rfl⟩, trivial⟩⟩ (fill_all [.I q22.1, .I q27.2] _ rfl) ?_
   exact hk _ _ LR rfl
  ·intro ρ' τ pq rs hl hd hq hw hk
   obtain ⟨_, e14, rfl⟩ := hd 14 rfl _ rfl
   refine o_litE (eA .i64 2) [[q22.1, q27.2]] rfl rfl rfl z_slT39 z_zero83 ⟨rfl, ⟨_, e14, rfl⟩, trivial⟩ rfl rfl rfl rfl (fun v32 g33 ho34 => ?_)
   refine st_freeze (fun τ35 hl36 hg37 => ?_)
   have hs38 := ho34.freeze hl36 hg37
   exact hk _ _ hl36 ⟨v32, rfl, hs38⟩
  ·intro ρ' τ u Fv pq rs hl hI hu hd hq hw hk
   obtain ⟨_, e1, rfl⟩ := hd 1 rfl _ rfl
   obtain ⟨_, e15, v32, rfl, hs38⟩ := hd 15 rfl _ rfl
   have hI0 := hI
   obtain rfl := hI
   refine st_ord [3, 0, 0, 0, 0] _ rfl ?_
   refine o_append (dk := (kA .i64 2)) (xs := s18.2) (ys := [[q22.1, q27.2]]) rfl rfl rfl rfl z_slT39 e1 (ho21.up hl) e15 (Sl.src hs38) hf42 hf43 (fun v39 g40 ho41 => ?_)
   refine st_ord [1, 1, 0, 0, 0] _ rfl ?_
   exact hk _ _ [g40, [(b7, .cells (lM a0 v19 v2).toArray 41 (0, 0))]] LR trivial (by exact ⟨v39, g40, rfl, rfl, ho41⟩)
  intro ρ' τ47 vals u Fv hl47 hI hu hv hq
  obtain ⟨v44, g45, rfl, rfl, ho46⟩ := hI
  refine st_env (ρ' := [(1, .Pb b5), (2, .Pb b6), (3, .Pb b7), (4, .I s18.1), (39, v44)]) ⟨oT hq 1, oT hq 2, oT hq 3, oT hq 4, (by exact hu _ rfl), trivial⟩ ?_
  refine o_fieldAddr rfl rfl rfl z_field41_2 rfl ?_
  refine o_store (j := 3) (vs := [v44]) (cs' := (lM a0 v44 v2)) rfl rfl rfl z_size39 rfl rfl (oneL_ow ho46) (ones_cons ho46.one' ones_nil) rfl rfl rfl (Z 7 ?_)
  refine st_ord [0, 0, 1, 0] _ rfl ?_
  exact hn18 _ _ _ _ h ⟨(hl18.trans hl47), _, _, rfl, rfl, ho46⟩
 ·refine st_exit rfl ?_
  obtain rfl := he18 _ h
  replace h := hA18
  refine st_ord [1, 1, 1] _ rfl ?_
  exact hk8 _ _ _ ⟨s18.2, _, _, h, hl18, rfl, rfl, ho21⟩
theorem ref16_All_ok {a0 : Int} {r : (List (TyA))} (h : ref16_All a0 r) (σ : Sto)  :
    Does prog 52 [.I a0] σ [] (fun v τ gs => ∃ (v55 : Value), gs = [] ∧ v55 = v ∧ Sl (kP kS (kP (kI .i64) (kP (kI .i64) (kP (kI .i64) (kP (kI .i64) (kP (kI .i64) (kI .i64))))))) τ v55 r) := by
 refine CO func52 ntmps52 rfl (fun cs fs => Z 14 ?_)
 refine o_lit (dk := (kP kS (kP (kI .i64) (kP (kI .i64) (kP (kI .i64) (kP (kI .i64) (kP (kI .i64) (kI .i64)))))))) (xs := ([] : List (TyA))) (ps := []) (cs := []) rfl rfl rfl z_slT109 z_zero114 trivial rfl rfl rfl rfl Kd.Many.nil (fun v1 g2 ho3 => Z 3 ?_)
 refine st_cut (fun ρ τ4 gs => ∃ (s4 : (List (TyA))) (v5 : Value) (g6 : Grp), ref16_All_j1 s4 r ∧ σ.Le τ4 ∧ ESub ρ [(2, .N0), (3, .N0), (4, .I 0), (5, v5)] ∧ gs = [g6] ∧ Ow (kP kS (kP (kI .i64) (kP (kI .i64) (kP (kI .i64) (kP (kI .i64) (kP (kI .i64) (kI .i64))))))) 114 τ4 v5 s4 g6) ?_ (fun hk4 => ?_)
 ·rintro ρ4 τ4 gs4 ⟨s4, v5, g6, h, hl4, hρ, rfl, ho7⟩
  refine st_es hρ ?_
  refine st_seq ?_
  refine st_cut (fun ρ τ8 gs => ∃ (s8 : (List (TyA))) (v9 : Value) (g10 : Grp), ref16_All_j2 s8 r ∧ τ4.Le τ8 ∧ ESub ρ [(2, .N0), (3, v9)] ∧ gs = [g10] ∧ Ow (kP kS (kP (kI .i64) (kP (kI .i64) (kP (kI .i64) (kP (kI .i64) (kP (kI .i64) (kI .i64))))))) 114 τ8 v9 s8 g10) ?_ (fun hk8 => ?_)
  ·rintro ρ8 τ8 gs8 ⟨s8, v9, g10, h, hl8, hρ, rfl, ho11⟩
   refine st_es hρ (Z 5 ?_)
   refine st_freeze (fun τ12 hl13 hg14 => ?_)
   have hs15 := ho11.freeze hl13 hg14
   obtain rfl := h.symm
   exact RT func52 rfl ((hl4.trans hl8).trans hl13) ⟨_, rfl, rfl, hs15⟩
  refine Z 4 ?_
  obtain ⟨e18, hL18, hA18⟩ := h
  refine st_addNil ?_
  refine st_ord [1, 0] _ rfl ?_
  refine st_loop hL18 (fun (s18 : (List (TyA)) × Int × Int) ρ τ18 gs => τ4.Le τ18 ∧ ∃ (v19 : Value) (g20 : Grp), ESub ρ [(2, .N0), (3, v19), (4, .I s18.2.1), (5, v5), (6, .I s18.2.2)] ∧ gs = [g6, g20] ∧ Ow (kP kS (kP (kI .i64) (kP (kI .i64) (kP (kI .i64) (kP (kI .i64) (kP (kI .i64) (kI .i64))))))) 114 τ18 v19 s18.1 g20) ⟨LR, _, _, rfl, rfl, Ow.nil⟩ ?_
  rintro s18 o18 h he18 ρ18 τ18 gs18 ⟨hl18, v19, g20, hρ, rfl, ho21⟩ hn18
  refine st_es hρ (Z 5 ?_)
  refine o_lenO rfl rfl rfl z_slT109 rfl (ho7.up hl18) (Z 2 ?_)
  refine I2 h (fun h => ?_) (fun h => ?_)
  ·refine Z 7 ?_
   obtain ⟨q22, hf23, h⟩ := h
   refine o_indexOw rfl rfl rfl z_slT109 rfl rfl (ho7.up hl18) rfl hf23 (fun b24 hb25 => ?_)
   obtain ⟨vs26, hrep27, hat28⟩ := Ow.at (ho7.up hl18) hb25 hf23
   obtain ⟨_, _, rfl, rfl, ⟨_, _, rfl, rfl, ⟨_, _, rfl, rfl, ⟨_, _, rfl, rfl, ⟨_, _, rfl, rfl, ⟨_, _, rfl, rfl, rfl⟩⟩⟩⟩⟩⟩ := hrep27
   refine o_loadOwN (j := 0) (off := 0) (us := (lA q22)) rfl rfl rfl z_agg114 rfl hat28 rfl (by exact rfl) ?_
   refine o_alloc rfl rfl rfl z_zero114 (fun b29 => ZZ 8 [0, 0] ?_)
   refine cutS τ18 (fun (s30 : Int × Int) => ref16_All_j4 s18 q22 s30 o18) (fun s30 => [(2, .N0), (3, v19), (4, .I s30.1), (5, v5), (6, .I s18.2.2), (7, .Pb b29)]) (fun s30 => [[(b29, .cells #[.string q22.1, .I q22.2.1, .I s30.2, .I q22.2.2.2.1, .I q22.t4.1, .I q22.t4.2.1, .I q22.t4.2.2] 114 (0, 0))], g20, g6]) (fun s30 τ30 h hl30 => (ZZ 3 [0] ?_)) (fun hk30 => ?_)
   ·refine o_litE (eP eS (eP (eI .i64) (eP (eI .i64) (eP (eI .i64) (eP (eI .i64) (eP (eI .i64) (eI .i64))))))) [(q22.1, q22.2.1, s30.2, q22.2.2.2.1, q22.t4.1, q22.t4.2.1, q22.t4.2.2)] rfl rfl rfl z_slT109 z_zero114 ⟨rfl, ⟨_, rfl, rfl⟩, trivial⟩ rfl rfl rfl rfl (fun v31 g32 ho33 => ?_)
    obtain ⟨hf37, hf38, h⟩ := h
    refine st_ord [2, 0, 0, 0] _ rfl ?_
    refine o_append (dk := (kP kS (kP (kI .i64) (kP (kI .i64) (kP (kI .i64) (kP (kI .i64) (kP (kI .i64) (kI .i64)))))))) (xs := s18.1) (ys := [(q22.1, q22.2.1, s30.2, q22.2.2.2.1, q22.t4.1, q22.t4.2.1, q22.t4.2.2)]) rfl rfl rfl rfl z_slT109 rfl (ho21.up hl30) rfl (Ow.src (j := 1) ho33 rfl) hf37 hf38 (fun v34 g35 ho36 => Z 8 ?_)
    refine st_ord [3, 0] _ rfl ?_
    exact hn18 _ _ _ _ h ⟨(hl18.trans hl30), _, _, rfl, rfl, ho36⟩
   refine ZZ 6 [0] ?_
   refine I2 h (fun h => ?_) (fun h => ?_)
   ·refine ZZ 11 [0] ?_
    refine st_ord [0, 1, 0] _ rfl ?_
    exact hk30 _ _ _ ⟨((i64.wrap (s18.2.1 + 1)), s18.2.1), h, LR, rfl, rfl⟩
   ·refine st_skip ?_
    refine st_ord [0, 1, 0] _ rfl ?_
    exact hk30 _ _ _ ⟨(s18.2.1, (-1)), h, LR, rfl, rfl⟩
  ·refine st_exit rfl ?_
   obtain rfl := he18 _ h
   replace h := hA18
   refine st_ord [1] _ rfl ?_
   exact hk8 _ _ _ ⟨s18.1, _, _, h, hl18, rfl, rfl, ho21⟩
 refine Z 10 ?_
 refine I2 h (fun h => ?_) (fun h => ?_)
 ·refine st_region ?_
  refine o_build (ps := [(0, [.string (bstr [114, 111, 98, 111, 116])]), (1, [.I 1]), (2, [.I 0]), (3, [.I 0]), (4, [.I 65535]), (5, [.I 1]), (6, [.I 0])]) rfl rfl rfl z_struct114 ⟨rfl, ⟨_, (ev_str z_str0), rfl⟩, ⟨rfl, ⟨_, rfl, rfl⟩, ⟨rfl, ⟨_, rfl, rfl⟩, ⟨rfl, ⟨_, rfl, rfl⟩, ⟨rfl, ⟨_, rfl, rfl⟩, ⟨rfl, ⟨_, rfl, rfl⟩, ⟨rfl, ⟨_, rfl, rfl⟩, trivial⟩⟩⟩⟩⟩⟩⟩ rfl ?_
  refine o_build (ps := [(0, [.string (bstr [115, 112, 101, 101, 100])]), (1, [.I 1]), (2, [.I 0]), (3, [.I 1]), (4, [.I 5000]), (5, [.I 1]), (6, [.I 0])]) rfl rfl rfl z_struct114 ⟨rfl, ⟨_, (ev_str z_str1), rfl⟩, ⟨rfl, ⟨_, rfl, rfl⟩, ⟨rfl, ⟨_, rfl, rfl⟩, ⟨rfl, ⟨_, rfl, rfl⟩, ⟨rfl, ⟨_, rfl, rfl⟩, ⟨rfl, ⟨_, rfl, rfl⟩, ⟨rfl, ⟨_, rfl, rfl⟩, trivial⟩⟩⟩⟩⟩⟩⟩ rfl ?_
  refine o_build (ps := [(0, [.string (bstr [97, 99, 99, 101, 108])]), (1, [.I 1]), (2, [.I 0]), (3, [.I 1]), (4, [.I 10000]), (5, [.I 2]), (6, [.I 500])]) rfl rfl rfl z_struct114 ⟨rfl, ⟨_, (ev_str z_str2), rfl⟩, ⟨rfl, ⟨_, rfl, rfl⟩, ⟨rfl, ⟨_, rfl, rfl⟩, ⟨rfl, ⟨_, rfl, rfl⟩, ⟨rfl, ⟨_, rfl, rfl⟩, ⟨rfl, ⟨_, rfl, rfl⟩, ⟨rfl, ⟨_, rfl, rfl⟩, trivial⟩⟩⟩⟩⟩⟩⟩ rfl ?_
  refine o_build (ps := [(0, [.string (bstr [112, 97, 116, 104])]), (1, [.I 3]), (2, [.I 0]), (3, [.I 1]), (4, [.I 16]), (5, [.I 1]), (6, [.I 0])]) rfl rfl rfl z_struct114 ⟨rfl, ⟨_, (ev_str z_str3), rfl⟩, ⟨rfl, ⟨_, rfl, rfl⟩, ⟨rfl, ⟨_, rfl, rfl⟩, ⟨rfl, ⟨_, rfl, rfl⟩, ⟨rfl, ⟨_, rfl, rfl⟩, ⟨rfl, ⟨_, rfl, rfl⟩, ⟨rfl, ⟨_, rfl, rfl⟩, trivial⟩⟩⟩⟩⟩⟩⟩ rfl ?_
  refine o_build (ps := [(0, [.string (bstr [116, 97, 103])]), (1, [.I 6]), (2, [.I 0]), (3, [.I 0]), (4, [.I 16]), (5, [.I 2]), (6, [.I 0])]) rfl rfl rfl z_struct114 ⟨rfl, ⟨_, (ev_str z_str4), rfl⟩, ⟨rfl, ⟨_, rfl, rfl⟩, ⟨rfl, ⟨_, rfl, rfl⟩, ⟨rfl, ⟨_, rfl, rfl⟩, ⟨rfl, ⟨_, rfl, rfl⟩, ⟨rfl, ⟨_, rfl, rfl⟩, ⟨rfl, ⟨_, rfl, rfl⟩, trivial⟩⟩⟩⟩⟩⟩⟩ rfl ?_
  refine o_litE (eP eS (eP (eI .i64) (eP (eI .i64) (eP (eI .i64) (eP (eI .i64) (eP (eI .i64) (eI .i64))))))) [((bstr [114, 111, 98, 111, 116]), 1, 0, 0, 65535, 1, 0), ((bstr [115, 112, 101, 101, 100]), 1, 0, 1, 5000, 1, 0), ((bstr [97, 99, 99, 101, 108]), 1, 0, 1, 10000, 2, 500), ((bstr [112, 97, 116, 104]), 3, 0, 1, 16, 1, 0), ((bstr [116, 97, 103]), 6, 0, 0, 16, 2, 0)] rfl rfl rfl z_slT109 z_zero114 ⟨rfl, ⟨_, rfl, rfl⟩, ⟨rfl, ⟨_, rfl, rfl⟩, ⟨rfl, ⟨_, rfl, rfl⟩, ⟨rfl, ⟨_, rfl, rfl⟩, ⟨rfl, ⟨_, rfl, rfl⟩, trivial⟩⟩⟩⟩⟩ rfl rfl rfl rfl (fun v40 g41 ho42 => Z 3 ?_)
  refine st_ord [0] _ rfl ?_
  exact hk4 _ _ _ ⟨[((bstr [114, 111, 98, 111, 116]), 1, 0, 0, 65535, 1, 0), ((bstr [115, 112, 101, 101, 100]), 1, 0, 1, 5000, 1, 0), ((bstr [97, 99, 99, 101, 108]), 1, 0, 1, 10000, 2, 500), ((bstr [112, 97, 116, 104]), 3, 0, 1, 16, 1, 0), ((bstr [116, 97, 103]), 6, 0, 0, 16, 2, 0)], _, _, h, LR, rfl, rfl, ho42⟩
 ·refine Z 5 ?_
  refine I2 h (fun h => ?_) (fun h => ?_)
  ·refine st_region ?_
   refine o_build (ps := [(0, [.string (bstr [114, 111, 98, 111, 116])]), (1, [.I 1]), (2, [.I 0]), (3, [.I 0]), (4, [.I 65535]), (5, [.I 1]), (6, [.I 0])]) rfl rfl rfl z_struct114 ⟨rfl, ⟨_, (ev_str z_str0), rfl⟩, ⟨rfl, ⟨_, rfl, rfl⟩, ⟨rfl, ⟨_, rfl, rfl⟩, ⟨rfl, ⟨_, rfl, rfl⟩, ⟨rfl, ⟨_, rfl, rfl⟩, ⟨rfl, ⟨_, rfl, rfl⟩, ⟨rfl, ⟨_, rfl, rfl⟩, trivial⟩⟩⟩⟩⟩⟩⟩ rfl ?_
   refine o_build (ps := [(0, [.string (bstr [114, 101, 97, 115, 111, 110])]), (1, [.I 1]), (2, [.I 0]), (3, [.I 0]), (4, [.I 15]), (5, [.I 1]), (6, [.I 0])]) rfl rfl rfl z_struct114 ⟨rfl, ⟨_, (ev_str z_str5), rfl⟩, ⟨rfl, ⟨_, rfl, rfl⟩, ⟨rfl, ⟨_, rfl, rfl⟩, ⟨rfl, ⟨_, rfl, rfl⟩, ⟨rfl, ⟨_, rfl, rfl⟩, ⟨rfl, ⟨_, rfl, rfl⟩, ⟨rfl, ⟨_, rfl, rfl⟩, trivial⟩⟩⟩⟩⟩⟩⟩ rfl ?_
   refine o_build (ps := [(0, [.string (bstr [122, 111, 110, 101])]), (1, [.I 1]), (2, [.I 0]), (3, [.I 0]), (4, [.I 4095]), (5, [.I 2]), (6, [.I 0])]) rfl rfl rfl z_struct114 ⟨rfl, ⟨_, (ev_str z_str6), rfl⟩, ⟨rfl, ⟨_, rfl, rfl⟩, ⟨rfl, ⟨_, rfl, rfl⟩, ⟨rfl, ⟨_, rfl, rfl⟩, ⟨rfl, ⟨_, rfl, rfl⟩, ⟨rfl, ⟨_, rfl, rfl⟩, ⟨rfl, ⟨_, rfl, rfl⟩, trivial⟩⟩⟩⟩⟩⟩⟩ rfl ?_
   refine o_litE (eP eS (eP (eI .i64) (eP (eI .i64) (eP (eI .i64) (eP (eI .i64) (eP (eI .i64) (eI .i64))))))) [((bstr [114, 111, 98, 111, 116]), 1, 0, 0, 65535, 1, 0), ((bstr [114, 101, 97, 115, 111, 110]), 1, 0, 0, 15, 1, 0), ((bstr [122, 111, 110, 101]), 1, 0, 0, 4095, 2, 0)] rfl rfl rfl z_slT109 z_zero114 ⟨rfl, ⟨_, rfl, rfl⟩, ⟨rfl, ⟨_, rfl, rfl⟩, ⟨rfl, ⟨_, rfl, rfl⟩, trivial⟩⟩⟩ rfl rfl rfl rfl (fun v43 g44 ho45 => Z 3 ?_)
   refine st_ord [0] _ rfl ?_
   exact hk4 _ _ _ ⟨[((bstr [114, 111, 98, 111, 116]), 1, 0, 0, 65535, 1, 0), ((bstr [114, 101, 97, 115, 111, 110]), 1, 0, 0, 15, 1, 0), ((bstr [122, 111, 110, 101]), 1, 0, 0, 4095, 2, 0)], _, _, h, LR, rfl, rfl, ho45⟩
  ·refine Z 5 ?_
   refine I2 h (fun h => ?_) (fun h => ?_)
   ·refine st_region ?_
    refine o_build (ps := [(0, [.string (bstr [114, 111, 98, 111, 116])]), (1, [.I 1]), (2, [.I 0]), (3, [.I 0]), (4, [.I 65535]), (5, [.I 1]), (6, [.I 0])]) rfl rfl rfl z_struct114 ⟨rfl, ⟨_, (ev_str z_str0), rfl⟩, ⟨rfl, ⟨_, rfl, rfl⟩, ⟨rfl, ⟨_, rfl, rfl⟩, ⟨rfl, ⟨_, rfl, rfl⟩, ⟨rfl, ⟨_, rfl, rfl⟩, ⟨rfl, ⟨_, rfl, rfl⟩, ⟨rfl, ⟨_, rfl, rfl⟩, trivial⟩⟩⟩⟩⟩⟩⟩ rfl ?_
    refine o_build (ps := [(0, [.string (bstr [122, 111, 110, 101])]), (1, [.I 1]), (2, [.I 0]), (3, [.I 0]), (4, [.I 4095]), (5, [.I 1]), (6, [.I 0])]) rfl rfl rfl z_struct114 ⟨rfl, ⟨_, (ev_str z_str6), rfl⟩, ⟨rfl, ⟨_, rfl, rfl⟩, ⟨rfl, ⟨_, rfl, rfl⟩, ⟨rfl, ⟨_, rfl, rfl⟩, ⟨rfl, ⟨_, rfl, rfl⟩, ⟨rfl, ⟨_, rfl, rfl⟩, ⟨rfl, ⟨_, rfl, rfl⟩, trivial⟩⟩⟩⟩⟩⟩⟩ rfl ?_
    refine o_build (ps := [(0, [.string (bstr [108, 101, 97, 115, 101])]), (1, [.I 1]), (2, [.I 0]), (3, [.I 1]), (4, [.I 255]), (5, [.I 2]), (6, [.I 1])]) rfl rfl rfl z_struct114 ⟨rfl, ⟨_, (ev_str z_str7), rfl⟩, ⟨rfl, ⟨_, rfl, rfl⟩, ⟨rfl, ⟨_, rfl, rfl⟩, ⟨rfl, ⟨_, rfl, rfl⟩, ⟨rfl, ⟨_, rfl, rfl⟩, ⟨rfl, ⟨_, rfl, rfl⟩, ⟨rfl, ⟨_, rfl, rfl⟩, trivial⟩⟩⟩⟩⟩⟩⟩ rfl ?_
    refine o_build (ps := [(0, [.string (bstr [99, 101, 108, 108, 115])]), (1, [.I 4]), (2, [.I 0]), (3, [.I 1]), (4, [.I 32]), (5, [.I 1]), (6, [.I 0])]) rfl rfl rfl z_struct114 ⟨rfl, ⟨_, (ev_str z_str8), rfl⟩, ⟨rfl, ⟨_, rfl, rfl⟩, ⟨rfl, ⟨_, rfl, rfl⟩, ⟨rfl, ⟨_, rfl, rfl⟩, ⟨rfl, ⟨_, rfl, rfl⟩, ⟨rfl, ⟨_, rfl, rfl⟩, ⟨rfl, ⟨_, rfl, rfl⟩, trivial⟩⟩⟩⟩⟩⟩⟩ rfl ?_
    refine o_litE (eP eS (eP (eI .i64) (eP (eI .i64) (eP (eI .i64) (eP (eI .i64) (eP (eI .i64) (eI .i64))))))) [((bstr [114, 111, 98, 111, 116]), 1, 0, 0, 65535, 1, 0), ((bstr [122, 111, 110, 101]), 1, 0, 0, 4095, 1, 0), ((bstr [108, 101, 97, 115, 101]), 1, 0, 1, 255, 2, 1), ((bstr [99, 101, 108, 108, 115]), 4, 0, 1, 32, 1, 0)] rfl rfl rfl z_slT109 z_zero114 ⟨rfl, ⟨_, rfl, rfl⟩, ⟨rfl, ⟨_, rfl, rfl⟩, ⟨rfl, ⟨_, rfl, rfl⟩, ⟨rfl, ⟨_, rfl, rfl⟩, trivial⟩⟩⟩⟩ rfl rfl rfl rfl (fun v46 g47 ho48 => Z 3 ?_)
    refine st_ord [0] _ rfl ?_
    exact hk4 _ _ _ ⟨[((bstr [114, 111, 98, 111, 116]), 1, 0, 0, 65535, 1, 0), ((bstr [122, 111, 110, 101]), 1, 0, 0, 4095, 1, 0), ((bstr [108, 101, 97, 115, 101]), 1, 0, 1, 255, 2, 1), ((bstr [99, 101, 108, 108, 115]), 4, 0, 1, 32, 1, 0)], _, _, h, LR, rfl, rfl, ho48⟩
   ·refine Z 5 ?_
    refine I2 h (fun h => ?_) (fun h => ?_)
    ·refine st_region ?_
     refine o_build (ps := [(0, [.string (bstr [114, 111, 98, 111, 116])]), (1, [.I 1]), (2, [.I 0]), (3, [.I 0]), (4, [.I 65535]), (5, [.I 1]), (6, [.I 0])]) rfl rfl rfl z_struct114 ⟨rfl, ⟨_, (ev_str z_str0), rfl⟩, ⟨rfl, ⟨_, rfl, rfl⟩, ⟨rfl, ⟨_, rfl, rfl⟩, ⟨rfl, ⟨_, rfl, rfl⟩, ⟨rfl, ⟨_, rfl, rfl⟩, ⟨rfl, ⟨_, rfl, rfl⟩, ⟨rfl, ⟨_, rfl, rfl⟩, trivial⟩⟩⟩⟩⟩⟩⟩ rfl ?_
     refine o_build (ps := [(0, [.string (bstr [120])]), (1, [.I 2]), (2, [.I 0]), (3, [.I (-1000000)]), (4, [.I 1000000]), (5, [.I 1]), (6, [.I 0])]) rfl rfl rfl z_struct114 ⟨rfl, ⟨_, (ev_str z_str9), rfl⟩, ⟨rfl, ⟨_, rfl, rfl⟩, ⟨rfl, ⟨_, rfl, rfl⟩, ⟨rfl, ⟨_, rfl, rfl⟩, ⟨rfl, ⟨_, rfl, rfl⟩, ⟨rfl, ⟨_, rfl, rfl⟩, ⟨rfl, ⟨_, rfl, rfl⟩, trivial⟩⟩⟩⟩⟩⟩⟩ rfl ?_
     refine o_build (ps := [(0, [.string (bstr [121])]), (1, [.I 2]), (2, [.I 0]), (3, [.I (-1000000)]), (4, [.I 1000000]), (5, [.I 1]), (6, [.I 0])]) rfl rfl rfl z_struct114 ⟨rfl, ⟨_, (ev_str z_str10), rfl⟩, ⟨rfl, ⟨_, rfl, rfl⟩, ⟨rfl, ⟨_, rfl, rfl⟩, ⟨rfl, ⟨_, rfl, rfl⟩, ⟨rfl, ⟨_, rfl, rfl⟩, ⟨rfl, ⟨_, rfl, rfl⟩, ⟨rfl, ⟨_, rfl, rfl⟩, trivial⟩⟩⟩⟩⟩⟩⟩ rfl ?_
     refine o_build (ps := [(0, [.string (bstr [104, 101, 97, 100, 105, 110, 103])]), (1, [.I 1]), (2, [.I 0]), (3, [.I 0]), (4, [.I 35999]), (5, [.I 1]), (6, [.I 0])]) rfl rfl rfl z_struct114 ⟨rfl, ⟨_, (ev_str z_str11), rfl⟩, ⟨rfl, ⟨_, rfl, rfl⟩, ⟨rfl, ⟨_, rfl, rfl⟩, ⟨rfl, ⟨_, rfl, rfl⟩, ⟨rfl, ⟨_, rfl, rfl⟩, ⟨rfl, ⟨_, rfl, rfl⟩, ⟨rfl, ⟨_, rfl, rfl⟩, trivial⟩⟩⟩⟩⟩⟩⟩ rfl ?_
     refine o_build (ps := [(0, [.string (bstr [98, 97, 116, 116, 101, 114, 121])]), (1, [.I 1]), (2, [.I 0]), (3, [.I 0]), (4, [.I 1000]), (5, [.I 1]), (6, [.I 0])]) rfl rfl rfl z_struct114 ⟨rfl, ⟨_, (ev_str z_str12), rfl⟩, ⟨rfl, ⟨_, rfl, rfl⟩, ⟨rfl, ⟨_, rfl, rfl⟩, ⟨rfl, ⟨_, rfl, rfl⟩, ⟨rfl, ⟨_, rfl, rfl⟩, ⟨rfl, ⟨_, rfl, rfl⟩, ⟨rfl, ⟨_, rfl, rfl⟩, trivial⟩⟩⟩⟩⟩⟩⟩ rfl ?_
     refine o_build (ps := [(0, [.string (bstr [115, 117, 114, 101])]), (1, [.I 1]), (2, [.I 0]), (3, [.I 0]), (4, [.I 100]), (5, [.I 2]), (6, [.I 100])]) rfl rfl rfl z_struct114 ⟨rfl, ⟨_, (ev_str z_str13), rfl⟩, ⟨rfl, ⟨_, rfl, rfl⟩, ⟨rfl, ⟨_, rfl, rfl⟩, ⟨rfl, ⟨_, rfl, rfl⟩, ⟨rfl, ⟨_, rfl, rfl⟩, ⟨rfl, ⟨_, rfl, rfl⟩, ⟨rfl, ⟨_, rfl, rfl⟩, trivial⟩⟩⟩⟩⟩⟩⟩ rfl ?_
     refine o_litE (eP eS (eP (eI .i64) (eP (eI .i64) (eP (eI .i64) (eP (eI .i64) (eP (eI .i64) (eI .i64))))))) [((bstr [114, 111, 98, 111, 116]), 1, 0, 0, 65535, 1, 0), ((bstr [120]), 2, 0, (-1000000), 1000000, 1, 0), ((bstr [121]), 2, 0, (-1000000), 1000000, 1, 0), ((bstr [104, 101, 97, 100, 105, 110, 103]), 1, 0, 0, 35999, 1, 0), ((bstr [98, 97, 116, 116, 101, 114, 121]), 1, 0, 0, 1000, 1, 0), ((bstr [115, 117, 114, 101]), 1, 0, 0, 100, 2, 100)] rfl rfl rfl z_slT109 z_zero114 ⟨rfl, ⟨_, rfl, rfl⟩, ⟨rfl, ⟨_, rfl, rfl⟩, ⟨rfl, ⟨_, rfl, rfl⟩, ⟨rfl, ⟨_, rfl, rfl⟩, ⟨rfl, ⟨_, rfl, rfl⟩, ⟨rfl, ⟨_, rfl, rfl⟩, trivial⟩⟩⟩⟩⟩⟩ rfl rfl rfl rfl (fun v49 g50 ho51 => Z 3 ?_)
     refine st_ord [0] _ rfl ?_
     exact hk4 _ _ _ ⟨[((bstr [114, 111, 98, 111, 116]), 1, 0, 0, 65535, 1, 0), ((bstr [120]), 2, 0, (-1000000), 1000000, 1, 0), ((bstr [121]), 2, 0, (-1000000), 1000000, 1, 0), ((bstr [104, 101, 97, 100, 105, 110, 103]), 1, 0, 0, 35999, 1, 0), ((bstr [98, 97, 116, 116, 101, 114, 121]), 1, 0, 0, 1000, 1, 0), ((bstr [115, 117, 114, 101]), 1, 0, 0, 100, 2, 100)], _, _, h, LR, rfl, rfl, ho51⟩
    ·refine Z 5 ?_
     refine I2 h (fun h => ?_) (fun h => ?_)
     ·refine st_region ?_
      refine o_build (ps := [(0, [.string (bstr [114, 111, 98, 111, 116])]), (1, [.I 1]), (2, [.I 0]), (3, [.I 0]), (4, [.I 65535]), (5, [.I 1]), (6, [.I 0])]) rfl rfl rfl z_struct114 ⟨rfl, ⟨_, (ev_str z_str0), rfl⟩, ⟨rfl, ⟨_, rfl, rfl⟩, ⟨rfl, ⟨_, rfl, rfl⟩, ⟨rfl, ⟨_, rfl, rfl⟩, ⟨rfl, ⟨_, rfl, rfl⟩, ⟨rfl, ⟨_, rfl, rfl⟩, ⟨rfl, ⟨_, rfl, rfl⟩, trivial⟩⟩⟩⟩⟩⟩⟩ rfl ?_
      refine o_build (ps := [(0, [.string (bstr [99, 111, 100, 101])]), (1, [.I 1]), (2, [.I 0]), (3, [.I 1]), (4, [.I 9999]), (5, [.I 1]), (6, [.I 0])]) rfl rfl rfl z_struct114 ⟨rfl, ⟨_, (ev_str z_str14), rfl⟩, ⟨rfl, ⟨_, rfl, rfl⟩, ⟨rfl, ⟨_, rfl, rfl⟩, ⟨rfl, ⟨_, rfl, rfl⟩, ⟨rfl, ⟨_, rfl, rfl⟩, ⟨rfl, ⟨_, rfl, rfl⟩, ⟨rfl, ⟨_, rfl, rfl⟩, trivial⟩⟩⟩⟩⟩⟩⟩ rfl ?_
      refine o_build (ps := [(0, [.string (bstr [115, 101, 118, 101, 114, 105, 116, 121])]), (1, [.I 1]), (2, [.I 0]), (3, [.I 0]), (4, [.I 4]), (5, [.I 1]), (6, [.I 0])]) rfl rfl rfl z_struct114 ⟨rfl, ⟨_, (ev_str z_str15), rfl⟩, ⟨rfl, ⟨_, rfl, rfl⟩, ⟨rfl, ⟨_, rfl, rfl⟩, ⟨rfl, ⟨_, rfl, rfl⟩, ⟨rfl, ⟨_, rfl, rfl⟩, ⟨rfl, ⟨_, rfl, rfl⟩, ⟨rfl, ⟨_, rfl, rfl⟩, trivial⟩⟩⟩⟩⟩⟩⟩ rfl ?_
      refine o_build (ps := [(0, [.string (bstr [112, 97, 114, 116])]), (1, [.I 1]), (2, [.I 0]), (3, [.I 0]), (4, [.I 255]), (5, [.I 2]), (6, [.I 0])]) rfl rfl rfl z_struct114 ⟨rfl, ⟨_, (ev_str z_str16), rfl⟩, ⟨rfl, ⟨_, rfl, rfl⟩, ⟨rfl, ⟨_, rfl, rfl⟩, ⟨rfl, ⟨_, rfl, rfl⟩, ⟨rfl, ⟨_, rfl, rfl⟩, ⟨rfl, ⟨_, rfl, rfl⟩, ⟨rfl, ⟨_, rfl, rfl⟩, trivial⟩⟩⟩⟩⟩⟩⟩ rfl ?_
      refine o_build (ps := [(0, [.string (bstr [116, 105, 109, 101, 115])]), (1, [.I 1]), (2, [.I 0]), (3, [.I 1]), (4, [.I 1000000]), (5, [.I 2]), (6, [.I 1])]) rfl rfl rfl z_struct114 ⟨rfl, ⟨_, (ev_str z_str17), rfl⟩, ⟨rfl, ⟨_, rfl, rfl⟩, ⟨rfl, ⟨_, rfl, rfl⟩, ⟨rfl, ⟨_, rfl, rfl⟩, ⟨rfl, ⟨_, rfl, rfl⟩, ⟨rfl, ⟨_, rfl, rfl⟩, ⟨rfl, ⟨_, rfl, rfl⟩, trivial⟩⟩⟩⟩⟩⟩⟩ rfl ?_
      refine o_build (ps := [(0, [.string (bstr [116, 101, 120, 116])]), (1, [.I 5]), (2, [.I 0]), (3, [.I 0]), (4, [.I 64]), (5, [.I 1]), (6, [.I 0])]) rfl rfl rfl z_struct114 ⟨rfl, ⟨_, (ev_str z_str18), rfl⟩, ⟨rfl, ⟨_, rfl, rfl⟩, ⟨rfl, ⟨_, rfl, rfl⟩, ⟨rfl, ⟨_, rfl, rfl⟩, ⟨rfl, ⟨_, rfl, rfl⟩, ⟨rfl, ⟨_, rfl, rfl⟩, ⟨rfl, ⟨_, rfl, rfl⟩, trivial⟩⟩⟩⟩⟩⟩⟩ rfl ?_
      refine o_litE (eP eS (eP (eI .i64) (eP (eI .i64) (eP (eI .i64) (eP (eI .i64) (eP (eI .i64) (eI .i64))))))) [((bstr [114, 111, 98, 111, 116]), 1, 0, 0, 65535, 1, 0), ((bstr [99, 111, 100, 101]), 1, 0, 1, 9999, 1, 0), ((bstr [115, 101, 118, 101, 114, 105, 116, 121]), 1, 0, 0, 4, 1, 0), ((bstr [112, 97, 114, 116]), 1, 0, 0, 255, 2, 0), ((bstr [116, 105, 109, 101, 115]), 1, 0, 1, 1000000, 2, 1), ((bstr [116, 101, 120, 116]), 5, 0, 0, 64, 1, 0)] rfl rfl rfl z_slT109 z_zero114 ⟨rfl, ⟨_, rfl, rfl⟩, ⟨rfl, ⟨_, rfl, rfl⟩, ⟨rfl, ⟨_, rfl, rfl⟩, ⟨rfl, ⟨_, rfl, rfl⟩, ⟨rfl, ⟨_, rfl, rfl⟩, ⟨rfl, ⟨_, rfl, rfl⟩, trivial⟩⟩⟩⟩⟩⟩ rfl rfl rfl rfl (fun v52 g53 ho54 => Z 3 ?_)
      refine st_ord [0] _ rfl ?_
      exact hk4 _ _ _ ⟨[((bstr [114, 111, 98, 111, 116]), 1, 0, 0, 65535, 1, 0), ((bstr [99, 111, 100, 101]), 1, 0, 1, 9999, 1, 0), ((bstr [115, 101, 118, 101, 114, 105, 116, 121]), 1, 0, 0, 4, 1, 0), ((bstr [112, 97, 114, 116]), 1, 0, 0, 255, 2, 0), ((bstr [116, 105, 109, 101, 115]), 1, 0, 1, 1000000, 2, 1), ((bstr [116, 101, 120, 116]), 5, 0, 0, 64, 1, 0)], _, _, h, LR, rfl, rfl, ho54⟩
     ·refine Z 2 ?_
      exact hk4 _ _ _ ⟨([] : List (TyA)), _, _, h, LR, rfl, rfl, ho3⟩
theorem ref17_path_ok {a0 : List (List Int)} {v1 : Value} {r : Int} (h : ref17_path a0 r) (σ : Sto) (hs2 : Sl (kA .i64 2) σ v1 a0) :
    Does prog 53 [v1] σ [] (fun v τ gs => gs = [] ∧ .I r = v) := by
 refine CO func53 ntmps53 rfl (fun cs fs => Z 8 ?_)
 refine o_lenI rfl rfl rfl z_slT39 rfl hs2 (Z 2 ?_)
 refine I2 h (fun h => ?_) (fun h => ?_)
 ·refine Z 4 ?_
  obtain rfl := h.symm
  exact RT func53 rfl LR ⟨rfl, rfl⟩
 ·refine Z 5 ?_
  refine o_lenI rfl rfl rfl z_slT39 rfl hs2 (Z 2 ?_)
  refine I2 h (fun h => ?_) (fun h => ?_)
  ·refine Z 4 ?_
   obtain rfl := h.symm
   exact RT func53 rfl LR ⟨rfl, rfl⟩
  ·refine Z 2 ?_
   refine cutS σ (fun (s3 : Unit) => ref17_path_j1 s3 r) (fun s3 => [(2, .I 0)]) (fun s3 => []) (fun s3 τ3 h hl3 => (Z 4 ?_)) (fun hk3 => ?_)
   ·obtain rfl := h.symm
    exact RT func53 rfl hl3 ⟨rfl, rfl⟩
   refine Z 4 ?_
   obtain ⟨e4, hL4, hA4⟩ := h
   refine st_loop hL4 (fun (s4 : Int) ρ τ4 gs => σ.Le τ4 ∧ ESub ρ [(0, v1), (2, .I 0), (3, .I s4)] ∧ gs = []) ⟨LR, rfl, rfl⟩ ?_
   rintro s4 o4 h he4 ρ4 τ4 gs4 ⟨hl4, hρ, rfl⟩ hn4
   refine st_es hρ (Z 5 ?_)
   refine o_lenI rfl rfl rfl z_slT39 rfl (hs2.up hl4) (Z 2 ?_)
   refine I2 h (fun h => ?_) (fun h => ?_)
   ·refine Z 2 ?_
    refine cutS τ4 (fun (s5 : Unit) => ref17_path_j3 s4 s5 o4) (fun s5 => [(0, v1), (2, .I 0), (3, .I s4)]) (fun s5 => []) (fun s5 τ5 h hl5 => (Z 5 ?_)) (fun hk5 => ?_)
    ·exact hn4 _ _ _ _ h ⟨(hl4.trans hl5), rfl, rfl⟩
    refine Z 5 ?_
    obtain ⟨e6, hL6, hA6⟩ := h
    refine st_loop hL6 (fun (s6 : Int) ρ τ6 gs => τ4.Le τ6 ∧ ESub ρ [(0, v1), (2, .I 0), (3, .I s4), (4, .I s6)] ∧ gs = []) ⟨LR, rfl, rfl⟩ ?_
    rintro s6 o6 h he6 ρ6 τ6 gs6 ⟨hl6, hρ, rfl⟩ hn6
    refine st_es hρ (Z 6 ?_)
    refine I2 h (fun h => ?_) (fun h => ?_)
    ·refine Z 4 ?_
     refine cutS τ6 (fun (s7 : Bool) => ref17_path_j5 s6 s7 o6) (fun s7 => [(0, v1), (2, .I 0), (3, .I s4), (4, .I s6), (36, .bool s7)]) (fun s7 => []) (fun s7 τ7 h hl7 => ?_) (fun hk7 => ?_)
     ·refine I2 h (fun h => ?_) (fun h => ?_)
      ·refine Z 4 ?_
       obtain rfl := he6 _ h
       replace h := hA6
       obtain rfl := he4 _ h
       replace h := hA4
       obtain rfl := h.symm
       exact RT func53 rfl ((hl4.trans hl6).trans hl7) ⟨rfl, rfl⟩
      ·refine Z 7 ?_
       exact hn6 _ _ _ _ h ⟨(hl6.trans hl7), rfl, rfl⟩
     refine Z 4 ?_
     obtain ⟨q8, hf9, h⟩ := h
     refine o_index rfl rfl rfl z_slT39 rfl rfl (hs2.up (hl4.trans hl6)) rfl hf9 (fun b10 of11 vs hc12 hrep => ?_)
     obtain rfl := hrep
     obtain ⟨hf13, hf14, h⟩ := h
     refine o_indexA rfl rfl rfl z_arr83 rfl rfl hf13 hf14 ?_
     refine o_loadI (v := .I (q8.getD s6.toNat 0)) rfl rfl rfl z_sc3 rfl (cel_arr (f := (Value.int .i64)) (zz := 0) (n := 2) (xs := q8) (p := 0) (q := s6.toNat) hc12 rfl (by omega) (by omega)) ?_
     refine o_ibin (v := .bool (decide ((q8.getD s6.toNat 0) < (-1000000)))) rfl rfl rfl rfl rfl rfl ?_
     refine M2 h (fun h => ?_) (fun h => ?_)
     ·refine Z 9 ?_
      exact hk7 _ _ _ ⟨true, h, LR, rfl, rfl⟩
     ·refine Z 3 ?_
      obtain ⟨q15, hf16, h⟩ := h
      refine o_index rfl rfl rfl z_slT39 rfl rfl (hs2.up (hl4.trans hl6)) rfl hf16 (fun b17 of18 vs hc19 hrep => ?_)
      obtain rfl := hrep
      obtain ⟨hf20, hf21, h⟩ := h
      refine o_indexA rfl rfl rfl z_arr83 rfl rfl hf20 hf21 ?_
      refine o_loadI (v := .I (q15.getD s6.toNat 0)) rfl rfl rfl z_sc3 rfl (cel_arr (f := (Value.int .i64)) (zz := 0) (n := 2) (xs := q15) (p := 0) (q := s6.toNat) hc19 rfl (by omega) (by omega)) (Z 3 ?_)
      exact hk7 _ _ _ ⟨(decide (1000000 < (q15.getD s6.toNat 0))), h, LR, rfl, rfl⟩
    ·refine Z 2 ?_
     obtain rfl := he6 _ h
     replace h := hA6
     exact hk5 _ _ _ ⟨(), h, hl6, rfl, rfl⟩
   ·refine st_exit rfl ?_
    obtain rfl := he4 _ h
    replace h := hA4
    exact hk3 _ _ _ ⟨(), h, hl4, rfl, rfl⟩
theorem ref17_cells_ok {a0 : List Int} {v1 : Value} {r : Int} (h : ref17_cells a0 r) (σ : Sto) (hs2 : Sl (kI .i64) σ v1 a0) :
    Does prog 54 [v1] σ [] (fun v τ gs => gs = [] ∧ .I r = v) := by
 refine CO func54 ntmps54 rfl (fun cs fs => Z 8 ?_)
 refine o_lenI rfl rfl rfl z_slT31 rfl hs2 (Z 2 ?_)
 refine I2 h (fun h => ?_) (fun h => ?_)
 ·refine Z 4 ?_
  obtain rfl := h.symm
  exact RT func54 rfl LR ⟨rfl, rfl⟩
 ·refine Z 5 ?_
  refine o_lenI rfl rfl rfl z_slT31 rfl hs2 (Z 2 ?_)
  refine I2 h (fun h => ?_) (fun h => ?_)
  ·refine Z 4 ?_
   obtain rfl := h.symm
   exact RT func54 rfl LR ⟨rfl, rfl⟩
  ·refine Z 2 ?_
   refine cutS σ (fun (s3 : Unit) => ref17_cells_j1 s3 r) (fun s3 => [(2, .I 0)]) (fun s3 => []) (fun s3 τ3 h hl3 => (Z 4 ?_)) (fun hk3 => ?_)
   ·obtain rfl := h.symm
    exact RT func54 rfl hl3 ⟨rfl, rfl⟩
   refine Z 4 ?_
   obtain ⟨e4, hL4, hA4⟩ := h
   refine st_loop hL4 (fun (s4 : Int) ρ τ4 gs => σ.Le τ4 ∧ ESub ρ [(0, v1), (2, .I 0), (3, .I s4)] ∧ gs = []) ⟨LR, rfl, rfl⟩ ?_
   rintro s4 o4 h he4 ρ4 τ4 gs4 ⟨hl4, hρ, rfl⟩ hn4
   refine st_es hρ (Z 5 ?_)
   refine o_lenI rfl rfl rfl z_slT31 rfl (hs2.up hl4) (Z 2 ?_)
   refine I2 h (fun h => ?_) (fun h => ?_)
   ·refine Z 5 ?_
    refine cutS τ4 (fun (s5 : Bool) => ref17_cells_j3 a0 s4 s5 o4) (fun s5 => [(0, v1), (2, .I 0), (3, .I s4), (27, .bool s5)]) (fun s5 => []) (fun s5 τ5 h hl5 => ?_) (fun hk5 => ?_)
    ·refine I2 h (fun h => ?_) (fun h => ?_)
     ·refine Z 4 ?_
      obtain rfl := he4 _ h
      replace h := hA4
      obtain rfl := h.symm
      exact RT func54 rfl (hl4.trans hl5) ⟨rfl, rfl⟩
     ·refine Z 2 ?_
      obtain ⟨q7, hf8, q12, hf13, h⟩ := h
      let cc6 : Prop := (decide (0 < s4)) = true
      refine st_draw 14 (dl [.v (.I s4), .v (.bool (decide (0 < s4))), .v (.bool (decide (0 < s4))), .g cc6 (v1), .g cc6 (.I s4), .h cc6 fun τ v => ∃ (b9 of10 : Nat) (vsb9 : K4), (.pointer (some ⟨b9, of10, none⟩) : Value) = v ∧ CelN τ ⟨b9, of10, none⟩ vsb9 ∧ (kI .i64).rep τ vsb9 q7, .g cc6 (.I q7), .g cc6 (v1), .g cc6 (.I s4), .g cc6 (.I (i64.wrap (s4 - 1))), .h cc6 fun τ v => ∃ (b14 of15 : Nat) (vsb14 : K4), (.pointer (some ⟨b14, of15, none⟩) : Value) = v ∧ CelN τ ⟨b14, of15, none⟩ vsb14 ∧ (kI .i64).rep τ vsb14 q12, .g cc6 (.I q12), .g cc6 (.bool (decide (q7 ≤ q12))), .v (.bool ((decide (0 < s4)) && (decide (q7 ≤ q12))))]) (fun _ _ => []) z_mix rfl (dl_mono ⟨fun _ _ _ hl ⟨b9, of10, vsb9, hv, hc11, hrepb9⟩ => ⟨b9, of10, vsb9, hv, hc11.up hl, Kd.mono _ hl hrepb9⟩, ⟨fun _ _ _ hl ⟨b14, of15, vsb14, hv, hc16, hrepb14⟩ => ⟨b14, of15, vsb14, hv, hc16.up hl, Kd.mono _ hl hrepb14⟩, trivial⟩⟩) (allB_cons (allB_cons (allB_cons (allB_cons (allB_cons (allB_cons (allB_cons (allB_cons (allB_cons (allB_cons (allB_cons (allB_cons (allB_cons (allB_cons allB_nil (p1 dA)) (p1 dA)) (p1 dA)) (p1 (dG []))) (p1 (dG []))) ?_) ?_) (p1 (dG []))) (p1 (dG []))) (p1 (dG [8]))) ?_) ?_) (p1 (dG [6, 11]))) (p1 dK)) ?_
      ·intro ρ' τ pq rs hl hd hq hk
       obtain ⟨_, e2, rfl⟩ := hd 2 rfl
       obtain ⟨w3, e3, t3⟩ := hd 3 rfl
       obtain ⟨w4, e4, t4⟩ := hd 4 rfl
       by_cases hG : (decide (0 < s4)) = true
       ·have hC := hG
        replace hf8 := hf8 hC
        obtain ⟨rfl⟩ := t4.1 hC
        obtain ⟨rfl⟩ := t3.1 hC
        refine o_index rfl (wants_of rfl e2 hG) rfl z_slT31 rfl e3 (hs2.up ((hl4.trans hl5).trans hl)) e4 hf8 (fun b9 of10 vsb9 hc11 hrepb9 => ?_)
        exact st_addNil (hk _ _ LR ⟨fun _ => ⟨b9, of10, _, rfl, hc11, hrepb9⟩, fun hn => absurd hC hn⟩)
       ·refine st_pass rfl rfl rfl e2 (beq_off hG) rfl ?_
        exact st_addNil (hk _ _ LR ⟨fun h => absurd h hG, fun _ => rfl⟩)
      ·intro ρ' τ pq rs hl hd hq hk
       obtain ⟨_, e2, rfl⟩ := hd 2 rfl
       obtain ⟨w5, e5, t5⟩ := hd 5 rfl
       by_cases hG : (decide (0 < s4)) = true
       ·have hC := hG
        obtain ⟨b9, of10, vsb9, rfl, hc11, hrepb9⟩ := t5.1 hC
        have hrepb9 := hrepb9
        obtain rfl := hrepb9
        refine o_loadI (v := .I q7) rfl (wants_of rfl e2 hG) rfl z_sc3 e5 (hc11 0 _ rfl) ?_
        exact st_addNil (hk _ _ LR ⟨fun _ => rfl, fun hn => absurd hC hn⟩)
       ·refine st_pass rfl rfl rfl e2 (beq_off hG) rfl ?_
        exact st_addNil (hk _ _ LR ⟨fun h => absurd h hG, fun _ => rfl⟩)
      ·intro ρ' τ pq rs hl hd hq hk
       obtain ⟨_, e2, rfl⟩ := hd 2 rfl
       obtain ⟨w7, e7, t7⟩ := hd 7 rfl
       obtain ⟨w9, e9, t9⟩ := hd 9 rfl
       by_cases hG : (decide (0 < s4)) = true
       ·have hC := hG
        replace hf13 := hf13 hC
        obtain ⟨rfl⟩ := t7.1 hC
        obtain ⟨rfl⟩ := t9.1 hC
        refine o_index rfl (wants_of rfl e2 hG) rfl z_slT31 rfl e7 (hs2.up ((hl4.trans hl5).trans hl)) e9 hf13 (fun b14 of15 vsb14 hc16 hrepb14 => ?_)
        exact st_addNil (hk _ _ LR ⟨fun _ => ⟨b14, of15, _, rfl, hc16, hrepb14⟩, fun hn => absurd hC hn⟩)
       ·refine st_pass rfl rfl rfl e2 (beq_off hG) rfl ?_
        exact st_addNil (hk _ _ LR ⟨fun h => absurd h hG, fun _ => rfl⟩)
      ·intro ρ' τ pq rs hl hd hq hk
       obtain ⟨_, e2, rfl⟩ := hd 2 rfl
       obtain ⟨w10, e10, t10⟩ := hd 10 rfl
       by_cases hG : (decide (0 < s4)) = true
       ·have hC := hG
        obtain ⟨b14, of15, vsb14, rfl, hc16, hrepb14⟩ := t10.1 hC
        have hrepb14 := hrepb14
        obtain rfl := hrepb14
        refine o_loadI (v := .I q12) rfl (wants_of rfl e2 hG) rfl z_sc3 e10 (hc16 0 _ rfl) ?_
        exact st_addNil (hk _ _ LR ⟨fun _ => rfl, fun hn => absurd hC hn⟩)
       ·refine st_pass rfl rfl rfl e2 (beq_off hG) rfl ?_
        exact st_addNil (hk _ _ LR ⟨fun h => absurd h hG, fun _ => rfl⟩)
      intro ρ' τ17 vals hl17 hv hq
      refine st_ord [] _ rfl ?_
      refine st_env (ρ' := [(41, .bool ((decide (0 < s4)) && (decide (q7 ≤ q12)))), (0, v1), (2, .I 0), (3, .I s4)]) ⟨(lv1 hv 13 rfl rfl), oT hq 0, oT hq 2, oT hq 3, trivial⟩ ?_
      refine st_end ?_
      refine I2 h (fun h => ?_) (fun h => ?_)
      ·refine Z 4 ?_
       obtain rfl := he4 _ h
       replace h := hA4
       obtain rfl := h.symm
       exact RT func54 rfl ((hl4.trans hl5).trans hl17) ⟨rfl, rfl⟩
      ·refine Z 7 ?_
       exact hn4 _ _ _ _ h ⟨((hl4.trans hl5).trans hl17), rfl, rfl⟩
    refine Z 3 ?_
    obtain ⟨q18, hf19, h⟩ := h
    refine o_index rfl rfl rfl z_slT31 rfl rfl (hs2.up hl4) rfl hf19 (fun b20 of21 vs hc22 hrep => ?_)
    obtain rfl := hrep
    refine o_loadI (v := .I q18) rfl rfl rfl z_sc3 rfl (hc22 0 _ rfl) ?_
    refine o_ibin (v := .bool (decide (q18 < 0))) rfl rfl rfl rfl rfl rfl ?_
    refine M2 h (fun h => ?_) (fun h => ?_)
    ·refine Z 7 ?_
     exact hk5 _ _ _ ⟨true, h, LR, rfl, rfl⟩
    ·refine Z 2 ?_
     obtain ⟨q23, hf24, h⟩ := h
     refine o_index rfl rfl rfl z_slT31 rfl rfl (hs2.up hl4) rfl hf24 (fun b25 of26 vs hc27 hrep => ?_)
     obtain rfl := hrep
     refine o_loadI (v := .I q23) rfl rfl rfl z_sc3 rfl (hc27 0 _ rfl) (Z 3 ?_)
     exact hk5 _ _ _ ⟨(decide (65535 < q23)), h, LR, rfl, rfl⟩
   ·refine st_exit rfl ?_
    obtain rfl := he4 _ h
    replace h := hA4
    exact hk3 _ _ _ ⟨(), h, hl4, rfl, rfl⟩
theorem ref17_text_ok {a0 : ByteArray} {a1 r : Int} (h : ref17_text a0 a1 r) (σ : Sto)  :
    Does prog 55 [.string a0, .I a1] σ [] (fun v τ gs => gs = [] ∧ .I r = v) := by
 refine CO func55 ntmps55 rfl (fun cs fs => Z 12 ?_)
 refine I2 h (fun h => ?_) (fun h => ?_)
 ·refine Z 4 ?_
  obtain rfl := h.symm
  exact RT func55 rfl LR ⟨rfl, rfl⟩
 ·refine Z 2 ?_
  refine cutS σ (fun (s1 : Unit) => ref17_text_j1 s1 r) (fun s1 => [(4, .I 0)]) (fun s1 => []) (fun s1 τ1 h hl1 => (Z 4 ?_)) (fun hk1 => ?_)
  ·obtain rfl := h.symm
   exact RT func55 rfl hl1 ⟨rfl, rfl⟩
  refine Z 4 ?_
  obtain ⟨e2, hL2, hA2⟩ := h
  refine st_loop hL2 (fun (s2 : Int) ρ τ2 gs => σ.Le τ2 ∧ ESub ρ [(0, .string a0), (4, .I 0), (5, .I s2)] ∧ gs = []) ⟨LR, rfl, rfl⟩ ?_
  rintro s2 o2 h he2 ρ2 τ2 gs2 ⟨hl2, hρ, rfl⟩ hn2
  refine st_es hρ (Z 8 ?_)
  refine I2 h (fun h => ?_) (fun h => ?_)
  ·refine Z 4 ?_
   refine cutS τ2 (fun (s3 : Bool) => ref17_text_j3 s2 s3 o2) (fun s3 => [(0, .string a0), (4, .I 0), (5, .I s2), (25, .bool s3)]) (fun s3 => []) (fun s3 τ3 h hl3 => ?_) (fun hk3 => ?_)
   ·refine I2 h (fun h => ?_) (fun h => ?_)
    ·refine Z 4 ?_
     obtain rfl := he2 _ h
     replace h := hA2
     obtain rfl := h.symm
     exact RT func55 rfl (hl2.trans hl3) ⟨rfl, rfl⟩
    ·refine Z 7 ?_
     exact hn2 _ _ _ _ h ⟨(hl2.trans hl3), rfl, rfl⟩
   refine Z 3 ?_
   obtain ⟨q4, hf5, h⟩ := h
   refine o_indexS rfl rfl rfl underlying9 rfl rfl hf5 ?_
   refine o_ibin (v := .bool (decide (q4 < 32))) rfl rfl rfl rfl rfl rfl ?_
   refine M2 h (fun h => ?_) (fun h => ?_)
   ·refine Z 6 ?_
    exact hk3 _ _ _ ⟨true, h, LR, rfl, rfl⟩
   ·refine Z 2 ?_
    obtain ⟨q6, hf7, h⟩ := h
    refine o_indexS rfl rfl rfl underlying9 rfl rfl hf7 (Z 3 ?_)
    exact hk3 _ _ _ ⟨(decide (126 < q6)), h, LR, rfl, rfl⟩
  ·refine st_exit rfl ?_
   obtain rfl := he2 _ h
   replace h := hA2
   exact hk1 _ _ _ ⟨(), h, hl2, rfl, rfl⟩
theorem ref17_Check_ok {a0 : TyR} {v1 v2 : Value} {r : Int} (h : ref17_Check a0 r) (σ : Sto) (hs3 : Sl (kA .i64 2) σ v1 a0.2.2.1) (hs4 : Sl (kI .i64) σ v2 a0.2.2.2.1) :
    Does prog 28 [.agg (lM a0 v1 v2).toArray] σ [] (fun v τ gs => gs = [] ∧ .I r = v) := by
 refine CO func28 ntmps28 rfl (fun cs fs => Z 2 ?_)
 refine o_box (cs := (lM a0 v1 v2)) rfl rfl rfl rfl rfl (fun b5 => ZZ 6 [0] ?_)
 obtain ⟨r6, hr7, h⟩ := h
 refine SC z_en52 (ref16_All_ok hr7 σ) ?_
 rintro _ τ8 _ hl9 ⟨v10, rfl, rfl, hs11⟩
 refine Z 6 ?_
 refine o_lenI rfl rfl rfl z_slT109 rfl hs11 (Z 2 ?_)
 refine I2 h (fun h => ?_) (fun h => ?_)
 ·refine Z 4 ?_
  obtain rfl := h.symm
  exact RT func28 rfl hl9 ⟨rfl, rfl⟩
 ·refine Z 3 ?_
  refine o_alloc rfl rfl rfl z_zero111 (fun b12 => Z 3 ?_)
  refine o_alloc rfl rfl rfl z_zero112 (fun b13 => Z 2 ?_)
  refine cutS τ8 (fun (s14 : K15) => ref17_Check_j1 a0 s14 r) (fun s14 => [(1, .Pb b5), (2, .I 0), (4, .Pb b12), (5, .Pb b13)]) (fun s14 => [[(b5, .cells (lM a0 v1 v2).toArray 41 (0, 0))], [(b12, .cells #[.bool s14.1, .bool s14.2.1, .bool s14.2.2.1, .bool s14.2.2.2.1, .bool s14.t4.1, .bool s14.t4.2.1, .bool s14.t4.2.2.1] 111 (0, 0))], [(b13, .cells #[.bool s14.t4.2.2.2.1, .bool s14.t4.t4.1, .bool s14.t4.t4.2.1, .bool s14.t4.t4.2.2.1, .bool s14.t4.t4.2.2.2.1, .bool s14.t4.t4.t4] 112 (0, 0))]]) (fun s14 τ14 h hl14 => ?_) (fun hk14 => ?_)
  ·refine st_seq ?_
   refine cutS τ14 (fun (s15 : Unit) => ref17_Check_j2 a0 s14 s15 r) (fun s15 => [(1, .Pb b5), (2, .I 0), (4, .Pb b12)]) (fun s15 => [[(b5, .cells (lM a0 v1 v2).toArray 41 (0, 0))], [(b12, .cells #[.bool s14.1, .bool s14.2.1, .bool s14.2.2.1, .bool s14.2.2.2.1, .bool s14.t4.1, .bool s14.t4.2.1, .bool s14.t4.2.2.1] 111 (0, 0))]]) (fun s15 τ15 h hl15 => (Z 2 ?_)) (fun hk15 => ?_)
   ·refine st_cut (fun ρ τ16 gs => ∃ (s16 : Bool), ref17_Check_j3 s16 r ∧ τ15.Le τ16 ∧ ESub ρ [(2, .I 0), (145, .bool s16)] ∧ gs = []) ?_ (fun hk16 => ?_)
    ·rintro ρ16 τ16 gs16 ⟨s16, h, hl16, hρ, rfl⟩
     refine st_es hρ ?_
     refine I2 h (fun h => ?_) (fun h => ?_)
     ·refine Z 4 ?_
      obtain rfl := h.symm
      exact RT func28 rfl (((hl9.trans hl14).trans hl15).trans hl16) ⟨rfl, rfl⟩
     ·refine Z 5 ?_
      obtain rfl := h.symm
      exact RT func28 rfl (((hl9.trans hl14).trans hl15).trans hl16) ⟨rfl, rfl⟩
    refine st_region ?_
    refine o_indexA rfl rfl rfl z_arr111 rfl rfl (by decide) (by decide) (ZZ 2 [1] ?_)
    refine M2 h (fun h => ?_) (fun h => ?_)
    ·refine ZZ 2 [0] ?_
     refine o_lenI rfl rfl rfl z_slT39 rfl (hs3.up ((hl9.trans hl14).trans hl15)) (Z 2 ?_)
     refine M2 h (fun h => ?_) (fun h => ?_)
     ·refine Z 31 ?_
      refine st_ord [] _ rfl ?_
      exact hk16 _ _ _ ⟨true, h, LR, rfl, rfl⟩
     ·refine o_indexA rfl rfl rfl z_arr111 rfl rfl (by decide) (by decide) (ZZ 2 [1] ?_)
      refine M2 h (fun h => ?_) (fun h => ?_)
      ·refine ZZ 2 [0] ?_
       refine o_lenI rfl rfl rfl z_slT31 rfl (hs4.up ((hl9.trans hl14).trans hl15)) (Z 3 ?_)
       refine M2 h (fun h => ?_) (fun h => ?_)
       ·refine Z 20 ?_
        refine st_ord [] _ rfl ?_
        exact hk16 _ _ _ ⟨true, h, LR, rfl, rfl⟩
       ·refine o_indexA rfl rfl rfl z_arr111 rfl rfl (by decide) (by decide) (ZZ 2 [1] ?_)
        refine M2 h (fun h => ?_) (fun h => ?_)
        ·refine ZZ 2 [0] ?_
         refine o_sbin (v := .bool (!(decide (a0.t4.1 = (bstr []))))) rfl rfl rfl rfl (ev_str z_str19) rfl (Z 2 ?_)
         refine M2 h (fun h => ?_) (fun h => ?_)
         ·refine Z 10 ?_
          refine st_ord [] _ rfl ?_
          exact hk16 _ _ _ ⟨true, h, LR, rfl, rfl⟩
         ·refine o_indexA rfl rfl rfl z_arr111 rfl rfl (by decide) (by decide) (ZZ 2 [1] ?_)
          refine M2 h (fun h => ?_) (fun h => ?_)
          ·refine ZZ 2 [0] ?_
           refine o_sbin (v := .bool (!(decide (a0.t4.2 = (bstr []))))) rfl rfl rfl rfl (ev_str z_str19) rfl (Z 3 ?_)
           refine st_ord [] _ rfl ?_
           exact hk16 _ _ _ ⟨(!(decide (a0.t4.2 = (bstr [])))), h, LR, rfl, rfl⟩
          ·refine Z 6 ?_
           refine st_ord [] _ rfl ?_
           exact hk16 _ _ _ ⟨false, h, LR, rfl, rfl⟩
        ·refine Z 6 ?_
         refine o_indexA rfl rfl rfl z_arr111 rfl rfl (by decide) (by decide) (ZZ 2 [1] ?_)
         refine M2 h (fun h => ?_) (fun h => ?_)
         ·refine ZZ 2 [0] ?_
          refine o_sbin (v := .bool (!(decide (a0.t4.2 = (bstr []))))) rfl rfl rfl rfl (ev_str z_str19) rfl (Z 3 ?_)
          refine st_ord [] _ rfl ?_
          exact hk16 _ _ _ ⟨(!(decide (a0.t4.2 = (bstr [])))), h, LR, rfl, rfl⟩
         ·refine Z 6 ?_
          refine st_ord [] _ rfl ?_
          exact hk16 _ _ _ ⟨false, h, LR, rfl, rfl⟩
      ·refine Z 7 ?_
       refine o_indexA rfl rfl rfl z_arr111 rfl rfl (by decide) (by decide) (ZZ 2 [1] ?_)
       refine M2 h (fun h => ?_) (fun h => ?_)
       ·refine ZZ 2 [0] ?_
        refine o_sbin (v := .bool (!(decide (a0.t4.1 = (bstr []))))) rfl rfl rfl rfl (ev_str z_str19) rfl (Z 2 ?_)
        refine M2 h (fun h => ?_) (fun h => ?_)
        ·refine Z 10 ?_
         refine st_ord [] _ rfl ?_
         exact hk16 _ _ _ ⟨true, h, LR, rfl, rfl⟩
        ·refine o_indexA rfl rfl rfl z_arr111 rfl rfl (by decide) (by decide) (ZZ 2 [1] ?_)
         refine M2 h (fun h => ?_) (fun h => ?_)
         ·refine ZZ 2 [0] ?_
          refine o_sbin (v := .bool (!(decide (a0.t4.2 = (bstr []))))) rfl rfl rfl rfl (ev_str z_str19) rfl (Z 3 ?_)
          refine st_ord [] _ rfl ?_
          exact hk16 _ _ _ ⟨(!(decide (a0.t4.2 = (bstr [])))), h, LR, rfl, rfl⟩
         ·refine Z 6 ?_
          refine st_ord [] _ rfl ?_
          exact hk16 _ _ _ ⟨false, h, LR, rfl, rfl⟩
       ·refine Z 6 ?_
        refine o_indexA rfl rfl rfl z_arr111 rfl rfl (by decide) (by decide) (ZZ 2 [1] ?_)
        refine M2 h (fun h => ?_) (fun h => ?_)
        ·refine ZZ 2 [0] ?_
         refine o_sbin (v := .bool (!(decide (a0.t4.2 = (bstr []))))) rfl rfl rfl rfl (ev_str z_str19) rfl (Z 3 ?_)
         refine st_ord [] _ rfl ?_
         exact hk16 _ _ _ ⟨(!(decide (a0.t4.2 = (bstr [])))), h, LR, rfl, rfl⟩
        ·refine Z 6 ?_
         refine st_ord [] _ rfl ?_
         exact hk16 _ _ _ ⟨false, h, LR, rfl, rfl⟩
    ·refine Z 6 ?_
     refine o_indexA rfl rfl rfl z_arr111 rfl rfl (by decide) (by decide) (ZZ 2 [1] ?_)
     refine M2 h (fun h => ?_) (fun h => ?_)
     ·refine ZZ 2 [0] ?_
      refine o_lenI rfl rfl rfl z_slT31 rfl (hs4.up ((hl9.trans hl14).trans hl15)) (Z 3 ?_)
      refine M2 h (fun h => ?_) (fun h => ?_)
      ·refine Z 20 ?_
       refine st_ord [] _ rfl ?_
       exact hk16 _ _ _ ⟨true, h, LR, rfl, rfl⟩
      ·refine o_indexA rfl rfl rfl z_arr111 rfl rfl (by decide) (by decide) (ZZ 2 [1] ?_)
       refine M2 h (fun h => ?_) (fun h => ?_)
       ·refine ZZ 2 [0] ?_
        refine o_sbin (v := .bool (!(decide (a0.t4.1 = (bstr []))))) rfl rfl rfl rfl (ev_str z_str19) rfl (Z 2 ?_)
        refine M2 h (fun h => ?_) (fun h => ?_)
        ·refine Z 10 ?_
         refine st_ord [] _ rfl ?_
         exact hk16 _ _ _ ⟨true, h, LR, rfl, rfl⟩
        ·refine o_indexA rfl rfl rfl z_arr111 rfl rfl (by decide) (by decide) (ZZ 2 [1] ?_)
         refine M2 h (fun h => ?_) (fun h => ?_)
         ·refine ZZ 2 [0] ?_
          refine o_sbin (v := .bool (!(decide (a0.t4.2 = (bstr []))))) rfl rfl rfl rfl (ev_str z_str19) rfl (Z 3 ?_)
          refine st_ord [] _ rfl ?_
          exact hk16 _ _ _ ⟨(!(decide (a0.t4.2 = (bstr [])))), h, LR, rfl, rfl⟩
         ·refine Z 6 ?_
          refine st_ord [] _ rfl ?_
          exact hk16 _ _ _ ⟨false, h, LR, rfl, rfl⟩
       ·refine Z 6 ?_
        refine o_indexA rfl rfl rfl z_arr111 rfl rfl (by decide) (by decide) (ZZ 2 [1] ?_)
        refine M2 h (fun h => ?_) (fun h => ?_)
        ·refine ZZ 2 [0] ?_
         refine o_sbin (v := .bool (!(decide (a0.t4.2 = (bstr []))))) rfl rfl rfl rfl (ev_str z_str19) rfl (Z 3 ?_)
         refine st_ord [] _ rfl ?_
         exact hk16 _ _ _ ⟨(!(decide (a0.t4.2 = (bstr [])))), h, LR, rfl, rfl⟩
        ·refine Z 6 ?_
         refine st_ord [] _ rfl ?_
         exact hk16 _ _ _ ⟨false, h, LR, rfl, rfl⟩
     ·refine Z 7 ?_
      refine o_indexA rfl rfl rfl z_arr111 rfl rfl (by decide) (by decide) (ZZ 2 [1] ?_)
      refine M2 h (fun h => ?_) (fun h => ?_)
      ·refine ZZ 2 [0] ?_
       refine o_sbin (v := .bool (!(decide (a0.t4.1 = (bstr []))))) rfl rfl rfl rfl (ev_str z_str19) rfl (Z 2 ?_)
       refine M2 h (fun h => ?_) (fun h => ?_)
       ·refine Z 10 ?_
        refine st_ord [] _ rfl ?_
        exact hk16 _ _ _ ⟨true, h, LR, rfl, rfl⟩
       ·refine o_indexA rfl rfl rfl z_arr111 rfl rfl (by decide) (by decide) (ZZ 2 [1] ?_)
        refine M2 h (fun h => ?_) (fun h => ?_)
        ·refine ZZ 2 [0] ?_
         refine o_sbin (v := .bool (!(decide (a0.t4.2 = (bstr []))))) rfl rfl rfl rfl (ev_str z_str19) rfl (Z 3 ?_)
         refine st_ord [] _ rfl ?_
         exact hk16 _ _ _ ⟨(!(decide (a0.t4.2 = (bstr [])))), h, LR, rfl, rfl⟩
        ·refine Z 6 ?_
         refine st_ord [] _ rfl ?_
         exact hk16 _ _ _ ⟨false, h, LR, rfl, rfl⟩
      ·refine Z 6 ?_
       refine o_indexA rfl rfl rfl z_arr111 rfl rfl (by decide) (by decide) (ZZ 2 [1] ?_)
       refine M2 h (fun h => ?_) (fun h => ?_)
       ·refine ZZ 2 [0] ?_
        refine o_sbin (v := .bool (!(decide (a0.t4.2 = (bstr []))))) rfl rfl rfl rfl (ev_str z_str19) rfl (Z 3 ?_)
        refine st_ord [] _ rfl ?_
        exact hk16 _ _ _ ⟨(!(decide (a0.t4.2 = (bstr [])))), h, LR, rfl, rfl⟩
       ·refine Z 6 ?_
        refine st_ord [] _ rfl ?_
        exact hk16 _ _ _ ⟨false, h, LR, rfl, rfl⟩
   refine Z 4 ?_
   obtain ⟨e17, hL17, hA17⟩ := h
   refine st_loop hL17 (fun (s17 : Int) ρ τ17 gs => τ14.Le τ17 ∧ ESub ρ [(1, .Pb b5), (2, .I 0), (4, .Pb b12), (5, .Pb b13), (8, .I s17)] ∧ gs = [[(b5, .cells (lM a0 v1 v2).toArray 41 (0, 0))], [(b12, .cells #[.bool s14.1, .bool s14.2.1, .bool s14.2.2.1, .bool s14.2.2.2.1, .bool s14.t4.1, .bool s14.t4.2.1, .bool s14.t4.2.2.1] 111 (0, 0))], [(b13, .cells #[.bool s14.t4.2.2.2.1, .bool s14.t4.t4.1, .bool s14.t4.t4.2.1, .bool s14.t4.t4.2.2.1, .bool s14.t4.t4.2.2.2.1, .bool s14.t4.t4.t4] 112 (0, 0))]]) ⟨LR, rfl, rfl⟩ ?_
   rintro s17 o17 h he17 ρ17 τ17 gs17 ⟨hl17, hρ, rfl⟩ hn17
   refine st_es hρ (Z 6 ?_)
   refine I2 h (fun h => ?_) (fun h => ?_)
   ·refine Z 4 ?_
    refine cutS τ17 (fun (s18 : Bool) => ref17_Check_j5 s17 s18 o17) (fun s18 => [(1, .Pb b5), (2, .I 0), (4, .Pb b12), (5, .Pb b13), (8, .I s17), (105, .bool s18)]) (fun s18 => [[(b5, .cells (lM a0 v1 v2).toArray 41 (0, 0))], [(b12, .cells #[.bool s14.1, .bool s14.2.1, .bool s14.2.2.1, .bool s14.2.2.2.1, .bool s14.t4.1, .bool s14.t4.2.1, .bool s14.t4.2.2.1] 111 (0, 0))], [(b13, .cells #[.bool s14.t4.2.2.2.1, .bool s14.t4.t4.1, .bool s14.t4.t4.2.1, .bool s14.t4.t4.2.2.1, .bool s14.t4.t4.2.2.2.1, .bool s14.t4.t4.t4] 112 (0, 0))]]) (fun s18 τ18 h hl18 => ?_) (fun hk18 => ?_)
    ·refine I2 h (fun h => ?_) (fun h => ?_)
     ·refine Z 4 ?_
      refine st_ord [] _ rfl ?_
      obtain rfl := he17 _ h
      replace h := hA17
      obtain rfl := h.symm
      exact RT func28 rfl (((hl9.trans hl14).trans hl17).trans hl18) ⟨rfl, rfl⟩
     ·refine Z 7 ?_
      exact hn17 _ _ _ _ h ⟨(hl17.trans hl18), rfl, rfl⟩
    refine Z 2 ?_
    obtain ⟨hf19, hf20, h⟩ := h
    refine o_indexA rfl rfl rfl z_arr112 rfl rfl hf19 hf20 ?_
    refine o_loadV (j := 2) (s17.toNat) (f := Value.bool) (zz := false) (l := 6) (xs := [s14.t4.2.2.2.1, s14.t4.t4.1, s14.t4.t4.2.1, s14.t4.t4.2.2.1, s14.t4.t4.2.2.2.1, s14.t4.t4.t4]) [] [] rfl rfl rfl z_sc4 rfl rfl (by simp only [List.length_cons, List.length_nil] <;> omega) (by omega) ?_
    refine o_not rfl rfl rfl rfl ?_
    refine M2 h (fun h => ?_) (fun h => ?_)
    ·refine Z 2 ?_
     obtain ⟨hf21, hf22, h⟩ := h
     refine o_indexA rfl rfl rfl z_arr29 rfl rfl hf21 hf22 ?_
     refine o_loadV (j := 0) (s17.toNat) (f := (Value.int .i64)) (zz := 0) (l := 6) (xs := a0.2.1) [.I a0.1] [v1, v2, .string a0.t4.1, .string a0.t4.2] rfl rfl rfl z_sc3 rfl rfl (by simp only [List.length_cons, List.length_nil] <;> omega) (by omega) (Z 3 ?_)
     exact hk18 _ _ _ ⟨(!(decide ((a0.2.1.getD s17.toNat 0) = 0))), h, LR, rfl, rfl⟩
    ·refine Z 7 ?_
     exact hk18 _ _ _ ⟨false, h, LR, rfl, rfl⟩
   ·refine st_exit rfl ?_
    obtain rfl := he17 _ h
    replace h := hA17
    refine st_ord [0, 0] _ rfl ?_
    exact hk15 _ _ _ ⟨(), h, hl17, rfl, rfl⟩
  refine Z 4 ?_
  obtain ⟨e25, hL25, hA25⟩ := h
  refine st_ord [2, 1, 0] _ rfl ?_
  refine st_loop hL25 (fun (s25 : K21) ρ τ25 gs => τ8.Le τ25 ∧ ESub ρ [(1, .Pb b5), (2, .I 0), (3, v10), (4, .Pb b12), (5, .Pb b13), (6, .I s25.1)] ∧ gs = [[(b5, .cells (lM a0 v1 v2).toArray 41 (0, 0))], [(b12, .cells #[.bool s25.2.1, .bool s25.2.2.1, .bool s25.2.2.2.1, .bool s25.t4.1, .bool s25.t4.2.1, .bool s25.t4.2.2.1, .bool s25.t4.2.2.2.1] 111 (0, 0))], [(b13, .cells #[.bool s25.t4.t4.1, .bool s25.t4.t4.2.1, .bool s25.t4.t4.2.2.1, .bool s25.t4.t4.2.2.2.1, .bool s25.t4.t4.t4.1, .bool s25.t4.t4.t4.2] 112 (0, 0))]]) ⟨LR, rfl, rfl⟩ ?_
  rintro s25 o25 h he25 ρ25 τ25 gs25 ⟨hl25, hρ, rfl⟩ hn25
  refine st_es hρ (Z 5 ?_)
  refine o_lenI rfl rfl rfl z_slT109 rfl (hs11.up hl25) (Z 2 ?_)
  refine I2 h (fun h => ?_) (fun h => ?_)
  ·refine Z 11 ?_
   obtain ⟨q26, hf27, h⟩ := h
   refine o_index rfl rfl rfl z_slT109 rfl rfl (hs11.up hl25) rfl hf27 (fun b28 of29 vs hc30 hrep => ?_)
   obtain ⟨_, _, rfl, rfl, ⟨_, _, rfl, rfl, ⟨_, _, rfl, rfl, ⟨_, _, rfl, rfl, ⟨_, _, rfl, rfl, ⟨_, _, rfl, rfl, rfl⟩⟩⟩⟩⟩⟩ := hrep
   refine o_fieldAddr rfl rfl rfl z_field114_1 rfl ?_
   refine o_loadI (v := .I q26.2.1) rfl rfl rfl z_sc3 rfl (hc30 1 _ rfl) ?_
   obtain ⟨hf31, hf32, h⟩ := h
   refine o_indexA rfl rfl rfl z_arr111 rfl rfl hf31 hf32 ?_
   refine o_storeV (j := 1) (q26.2.1.toNat) (f := Value.bool) (zz := false) (a := true) (l := 7) (xs := [s25.2.1, s25.2.2.1, s25.2.2.2.1, s25.t4.1, s25.t4.2.1, s25.t4.2.2.1, s25.t4.2.2.2.1]) [] [] rfl rfl rfl z_size4 rfl rfl rfl rfl rfl (by simp only [List.length_cons, List.length_nil] <;> omega) (by omega) (Z 2 ?_)
   refine cutS τ25 (fun (s33 : Int × Bool × Bool × Bool × Bool × Bool × Bool) => ref17_Check_j7 s25 q26 s33 o25) (fun s33 => [(1, .Pb b5), (2, .I 0), (3, v10), (4, .Pb b12), (5, .Pb b13), (6, .I s25.1), (7, .I s33.1)]) (fun s33 => [[(b5, .cells (lM a0 v1 v2).toArray 41 (0, 0))], [(b12, .cells #[.bool ((putN 7 false [s25.2.1, s25.2.2.1, s25.2.2.2.1, s25.t4.1, s25.t4.2.1, s25.t4.2.2.1, s25.t4.2.2.2.1] q26.2.1.toNat true).getD 0 false), .bool ((putN 7 false [s25.2.1, s25.2.2.1, s25.2.2.2.1, s25.t4.1, s25.t4.2.1, s25.t4.2.2.1, s25.t4.2.2.2.1] q26.2.1.toNat true).getD 1 false), .bool ((putN 7 false [s25.2.1, s25.2.2.1, s25.2.2.2.1, s25.t4.1, s25.t4.2.1, s25.t4.2.2.1, s25.t4.2.2.2.1] q26.2.1.toNat true).getD 2 false), .bool ((putN 7 false [s25.2.1, s25.2.2.1, s25.2.2.2.1, s25.t4.1, s25.t4.2.1, s25.t4.2.2.1, s25.t4.2.2.2.1] q26.2.1.toNat true).getD 3 false), .bool ((putN 7 false [s25.2.1, s25.2.2.1, s25.2.2.2.1, s25.t4.1, s25.t4.2.1, s25.t4.2.2.1, s25.t4.2.2.2.1] q26.2.1.toNat true).getD 4 false), .bool ((putN 7 false [s25.2.1, s25.2.2.1, s25.2.2.2.1, s25.t4.1, s25.t4.2.1, s25.t4.2.2.1, s25.t4.2.2.2.1] q26.2.1.toNat true).getD 5 false), .bool ((putN 7 false [s25.2.1, s25.2.2.1, s25.2.2.2.1, s25.t4.1, s25.t4.2.1, s25.t4.2.2.1, s25.t4.2.2.2.1] q26.2.1.toNat true).getD 6 false)] 111 (0, 0))], [(b13, .cells #[.bool s33.2.1, .bool s33.2.2.1, .bool s33.2.2.2.1, .bool s33.t4.1, .bool s33.t4.2.1, .bool s33.t4.2.2] 112 (0, 0))]]) (fun s33 τ33 h hl33 => (Z 5 ?_)) (fun hk33 => ?_)
   ·refine I2 h (fun h => ?_) (fun h => ?_)
    ·refine Z 5 ?_
     refine st_ord [] _ rfl ?_
     obtain rfl := he25 _ h
     replace h := hA25
     obtain rfl := h.symm
     exact RT func28 rfl ((hl9.trans hl25).trans hl33) ⟨rfl, rfl⟩
    ·refine Z 7 ?_
     exact hn25 _ _ _ _ h ⟨(hl25.trans hl33), rfl, rfl⟩
   refine Z 4 ?_
   obtain ⟨q34, hf35, h⟩ := h
   refine o_index rfl rfl rfl z_slT109 rfl rfl (hs11.up hl25) rfl hf35 (fun b36 of37 vs hc38 hrep => ?_)
   obtain ⟨_, _, rfl, rfl, ⟨_, _, rfl, rfl, ⟨_, _, rfl, rfl, ⟨_, _, rfl, rfl, ⟨_, _, rfl, rfl, ⟨_, _, rfl, rfl, rfl⟩⟩⟩⟩⟩⟩ := hrep
   refine o_fieldAddr rfl rfl rfl z_field114_1 rfl ?_
   refine o_loadI (v := .I q34.2.1) rfl rfl rfl z_sc3 rfl (hc38 1 _ rfl) (Z 7 ?_)
   refine I2 h (fun h => ?_) (fun h => ?_)
   ·refine ZZ 3 [0] ?_
    obtain ⟨r39, hr40, h⟩ := h
    refine SC z_en53 (ref17_path_ok hr40 τ25 (hs3.up (hl9.trans hl25))) ?_
    rintro _ τ41 _ hl42 ⟨rfl, rfl⟩
    refine Z 3 ?_
    exact hk33 _ _ _ ⟨(r39, s25.t4.t4.1, s25.t4.t4.2.1, s25.t4.t4.2.2.1, s25.t4.t4.2.2.2.1, s25.t4.t4.t4.1, s25.t4.t4.t4.2), h, hl42, rfl, rfl⟩
   ·refine Z 5 ?_
    refine I2 h (fun h => ?_) (fun h => ?_)
    ·refine ZZ 3 [0] ?_
     obtain ⟨r43, hr44, h⟩ := h
     refine SC z_en54 (ref17_cells_ok hr44 τ25 (hs4.up (hl9.trans hl25))) ?_
     rintro _ τ45 _ hl46 ⟨rfl, rfl⟩
     refine Z 3 ?_
     exact hk33 _ _ _ ⟨(r43, s25.t4.t4.1, s25.t4.t4.2.1, s25.t4.t4.2.2.1, s25.t4.t4.2.2.2.1, s25.t4.t4.t4.1, s25.t4.t4.t4.2), h, hl46, rfl, rfl⟩
    ·refine Z 5 ?_
     refine I2 h (fun h => ?_) (fun h => ?_)
     ·refine ZZ 3 [0] ?_
      obtain ⟨r47, hr48, h⟩ := h
      refine SC z_en55 (ref17_text_ok hr48 τ25) ?_
      rintro _ τ49 _ hl50 ⟨rfl, rfl⟩
      refine Z 3 ?_
      exact hk33 _ _ _ ⟨(r47, s25.t4.t4.1, s25.t4.t4.2.1, s25.t4.t4.2.2.1, s25.t4.t4.2.2.2.1, s25.t4.t4.t4.1, s25.t4.t4.t4.2), h, hl50, rfl, rfl⟩
     ·refine Z 5 ?_
      refine I2 h (fun h => ?_) (fun h => ?_)
      ·refine ZZ 3 [0] ?_
       obtain ⟨r51, hr52, h⟩ := h
       refine SC z_en55 (ref17_text_ok hr52 τ25) ?_
       rintro _ τ53 _ hl54 ⟨rfl, rfl⟩
       refine Z 3 ?_
       exact hk33 _ _ _ ⟨(r51, s25.t4.t4.1, s25.t4.t4.2.1, s25.t4.t4.2.2.1, s25.t4.t4.2.2.2.1, s25.t4.t4.t4.1, s25.t4.t4.t4.2), h, hl54, rfl, rfl⟩
      ·refine Z 4 ?_
       obtain ⟨q55, hf56, h⟩ := h
       refine o_index rfl rfl rfl z_slT109 rfl rfl (hs11.up hl25) rfl hf56 (fun b57 of58 vs hc59 hrep => ?_)
       obtain ⟨_, _, rfl, rfl, ⟨_, _, rfl, rfl, ⟨_, _, rfl, rfl, ⟨_, _, rfl, rfl, ⟨_, _, rfl, rfl, ⟨_, _, rfl, rfl, rfl⟩⟩⟩⟩⟩⟩ := hrep
       refine o_fieldAddr rfl rfl rfl z_field114_2 rfl ?_
       refine o_loadI (v := .I q55.2.2.1) rfl rfl rfl z_sc3 rfl (hc59 2 _ rfl) ?_
       obtain ⟨hf60, hf61, h⟩ := h
       refine o_indexA rfl rfl rfl z_arr112 rfl rfl hf60 hf61 ?_
       refine o_storeV (j := 2) (q55.2.2.1.toNat) (f := Value.bool) (zz := false) (a := true) (l := 6) (xs := [s25.t4.t4.1, s25.t4.t4.2.1, s25.t4.t4.2.2.1, s25.t4.t4.2.2.2.1, s25.t4.t4.t4.1, s25.t4.t4.t4.2]) [] [] rfl rfl rfl z_size4 rfl rfl rfl rfl rfl (by simp only [List.length_cons, List.length_nil] <;> omega) (by omega) (Z 2 ?_)
       obtain ⟨q62, hf63, hf67, hf68, q69, hf70, q75, hf76, hf80, hf81, q82, hf83, h⟩ := h
       let cc74 : Prop := (decide ((a0.2.1.getD q62.2.2.1.toNat 0) < q69.2.2.2.1)) = false
       refine st_draw 30 (dl [.v (v10), .v (.I s25.1), .t fun τ v => ∃ (b64 of65 : Nat) (vsb64 : K4), (.pointer (some ⟨b64, of65, none⟩) : Value) = v ∧ CelN τ ⟨b64, of65, none⟩ vsb64 ∧ (kP kS (kP (kI .i64) (kP (kI .i64) (kP (kI .i64) (kP (kI .i64) (kP (kI .i64) (kI .i64))))))).rep τ vsb64 q62, .t fun τ v => ∃ (b64 of65 : Nat) (vsb64 : K4), (.pointer (some ⟨b64, of65 + 2, none⟩) : Value) = v ∧ CelN τ ⟨b64, of65, none⟩ vsb64 ∧ (kP kS (kP (kI .i64) (kP (kI .i64) (kP (kI .i64) (kP (kI .i64) (kP (kI .i64) (kI .i64))))))).rep τ vsb64 q62, .v (.I q62.2.2.1), .v (.pointer (some ⟨b5, 1, none⟩)), .v (.pointer (some ⟨b5, 1 + q62.2.2.1.toNat * 1, none⟩)), .v (.I (a0.2.1.getD q62.2.2.1.toNat 0)), .v (v10), .v (.I s25.1), .t fun τ v => ∃ (b71 of72 : Nat) (vsb71 : K4), (.pointer (some ⟨b71, of72, none⟩) : Value) = v ∧ CelN τ ⟨b71, of72, none⟩ vsb71 ∧ (kP kS (kP (kI .i64) (kP (kI .i64) (kP (kI .i64) (kP (kI .i64) (kP (kI .i64) (kI .i64))))))).rep τ vsb71 q69, .t fun τ v => ∃ (b71 of72 : Nat) (vsb71 : K4), (.pointer (some ⟨b71, of72 + 3, none⟩) : Value) = v ∧ CelN τ ⟨b71, of72, none⟩ vsb71 ∧ (kP kS (kP (kI .i64) (kP (kI .i64) (kP (kI .i64) (kP (kI .i64) (kP (kI .i64) (kI .i64))))))).rep τ vsb71 q69, .v (.I q69.2.2.2.1), .v (.bool (decide ((a0.2.1.getD q62.2.2.1.toNat 0) < q69.2.2.2.1))), .v (.bool (decide ((a0.2.1.getD q62.2.2.1.toNat 0) < q69.2.2.2.1))), .g cc74 (v10), .g cc74 (.I s25.1), .h cc74 fun τ v => ∃ (b77 of78 : Nat) (vsb77 : K4), (.pointer (some ⟨b77, of78, none⟩) : Value) = v ∧ CelN τ ⟨b77, of78, none⟩ vsb77 ∧ (kP kS (kP (kI .i64) (kP (kI .i64) (kP (kI .i64) (kP (kI .i64) (kP (kI .i64) (kI .i64))))))).rep τ vsb77 q75, .h cc74 fun τ v => ∃ (b77 of78 : Nat) (vsb77 : K4), (.pointer (some ⟨b77, of78 + 2, none⟩) : Value) = v ∧ CelN τ ⟨b77, of78, none⟩ vsb77 ∧ (kP kS (kP (kI .i64) (kP (kI .i64) (kP (kI .i64) (kP (kI .i64) (kP (kI .i64) (kI .i64))))))).rep τ vsb77 q75, .g cc74 (.I q75.2.2.1), .g cc74 (.pointer (some ⟨b5, 1, none⟩)), .g cc74 (.pointer (some ⟨b5, 1 + q75.2.2.1.toNat * 1, none⟩)), .g cc74 (.I (a0.2.1.getD q75.2.2.1.toNat 0)), .g cc74 (v10), .g cc74 (.I s25.1), .h cc74 fun τ v => ∃ (b84 of85 : Nat) (vsb84 : K4), (.pointer (some ⟨b84, of85, none⟩) : Value) = v ∧ CelN τ ⟨b84, of85, none⟩ vsb84 ∧ (kP kS (kP (kI .i64) (kP (kI .i64) (kP (kI .i64) (kP (kI .i64) (kP (kI .i64) (kI .i64))))))).rep τ vsb84 q82, .h cc74 fun τ v => ∃ (b84 of85 : Nat) (vsb84 : K4), (.pointer (some ⟨b84, of85 + 4, none⟩) : Value) = v ∧ CelN τ ⟨b84, of85, none⟩ vsb84 ∧ (kP kS (kP (kI .i64) (kP (kI .i64) (kP (kI .i64) (kP (kI .i64) (kP (kI .i64) (kI .i64))))))).rep τ vsb84 q82, .g cc74 (.I q82.t4.1), .g cc74 (.bool (decide (q82.t4.1 < (a0.2.1.getD q75.2.2.1.toNat 0)))), .v (.bool ((decide ((a0.2.1.getD q62.2.2.1.toNat 0) < q69.2.2.2.1)) || (decide (q82.t4.1 < (a0.2.1.getD q75.2.2.1.toNat 0)))))]) (fun _ _ => []) z_mix rfl (dl_mono (by exact ⟨fun _ _ _ hl ⟨b64, of65, vsb64, hv, hc66, hrepb64⟩ => ⟨b64, of65, vsb64, hv, hc66.up hl, Kd.mono _ hl hrepb64⟩, ⟨fun _ _ _ hl ⟨b64, of65, vsb64, hv, hc66, hrepb64⟩ => ⟨b64, of65, vsb64, hv, hc66.up hl, Kd.mono _ hl hrepb64⟩, ⟨fun _ _ _ hl ⟨b71, of72, vsb71, hv, hc73, hrepb71⟩ => ⟨b71, of72, vsb71, hv, hc73.up hl, Kd.mono _ hl hrepb71⟩, ⟨fun _ _ _ hl ⟨b71, of72, vsb71, hv, hc73, hrepb71⟩ => ⟨b71, of72, vsb71, hv, hc73.up hl, Kd.mono _ hl hrepb71⟩, ⟨fun _ _ _ hl ⟨b77, of78, vsb77, hv, hc79, hrepb77⟩ => ⟨b77, of78, vsb77, hv, hc79.up hl, Kd.mono _ hl hrepb77⟩, ⟨fun _ _ _ hl ⟨b77, of78, vsb77, hv, hc79, hrepb77⟩ => ⟨b77, of78, vsb77, hv, hc79.up hl, Kd.mono _ hl hrepb77⟩, ⟨fun _ _ _ hl ⟨b84, of85, vsb84, hv, hc86, hrepb84⟩ => ⟨b84, of85, vsb84, hv, hc86.up hl, Kd.mono _ hl hrepb84⟩, ⟨fun _ _ _ hl ⟨b84, of85, vsb84, hv, hc86, hrepb84⟩ => ⟨b84, of85, vsb84, hv, hc86.up hl, Kd.mono _ hl hrepb84⟩, trivial⟩⟩⟩⟩⟩⟩⟩⟩)) (allB_cons (allB_cons (allB_cons (allB_cons (allB_cons (allB_cons (allB_cons (allB_cons (allB_cons (allB_cons (allB_cons (allB_cons (allB_cons (allB_cons (allB_cons (allB_cons (allB_cons (allB_cons (allB_cons (allB_cons (allB_cons (allB_cons (allB_cons (allB_cons (allB_cons (allB_cons (allB_cons (allB_cons (allB_cons (allB_cons allB_nil (p1 dA)) (p1 dA)) ?_) ?_) ?_) (p1 dA)) ?_) ?_) (p1 dA)) (p1 dA)) ?_) ?_) ?_) (p1 dA)) (p1 dA)) (p1 (dG []))) (p1 (dG []))) ?_) ?_) ?_) (p1 (dG []))) ?_) ?_) (p1 (dG []))) (p1 (dG []))) ?_) ?_) ?_) (p1 (dG [22, 27]))) (p1 dO)) ?_
       ·intro ρ' τ pq rs hl hd hq hk
        obtain ⟨_, e0, rfl⟩ := hd 0 rfl
        obtain ⟨_, e1, rfl⟩ := hd 1 rfl
        refine o_index rfl rfl rfl z_slT109 rfl e0 (hs11.up (hl25.trans hl)) e1 hf63 (fun b64 of65 vsb64 hc66 hrepb64 => ?_)
        exact st_addNil (hk _ _ LR ⟨b64, of65, _, rfl, hc66, hrepb64⟩)
       ·intro ρ' τ pq rs hl hd hq hk
        obtain ⟨_, e2, b64, of65, vsb64, rfl, hc66, hrepb64⟩ := hd 2 rfl
        have hrepb64 := hrepb64
        obtain ⟨_, _, rfl, rfl, ⟨_, _, rfl, rfl, ⟨_, _, rfl, rfl, ⟨_, _, rfl, rfl, ⟨_, _, rfl, rfl, ⟨_, _, rfl, rfl, rfl⟩⟩⟩⟩⟩⟩ := hrepb64
        refine o_fieldAddr rfl rfl rfl z_field114_2 e2 ?_
        exact st_addNil (hk _ _ LR ⟨b64, of65, _, rfl, hc66, hrepb64⟩)
       ·intro ρ' τ pq rs hl hd hq hk
        obtain ⟨_, e3, b64, of65, vsb64, rfl, hc66, hrepb64⟩ := hd 3 rfl
        have hrepb64 := hrepb64
        obtain ⟨_, _, rfl, rfl, ⟨_, _, rfl, rfl, ⟨_, _, rfl, rfl, ⟨_, _, rfl, rfl, ⟨_, _, rfl, rfl, ⟨_, _, rfl, rfl, rfl⟩⟩⟩⟩⟩⟩ := hrepb64
        refine o_loadI (v := .I q62.2.2.1) rfl rfl rfl z_sc3 e3 (hc66 2 _ rfl) ?_
        exact st_addNil (hk _ _ LR rfl)
       ·intro ρ' τ pq rs hl hd hq hk
        obtain ⟨_, e4, rfl⟩ := hd 4 rfl
        obtain ⟨_, e5, rfl⟩ := hd 5 rfl
        refine o_indexA rfl rfl rfl z_arr29 e5 e4 hf67 hf68 ?_
        exact st_addNil (hk _ _ LR rfl)
       ·intro ρ' τ pq rs hl hd hq hk
        obtain ⟨_, e6, rfl⟩ := hd 6 rfl
        refine o_loadV (j := 0) (q62.2.2.1.toNat) (f := (Value.int .i64)) (zz := 0) (l := 6) (xs := a0.2.1) [.I a0.1] [v1, v2, .string a0.t4.1, .string a0.t4.2] rfl rfl rfl z_sc3 e6 rfl (by simp only [List.length_cons, List.length_nil] <;> omega) (by omega) ?_
        exact st_addNil (hk _ _ LR rfl)
       ·intro ρ' τ pq rs hl hd hq hk
        obtain ⟨_, e8, rfl⟩ := hd 8 rfl
        obtain ⟨_, e9, rfl⟩ := hd 9 rfl
        refine o_index rfl rfl rfl z_slT109 rfl e8 (hs11.up (hl25.trans hl)) e9 hf70 (fun b71 of72 vsb71 hc73 hrepb71 => ?_)
        exact st_addNil (hk _ _ LR ⟨b71, of72, _, rfl, hc73, hrepb71⟩)
       ·intro ρ' τ pq rs hl hd hq hk
        obtain ⟨_, e10, b71, of72, vsb71, rfl, hc73, hrepb71⟩ := hd 10 rfl
        have hrepb71 := hrepb71
        obtain ⟨_, _, rfl, rfl, ⟨_, _, rfl, rfl, ⟨_, _, rfl, rfl, ⟨_, _, rfl, rfl, ⟨_, _, rfl, rfl, ⟨_, _, rfl, rfl, rfl⟩⟩⟩⟩⟩⟩ := hrepb71
        refine o_fieldAddr rfl rfl rfl z_field114_3 e10 ?_
        exact st_addNil (hk _ _ LR ⟨b71, of72, _, rfl, hc73, hrepb71⟩)
       ·intro ρ' τ pq rs hl hd hq hk
        obtain ⟨_, e11, b71, of72, vsb71, rfl, hc73, hrepb71⟩ := hd 11 rfl
        have hrepb71 := hrepb71
        obtain ⟨_, _, rfl, rfl, ⟨_, _, rfl, rfl, ⟨_, _, rfl, rfl, ⟨_, _, rfl, rfl, ⟨_, _, rfl, rfl, ⟨_, _, rfl, rfl, rfl⟩⟩⟩⟩⟩⟩ := hrepb71
        refine o_loadI (v := .I q69.2.2.2.1) rfl rfl rfl z_sc3 e11 (hc73 3 _ rfl) ?_
        exact st_addNil (hk _ _ LR rfl)
       ·intro ρ' τ pq rs hl hd hq hk
        obtain ⟨_, e14, rfl⟩ := hd 14 rfl
        obtain ⟨w15, e15, t15⟩ := hd 15 rfl
        obtain ⟨w16, e16, t16⟩ := hd 16 rfl
        by_cases hG : (decide ((a0.2.1.getD q62.2.2.1.toNat 0) < q69.2.2.2.1)) = false
        ·have hC := hG
         replace hf76 := hf76 hC
         obtain ⟨rfl⟩ := t15.1 hC
         obtain ⟨rfl⟩ := t16.1 hC
         refine o_index rfl (wants_of rfl e14 hG) rfl z_slT109 rfl e15 (hs11.up (hl25.trans hl)) e16 hf76 (fun b77 of78 vsb77 hc79 hrepb77 => ?_)
         exact st_addNil (hk _ _ LR ⟨fun _ => ⟨b77, of78, _, rfl, hc79, hrepb77⟩, fun hn => absurd hC hn⟩)
        ·refine st_pass rfl rfl rfl e14 (beq_off hG) rfl ?_
         exact st_addNil (hk _ _ LR ⟨fun h => absurd h hG, fun _ => rfl⟩)
       ·intro ρ' τ pq rs hl hd hq hk
        obtain ⟨_, e14, rfl⟩ := hd 14 rfl
        obtain ⟨w17, e17, t17⟩ := hd 17 rfl
        by_cases hG : (decide ((a0.2.1.getD q62.2.2.1.toNat 0) < q69.2.2.2.1)) = false
        ·have hC := hG
         obtain ⟨b77, of78, vsb77, rfl, hc79, hrepb77⟩ := t17.1 hC
         have hrepb77 := hrepb77
         obtain ⟨_, _, rfl, rfl, ⟨_, _, rfl, rfl, ⟨_, _, rfl, rfl, ⟨_, _, rfl, rfl, ⟨_, _, rfl, rfl, ⟨_, _, rfl, rfl, rfl⟩⟩⟩⟩⟩⟩ := hrepb77
         refine o_fieldAddr rfl (wants_of rfl e14 hG) rfl z_field114_2 e17 ?_
         exact st_addNil (hk _ _ LR ⟨fun _ => ⟨b77, of78, _, rfl, hc79, hrepb77⟩, fun hn => absurd hC hn⟩)
        ·refine st_pass rfl rfl rfl e14 (beq_off hG) rfl ?_
         exact st_addNil (hk _ _ LR ⟨fun h => absurd h hG, fun _ => rfl⟩)
       ·intro ρ' τ pq rs hl hd hq hk
        obtain ⟨_, e14, rfl⟩ := hd 14 rfl
        obtain ⟨w18, e18, t18⟩ := hd 18 rfl
        by_cases hG : (decide ((a0.2.1.getD q62.2.2.1.toNat 0) < q69.2.2.2.1)) = false
        ·have hC := hG
         obtain ⟨b77, of78, vsb77, rfl, hc79, hrepb77⟩ := t18.1 hC
         have hrepb77 := hrepb77
         obtain ⟨_, _, rfl, rfl, ⟨_, _, rfl, rfl, ⟨_, _, rfl, rfl, ⟨_, _, rfl, rfl, ⟨_, _, rfl, rfl, ⟨_, _, rfl, rfl, rfl⟩⟩⟩⟩⟩⟩ := hrepb77
         refine o_loadI (v := .I q75.2.2.1) rfl (wants_of rfl e14 hG) rfl z_sc3 e18 (hc79 2 _ rfl) ?_
         exact st_addNil (hk _ _ LR ⟨fun _ => rfl, fun hn => absurd hC hn⟩)
        ·refine st_pass rfl rfl rfl e14 (beq_off hG) rfl ?_
         exact st_addNil (hk _ _ LR ⟨fun h => absurd h hG, fun _ => rfl⟩)
       ·intro ρ' τ pq rs hl hd hq hk
        obtain ⟨_, e14, rfl⟩ := hd 14 rfl
        obtain ⟨w19, e19, t19⟩ := hd 19 rfl
        obtain ⟨w20, e20, t20⟩ := hd 20 rfl
        by_cases hG : (decide ((a0.2.1.getD q62.2.2.1.toNat 0) < q69.2.2.2.1)) = false
        ·have hC := hG
         replace hf80 := hf80 hC
         replace hf81 := hf81 hC
         obtain ⟨rfl⟩ := t19.1 hC
         obtain ⟨rfl⟩ := t20.1 hC
         refine o_indexA rfl (wants_of rfl e14 hG) rfl z_arr29 e20 e19 hf80 hf81 ?_
         exact st_addNil (hk _ _ LR ⟨fun _ => rfl, fun hn => absurd hC hn⟩)
        ·refine st_pass rfl rfl rfl e14 (beq_off hG) rfl ?_
         exact st_addNil (hk _ _ LR ⟨fun h => absurd h hG, fun _ => rfl⟩)
       ·intro ρ' τ pq rs hl hd hq hk
        obtain ⟨_, e14, rfl⟩ := hd 14 rfl
        obtain ⟨w21, e21, t21⟩ := hd 21 rfl
        by_cases hG : (decide ((a0.2.1.getD q62.2.2.1.toNat 0) < q69.2.2.2.1)) = false
        ·have hC := hG
         obtain ⟨rfl⟩ := t21.1 hC
         replace hf80 := hf80 hC
         replace hf81 := hf81 hC
         refine o_loadV (j := 0) (q75.2.2.1.toNat) (f := (Value.int .i64)) (zz := 0) (l := 6) (xs := a0.2.1) [.I a0.1] [v1, v2, .string a0.t4.1, .string a0.t4.2] rfl (wants_of rfl e14 hG) rfl z_sc3 e21 rfl (by simp only [List.length_cons, List.length_nil] <;> omega) (by omega) ?_
         exact st_addNil (hk _ _ LR ⟨fun _ => rfl, fun hn => absurd hC hn⟩)
        ·refine st_pass rfl rfl rfl e14 (beq_off hG) rfl ?_
         exact st_addNil (hk _ _ LR ⟨fun h => absurd h hG, fun _ => rfl⟩)
       ·intro ρ' τ pq rs hl hd hq hk
        obtain ⟨_, e14, rfl⟩ := hd 14 rfl
        obtain ⟨w23, e23, t23⟩ := hd 23 rfl
        obtain ⟨w24, e24, t24⟩ := hd 24 rfl
        by_cases hG : (decide ((a0.2.1.getD q62.2.2.1.toNat 0) < q69.2.2.2.1)) = false
        ·have hC := hG
         replace hf83 := hf83 hC
         obtain ⟨rfl⟩ := t23.1 hC
         obtain ⟨rfl⟩ := t24.1 hC
         refine o_index rfl (wants_of rfl e14 hG) rfl z_slT109 rfl e23 (hs11.up (hl25.trans hl)) e24 hf83 (fun b84 of85 vsb84 hc86 hrepb84 => ?_)
         exact st_addNil (hk _ _ LR ⟨fun _ => ⟨b84, of85, _, rfl, hc86, hrepb84⟩, fun hn => absurd hC hn⟩)
        ·refine st_pass rfl rfl rfl e14 (beq_off hG) rfl ?_
         exact st_addNil (hk _ _ LR ⟨fun h => absurd h hG, fun _ => rfl⟩)
       ·intro ρ' τ pq rs hl hd hq hk
        obtain ⟨_, e14, rfl⟩ := hd 14 rfl
        obtain ⟨w25, e25, t25⟩ := hd 25 rfl
        by_cases hG : (decide ((a0.2.1.getD q62.2.2.1.toNat 0) < q69.2.2.2.1)) = false
        ·have hC := hG
         obtain ⟨b84, of85, vsb84, rfl, hc86, hrepb84⟩ := t25.1 hC
         have hrepb84 := hrepb84
         obtain ⟨_, _, rfl, rfl, ⟨_, _, rfl, rfl, ⟨_, _, rfl, rfl, ⟨_, _, rfl, rfl, ⟨_, _, rfl, rfl, ⟨_, _, rfl, rfl, rfl⟩⟩⟩⟩⟩⟩ := hrepb84
         refine o_fieldAddr rfl (wants_of rfl e14 hG) rfl z_field114_4 e25 ?_
         exact st_addNil (hk _ _ LR ⟨fun _ => ⟨b84, of85, _, rfl, hc86, hrepb84⟩, fun hn => absurd hC hn⟩)
        ·refine st_pass rfl rfl rfl e14 (beq_off hG) rfl ?_
         exact st_addNil (hk _ _ LR ⟨fun h => absurd h hG, fun _ => rfl⟩)
       ·intro ρ' τ pq rs hl hd hq hk
        obtain ⟨_, e14, rfl⟩ := hd 14 rfl
        obtain ⟨w26, e26, t26⟩ := hd 26 rfl
        by_cases hG : (decide ((a0.2.1.getD q62.2.2.1.toNat 0) < q69.2.2.2.1)) = false
        ·have hC := hG
         obtain ⟨b84, of85, vsb84, rfl, hc86, hrepb84⟩ := t26.1 hC
         have hrepb84 := hrepb84
         obtain ⟨_, _, rfl, rfl, ⟨_, _, rfl, rfl, ⟨_, _, rfl, rfl, ⟨_, _, rfl, rfl, ⟨_, _, rfl, rfl, ⟨_, _, rfl, rfl, rfl⟩⟩⟩⟩⟩⟩ := hrepb84
         refine o_loadI (v := .I q82.t4.1) rfl (wants_of rfl e14 hG) rfl z_sc3 e26 (hc86 4 _ rfl) ?_
         exact st_addNil (hk _ _ LR ⟨fun _ => rfl, fun hn => absurd hC hn⟩)
        ·refine st_pass rfl rfl rfl e14 (beq_off hG) rfl ?_
         exact st_addNil (hk _ _ LR ⟨fun h => absurd h hG, fun _ => rfl⟩)
       intro ρ' τ87 vals hl87 hv hq
       refine st_ord [0, 0, 0] _ rfl ?_
       refine st_env (ρ' := [(67, .bool ((decide ((a0.2.1.getD q62.2.2.1.toNat 0) < q69.2.2.2.1)) || (decide (q82.t4.1 < (a0.2.1.getD q75.2.2.1.toNat 0))))), (1, .Pb b5), (2, .I 0), (3, v10), (4, .Pb b12), (5, .Pb b13), (6, .I s25.1), (7, .I 0)]) ⟨(lv1 hv 29 rfl rfl), oT hq 1, oT hq 2, oT hq 3, oT hq 4, oT hq 5, oT hq 6, oT hq 7, trivial⟩ ?_
       refine st_end ?_
       refine I2 h (fun h => ?_) (fun h => ?_)
       ·refine Z 4 ?_
        exact hk33 _ _ _ ⟨(5, ((putN 6 false [s25.t4.t4.1, s25.t4.t4.2.1, s25.t4.t4.2.2.1, s25.t4.t4.2.2.2.1, s25.t4.t4.t4.1, s25.t4.t4.t4.2] q55.2.2.1.toNat true).getD 0 false), ((putN 6 false [s25.t4.t4.1, s25.t4.t4.2.1, s25.t4.t4.2.2.1, s25.t4.t4.2.2.2.1, s25.t4.t4.t4.1, s25.t4.t4.t4.2] q55.2.2.1.toNat true).getD 1 false), ((putN 6 false [s25.t4.t4.1, s25.t4.t4.2.1, s25.t4.t4.2.2.1, s25.t4.t4.2.2.2.1, s25.t4.t4.t4.1, s25.t4.t4.t4.2] q55.2.2.1.toNat true).getD 2 false), ((putN 6 false [s25.t4.t4.1, s25.t4.t4.2.1, s25.t4.t4.2.2.1, s25.t4.t4.2.2.2.1, s25.t4.t4.t4.1, s25.t4.t4.t4.2] q55.2.2.1.toNat true).getD 3 false), ((putN 6 false [s25.t4.t4.1, s25.t4.t4.2.1, s25.t4.t4.2.2.1, s25.t4.t4.2.2.2.1, s25.t4.t4.t4.1, s25.t4.t4.t4.2] q55.2.2.1.toNat true).getD 4 false), ((putN 6 false [s25.t4.t4.1, s25.t4.t4.2.1, s25.t4.t4.2.2.1, s25.t4.t4.2.2.2.1, s25.t4.t4.t4.1, s25.t4.t4.t4.2] q55.2.2.1.toNat true).getD 5 false)), h, hl87, rfl, rfl⟩
       ·refine Z 2 ?_
        exact hk33 _ _ _ ⟨(0, ((putN 6 false [s25.t4.t4.1, s25.t4.t4.2.1, s25.t4.t4.2.2.1, s25.t4.t4.2.2.2.1, s25.t4.t4.t4.1, s25.t4.t4.t4.2] q55.2.2.1.toNat true).getD 0 false), ((putN 6 false [s25.t4.t4.1, s25.t4.t4.2.1, s25.t4.t4.2.2.1, s25.t4.t4.2.2.2.1, s25.t4.t4.t4.1, s25.t4.t4.t4.2] q55.2.2.1.toNat true).getD 1 false), ((putN 6 false [s25.t4.t4.1, s25.t4.t4.2.1, s25.t4.t4.2.2.1, s25.t4.t4.2.2.2.1, s25.t4.t4.t4.1, s25.t4.t4.t4.2] q55.2.2.1.toNat true).getD 2 false), ((putN 6 false [s25.t4.t4.1, s25.t4.t4.2.1, s25.t4.t4.2.2.1, s25.t4.t4.2.2.2.1, s25.t4.t4.t4.1, s25.t4.t4.t4.2] q55.2.2.1.toNat true).getD 3 false), ((putN 6 false [s25.t4.t4.1, s25.t4.t4.2.1, s25.t4.t4.2.2.1, s25.t4.t4.2.2.2.1, s25.t4.t4.t4.1, s25.t4.t4.t4.2] q55.2.2.1.toNat true).getD 4 false), ((putN 6 false [s25.t4.t4.1, s25.t4.t4.2.1, s25.t4.t4.2.2.1, s25.t4.t4.2.2.2.1, s25.t4.t4.t4.1, s25.t4.t4.t4.2] q55.2.2.1.toNat true).getD 5 false)), h, hl87, rfl, rfl⟩
  ·refine st_exit rfl ?_
   obtain rfl := he25 _ h
   replace h := hA25
   exact hk14 _ _ _ ⟨(s25.2.1, s25.2.2.1, s25.2.2.2.1, s25.t4.1, s25.t4.2.1, s25.t4.2.2.1, s25.t4.2.2.2.1, s25.t4.t4.1, s25.t4.t4.2.1, s25.t4.t4.2.2.1, s25.t4.t4.2.2.2.1, s25.t4.t4.t4.1, s25.t4.t4.t4.2), h, hl25, rfl, rfl⟩
theorem ref30_set_ok {a0 : List (TyR) × List (Int × Int × List Int)} {a1 : Int × Int × List Int} {v1 v2 v5 : Value} {r : (List (TyR) × List (Int × Int × List Int))} (h : ref30_set a0 a1 r) (σ : Sto) (hs3 : Sl (kP (kI .i64) (kP (kA .i64 6) (kP (kSl (kA .i64 2)) (kP (kSl (kI .i64)) (kP kS kS))))) σ v1 a0.1) (hs4 : Sl (kP (kI .i64) (kP (kI .i64) (kSl (kI .i64)))) σ v2 a0.2) (hs6 : Sl (kI .i64) σ v5 a1.2.2) :
    Does prog 29 [.agg [v1, v2].toArray, .agg [.I a1.1, .I a1.2.1, v5].toArray] σ [] (fun v τ gs => ∃ (v76 v77 : Value), gs = [] ∧ .agg [v76, v77].toArray = v ∧ Sl (kP (kI .i64) (kP (kA .i64 6) (kP (kSl (kA .i64 2)) (kP (kSl (kI .i64)) (kP kS kS))))) τ v76 r.1 ∧ Sl (kP (kI .i64) (kP (kI .i64) (kSl (kI .i64)))) τ v77 r.2) := by
 refine CO func29 ntmps29 rfl (fun cs fs => Z 2 ?_)
 refine o_box (cs := [v1, v2]) rfl rfl rfl rfl rfl (fun b7 => ?_)
 refine o_box (cs := [.I a1.1, .I a1.2.1, v5]) rfl rfl rfl rfl rfl (fun b8 => ?_)
 refine o_alloc rfl rfl rfl z_zero28 (fun b9 => Z 6 ?_)
 refine st_cut (fun ρ τ10 gs => ∃ (s10 : K39) (v11 : Value) (g12 : Grp), ref30_set_j1 a0 a1 s10 r ∧ σ.Le τ10 ∧ ESub ρ [(2, .Pb b7), (3, .Pb b8), (4, .Pb b9), (5, v11)] ∧ gs = [[(b7, .cells #[v1, v2] 28 (0, 0))], [(b8, .cells #[.I a1.1, .I a1.2.1, v5] 80 (0, 0))], [(b9, .cells #[.N0, .N0] 28 (0, 0))], g12] ∧ Ow (kP (kI .i64) (kP (kI .i64) (kSl (kI .i64)))) 80 τ10 v11 s10 g12) ?_ (fun hk10 => ?_)
 ·rintro ρ10 τ10 gs10 ⟨s10, v11, g12, h, hl10, hρ, rfl, ho13⟩
  refine st_es hρ ?_
  refine st_seq ?_
  refine st_cut (fun ρ τ14 gs => ∃ (s14 : K39) (v15 : Value) (g16 : Grp), ref30_set_j2 a0 s14 r ∧ τ10.Le τ14 ∧ ESub ρ [(2, .Pb b7), (4, .Pb b9), (5, v15)] ∧ gs = [[(b7, .cells #[v1, v2] 28 (0, 0))], [(b9, .cells #[.N0, .N0] 28 (0, 0))], g16] ∧ Ow (kP (kI .i64) (kP (kI .i64) (kSl (kI .i64)))) 80 τ14 v15 s14 g16) ?_ (fun hk14 => ?_)
  ·rintro ρ14 τ14 gs14 ⟨s14, v15, g16, h, hl14, hρ, rfl, ho17⟩
   refine st_es hρ (Z 4 ?_)
   refine o_store (j := 0) (vs := [v15]) (cs' := [v1, v15]) rfl rfl rfl z_size26 rfl rfl (oneL_ow ho17) (ones_cons ho17.one' ones_nil) rfl rfl rfl (ZZ 4 [0] ?_)
   refine o_store (j := 1) (vs := [v1, v15]) (cs' := [v1, v15]) rfl rfl rfl z_size28 rfl rfl rfl (ones_cons (hs3.up (hl10.trans hl14)).one' (ones_cons ho17.one' ones_nil)) rfl rfl rfl ?_
   refine st_end ?_
   refine st_ord [2, 0, 0] _ rfl ?_
   refine st_freeze (fun τ18 hl19 hg20 => ?_)
   have hs21 := ho17.freeze hl19 hg20
   obtain rfl := h.symm
   exact RC [.agg #[v1, v15]] func29 ⟨cN 1 z_agg28, trivial⟩ ((hl10.trans hl14).trans hl19) ⟨_, _, rfl, rfl, (hs3.up ((hl10.trans hl14).trans hl19)), hs21⟩
  refine ZZ 4 [1] ?_
  refine o_lenI rfl rfl rfl z_slT31 rfl (hs6.up hl10) (Z 2 ?_)
  refine I2 h (fun h => ?_) (fun h => ?_)
  ·refine ZZ 3 [1] ?_
   refine o_lit (dk := (kP (kI .i64) (kP (kI .i64) (kSl (kI .i64))))) (xs := [a1]) (ps := [(0, [.I a1.1, .I a1.2.1, v5])]) (cs := [.I a1.1, .I a1.2.1, v5]) rfl rfl rfl z_slT26 z_zero80 ⟨rfl, ⟨_, rfl, rfl⟩, trivial⟩ rfl rfl rfl rfl (Kd.Many.cons (d := (kP (kI .i64) (kP (kI .i64) (kSl (kI .i64))))) (x := a1) (a := [.I a1.1, .I a1.2.1, v5]) ⟨[.I a1.1], _, rfl, rfl, ⟨[.I a1.2.1], _, rfl, rfl, ⟨_, rfl, (hs6.up hl10)⟩⟩⟩ Kd.Many.nil) (fun v26 g27 ho28 => ?_)
   obtain ⟨hf32, hf33, h⟩ := h
   refine st_ord [4, 0, 0, 0, 0] _ rfl ?_
   refine o_append (dk := (kP (kI .i64) (kP (kI .i64) (kSl (kI .i64))))) (xs := s10) (ys := [a1]) rfl rfl rfl rfl z_slT26 rfl ho13 rfl (Ow.src (j := 1) ho28 rfl) hf32 hf33 (fun v29 g30 ho31 => Z 2 ?_)
   refine st_ord [2, 3, 0] _ rfl ?_
   exact hk14 _ _ _ ⟨(s10 ++ [a1]), _, _, h, LR, rfl, rfl, ho31⟩
  ·refine st_skip ?_
   refine st_ord [0, 1, 1] _ rfl ?_
   exact hk14 _ _ _ ⟨s10, _, _, h, LR, rfl, rfl, ho13⟩
 refine Z 4 ?_
 obtain ⟨e34, hL34, hA34⟩ := h
 refine st_addNil ?_
 refine st_ord [3, 2, 1, 0] _ rfl ?_
 refine st_loop hL34 (fun (s34 : K52) ρ τ34 gs => σ.Le τ34 ∧ ∃ (v35 : Value) (g36 : Grp), ESub ρ [(2, .Pb b7), (3, .Pb b8), (4, .Pb b9), (5, v35), (6, .I s34.2)] ∧ gs = [[(b7, .cells #[v1, v2] 28 (0, 0))], [(b8, .cells #[.I a1.1, .I a1.2.1, v5] 80 (0, 0))], [(b9, .cells #[.N0, .N0] 28 (0, 0))], g36] ∧ Ow (kP (kI .i64) (kP (kI .i64) (kSl (kI .i64)))) 80 τ34 v35 s34.1 g36) ⟨LR, _, _, rfl, rfl, Ow.nil⟩ ?_
 rintro s34 o34 h he34 ρ34 τ34 gs34 ⟨hl34, v35, g36, hρ, rfl, ho37⟩ hn34
 refine st_es hρ (ZZ 6 [0] ?_)
 refine o_lenI rfl rfl rfl z_slT26 rfl (hs4.up hl34) (Z 2 ?_)
 refine I2 h (fun h => ?_) (fun h => ?_)
 ·refine Z 2 ?_
  refine st_cut (fun ρ τ38 gs => ∃ (s38 : K39) (v39 : Value) (g40 : Grp), ref30_set_j4 s34 s38 o34 ∧ τ34.Le τ38 ∧ ESub ρ [(2, .Pb b7), (3, .Pb b8), (4, .Pb b9), (5, v39), (6, .I s34.2)] ∧ gs = [[(b7, .cells #[v1, v2] 28 (0, 0))], [(b8, .cells #[.I a1.1, .I a1.2.1, v5] 80 (0, 0))], [(b9, .cells #[.N0, .N0] 28 (0, 0))], g40] ∧ Ow (kP (kI .i64) (kP (kI .i64) (kSl (kI .i64)))) 80 τ38 v39 s38 g40) ?_ (fun hk38 => ?_)
  ·rintro ρ38 τ38 gs38 ⟨s38, v39, g40, h, hl38, hρ, rfl, ho41⟩
   refine st_es hρ (Z 5 ?_)
   exact hn34 _ _ _ _ h ⟨(hl34.trans hl38), _, _, rfl, rfl, ho41⟩
  refine Z 2 ?_
  obtain ⟨q42, hf43, q51, hf52, h⟩ := h
  let cc50 : Prop := (!(decide (q42.1 = a1.1))) = false
  refine st_draw 20 (dl [.v (.pointer (some ⟨b7, 1, none⟩)), .v (v2), .v (.I s34.2), .t fun τ v => ∃ (b44 of45 : Nat) (vsb44 : K4), (.pointer (some ⟨b44, of45, none⟩) : Value) = v ∧ CelN τ ⟨b44, of45, none⟩ vsb44 ∧ (kP (kI .i64) (kP (kI .i64) (kSl (kI .i64)))).rep τ vsb44 q42, .t fun τ v => ∃ (b44 of45 : Nat) (vsb44 : K4), (.pointer (some ⟨b44, of45, none⟩) : Value) = v ∧ CelN τ ⟨b44, of45, none⟩ vsb44 ∧ (kP (kI .i64) (kP (kI .i64) (kSl (kI .i64)))).rep τ vsb44 q42, .v (.I q42.1), .v (.Pb b8), .v (.I a1.1), .v (.bool (!(decide (q42.1 = a1.1)))), .v (.bool (!(decide (q42.1 = a1.1)))), .g cc50 (.pointer (some ⟨b7, 1, none⟩)), .g cc50 (v2), .g cc50 (.I s34.2), .h cc50 fun τ v => ∃ (b53 of54 : Nat) (vsb53 : K4), (.pointer (some ⟨b53, of54, none⟩) : Value) = v ∧ CelN τ ⟨b53, of54, none⟩ vsb53 ∧ (kP (kI .i64) (kP (kI .i64) (kSl (kI .i64)))).rep τ vsb53 q51, .h cc50 fun τ v => ∃ (b53 of54 : Nat) (vsb53 : K4), (.pointer (some ⟨b53, of54 + 1, none⟩) : Value) = v ∧ CelN τ ⟨b53, of54, none⟩ vsb53 ∧ (kP (kI .i64) (kP (kI .i64) (kSl (kI .i64)))).rep τ vsb53 q51, .g cc50 (.I q51.2.1), .g cc50 (.pointer (some ⟨b8, 1, none⟩)), .g cc50 (.I a1.2.1), .g cc50 (.bool (!(decide (q51.2.1 = a1.2.1)))), .v (.bool ((!(decide (q42.1 = a1.1))) || (!(decide (q51.2.1 = a1.2.1)))))]) (fun _ _ => []) z_mix rfl (dl_mono ⟨fun _ _ _ hl ⟨b44, of45, vsb44, hv, hc47, hrepb44⟩ => ⟨b44, of45, vsb44, hv, hc47.up hl, Kd.mono _ hl hrepb44⟩, ⟨fun _ _ _ hl ⟨b44, of45, vsb44, hv, hc47, hrepb44⟩ => ⟨b44, of45, vsb44, hv, hc47.up hl, Kd.mono _ hl hrepb44⟩, ⟨fun _ _ _ hl ⟨b53, of54, vsb53, hv, hc56, hrepb53⟩ => ⟨b53, of54, vsb53, hv, hc56.up hl, Kd.mono _ hl hrepb53⟩, ⟨fun _ _ _ hl ⟨b53, of54, vsb53, hv, hc56, hrepb53⟩ => ⟨b53, of54, vsb53, hv, hc56.up hl, Kd.mono _ hl hrepb53⟩, trivial⟩⟩⟩⟩) (allB_cons (allB_cons (allB_cons (allB_cons (allB_cons (allB_cons (allB_cons (allB_cons (allB_cons (allB_cons (allB_cons (allB_cons (allB_cons (allB_cons (allB_cons (allB_cons (allB_cons (allB_cons (allB_cons (allB_cons allB_nil (p1 dA)) ?_) (p1 dA)) ?_) ?_) ?_) (p1 dA)) ?_) (p1 dA)) (p1 dA)) (p1 (dG []))) ?_) (p1 (dG []))) ?_) ?_) ?_) (p1 (dG []))) ?_) (p1 (dG [15, 17]))) (p1 dO)) ?_
  ·intro ρ' τ pq rs hl hd hq hk
   obtain ⟨_, e0, rfl⟩ := hd 0 rfl
   refine o_load (j := 0) (v := v2) rfl rfl rfl z_sc26 e0 rfl rfl ?_
   exact st_addNil (hk _ _ LR rfl)
  ·intro ρ' τ pq rs hl hd hq hk
   obtain ⟨_, e1, rfl⟩ := hd 1 rfl
   obtain ⟨_, e2, rfl⟩ := hd 2 rfl
   refine o_index rfl rfl rfl z_slT26 rfl e1 (hs4.up (hl34.trans hl)) e2 hf43 (fun b44 of45 vsb44 hc47 hrepb44 => ?_)
   exact st_addNil (hk _ _ LR ⟨b44, of45, _, rfl, hc47, hrepb44⟩)
  ·intro ρ' τ pq rs hl hd hq hk
   obtain ⟨_, e3, b44, of45, vsb44, rfl, hc47, hrepb44⟩ := hd 3 rfl
   have hrepb44 := hrepb44
   obtain ⟨_, _, rfl, rfl, ⟨_, _, rfl, rfl, ⟨v46, rfl, hs49⟩⟩⟩ := hrepb44
   refine o_fieldAddr rfl rfl rfl z_field80_0 e3 ?_
   exact st_addNil (hk _ _ LR ⟨b44, of45, _, rfl, hc47, hrepb44⟩)
  ·intro ρ' τ pq rs hl hd hq hk
   obtain ⟨_, e4, b44, of45, vsb44, rfl, hc47, hrepb44⟩ := hd 4 rfl
   have hrepb44 := hrepb44
   obtain ⟨_, _, rfl, rfl, ⟨_, _, rfl, rfl, ⟨v46, rfl, hs49⟩⟩⟩ := hrepb44
   refine o_loadI (v := .I q42.1) rfl rfl rfl z_sc3 e4 (hc47 0 _ rfl) ?_
   exact st_addNil (hk _ _ LR rfl)
  ·intro ρ' τ pq rs hl hd hq hk
   obtain ⟨_, e6, rfl⟩ := hd 6 rfl
   refine o_load (j := 1) (v := .I a1.1) rfl rfl rfl z_sc3 e6 rfl rfl ?_
   exact st_addNil (hk _ _ LR rfl)
  ·intro ρ' τ pq rs hl hd hq hk
   obtain ⟨_, e9, rfl⟩ := hd 9 rfl
   obtain ⟨w10, e10, t10⟩ := hd 10 rfl
   by_cases hG : (!(decide (q42.1 = a1.1))) = false
   ·have hC := hG
    obtain ⟨rfl⟩ := t10.1 hC
    refine o_load (j := 0) (v := v2) rfl (wants_of rfl e9 hG) rfl z_sc26 e10 rfl rfl ?_
    exact st_addNil (hk _ _ LR ⟨fun _ => rfl, fun hn => absurd hC hn⟩)
   ·refine st_pass rfl rfl rfl e9 (beq_off hG) rfl ?_
    exact st_addNil (hk _ _ LR ⟨fun h => absurd h hG, fun _ => rfl⟩)
  ·intro ρ' τ pq rs hl hd hq hk
   obtain ⟨_, e9, rfl⟩ := hd 9 rfl
   obtain ⟨w11, e11, t11⟩ := hd 11 rfl
   obtain ⟨w12, e12, t12⟩ := hd 12 rfl
   by_cases hG : (!(decide (q42.1 = a1.1))) = false
   ·have hC := hG
    replace hf52 := hf52 hC
    obtain ⟨rfl⟩ := t11.1 hC
    obtain ⟨rfl⟩ := t12.1 hC
    refine o_index rfl (wants_of rfl e9 hG) rfl z_slT26 rfl e11 (hs4.up (hl34.trans hl)) e12 hf52 (fun b53 of54 vsb53 hc56 hrepb53 => ?_)
    exact st_addNil (hk _ _ LR ⟨fun _ => ⟨b53, of54, _, rfl, hc56, hrepb53⟩, fun hn => absurd hC hn⟩)
   ·refine st_pass rfl rfl rfl e9 (beq_off hG) rfl ?_
    exact st_addNil (hk _ _ LR ⟨fun h => absurd h hG, fun _ => rfl⟩)
  ·intro ρ' τ pq rs hl hd hq hk
   obtain ⟨_, e9, rfl⟩ := hd 9 rfl
   obtain ⟨w13, e13, t13⟩ := hd 13 rfl
   by_cases hG : (!(decide (q42.1 = a1.1))) = false
   ·have hC := hG
    obtain ⟨b53, of54, vsb53, rfl, hc56, hrepb53⟩ := t13.1 hC
    have hrepb53 := hrepb53
    obtain ⟨_, _, rfl, rfl, ⟨_, _, rfl, rfl, ⟨v55, rfl, hs58⟩⟩⟩ := hrepb53
    refine o_fieldAddr rfl (wants_of rfl e9 hG) rfl z_field80_1 e13 ?_
    exact st_addNil (hk _ _ LR ⟨fun _ => ⟨b53, of54, _, rfl, hc56, hrepb53⟩, fun hn => absurd hC hn⟩)
   ·refine st_pass rfl rfl rfl e9 (beq_off hG) rfl ?_
    exact st_addNil (hk _ _ LR ⟨fun h => absurd h hG, fun _ => rfl⟩)
  ·intro ρ' τ pq rs hl hd hq hk
   obtain ⟨_, e9, rfl⟩ := hd 9 rfl
   obtain ⟨w14, e14, t14⟩ := hd 14 rfl
   by_cases hG : (!(decide (q42.1 = a1.1))) = false
   ·have hC := hG
    obtain ⟨b53, of54, vsb53, rfl, hc56, hrepb53⟩ := t14.1 hC
    have hrepb53 := hrepb53
    obtain ⟨_, _, rfl, rfl, ⟨_, _, rfl, rfl, ⟨v55, rfl, hs58⟩⟩⟩ := hrepb53
    refine o_loadI (v := .I q51.2.1) rfl (wants_of rfl e9 hG) rfl z_sc3 e14 (hc56 1 _ rfl) ?_
    exact st_addNil (hk _ _ LR ⟨fun _ => rfl, fun hn => absurd hC hn⟩)
   ·refine st_pass rfl rfl rfl e9 (beq_off hG) rfl ?_
    exact st_addNil (hk _ _ LR ⟨fun h => absurd h hG, fun _ => rfl⟩)
  ·intro ρ' τ pq rs hl hd hq hk
   obtain ⟨_, e9, rfl⟩ := hd 9 rfl
   obtain ⟨w16, e16, t16⟩ := hd 16 rfl
   by_cases hG : (!(decide (q42.1 = a1.1))) = false
   ·have hC := hG
    obtain ⟨rfl⟩ := t16.1 hC
    refine o_load (j := 1) (v := .I a1.2.1) rfl (wants_of rfl e9 hG) rfl z_sc3 e16 rfl rfl ?_
    exact st_addNil (hk _ _ LR ⟨fun _ => rfl, fun hn => absurd hC hn⟩)
   ·refine st_pass rfl rfl rfl e9 (beq_off hG) rfl ?_
    exact st_addNil (hk _ _ LR ⟨fun h => absurd h hG, fun _ => rfl⟩)
  intro ρ' τ59 vals hl59 hv hq
  refine st_ord [0, 0, 0, 0] _ rfl ?_
  refine st_env (ρ' := [(33, .bool ((!(decide (q42.1 = a1.1))) || (!(decide (q51.2.1 = a1.2.1))))), (2, .Pb b7), (3, .Pb b8), (4, .Pb b9), (5, v35), (6, .I s34.2)]) ⟨(lv1 hv 19 rfl rfl), oT hq 2, oT hq 3, oT hq 4, oT hq 5, oT hq 6, trivial⟩ ?_
  refine st_end ?_
  refine I2 h (fun h => ?_) (fun h => ?_)
  ·refine ZZ 5 [0] ?_
   obtain ⟨q60, hf61, h⟩ := h
   refine o_index rfl rfl rfl z_slT26 rfl rfl (hs4.up (hl34.trans hl59)) rfl hf61 (fun b62 of63 vs hc65 hrep => ?_)
   obtain ⟨_, _, rfl, rfl, ⟨_, _, rfl, rfl, ⟨v64, rfl, hs66⟩⟩⟩ := hrep
   refine o_loadIN (vs := [.I q60.1, .I q60.2.1, v64]) rfl rfl rfl z_agg80 rfl rfl (celn_part 0 rfl hc65) ?_
   refine o_lit (dk := (kP (kI .i64) (kP (kI .i64) (kSl (kI .i64))))) (xs := [q60]) (ps := [(0, [.I q60.1, .I q60.2.1, v64])]) (cs := [.I q60.1, .I q60.2.1, v64]) rfl rfl rfl z_slT26 z_zero80 ⟨rfl, ⟨_, rfl, rfl⟩, trivial⟩ rfl rfl rfl rfl (Kd.Many.cons (d := (kP (kI .i64) (kP (kI .i64) (kSl (kI .i64))))) (x := q60) (a := [.I q60.1, .I q60.2.1, v64]) ⟨[.I q60.1], _, rfl, rfl, ⟨[.I q60.2.1], _, rfl, rfl, ⟨_, rfl, hs66⟩⟩⟩ Kd.Many.nil) (fun v67 g68 ho69 => ?_)
   obtain ⟨hf73, hf74, h⟩ := h
   refine st_ord [4, 0, 0, 0, 0] _ rfl ?_
   refine o_append (dk := (kP (kI .i64) (kP (kI .i64) (kSl (kI .i64))))) (xs := s34.1) (ys := [q60]) rfl rfl rfl rfl z_slT26 rfl (ho37.up hl59) rfl (Ow.src (j := 1) ho69 rfl) hf73 hf74 (fun v70 g71 ho72 => Z 3 ?_)
   refine st_ord [2, 2, 2, 0] _ rfl ?_
   exact hk38 _ _ _ ⟨(s34.1 ++ [q60]), _, _, h, hl59, rfl, rfl, ho72⟩
  ·refine Z 2 ?_
   exact hk38 _ _ _ ⟨s34.1, _, _, h, hl59, rfl, rfl, (ho37.up hl59)⟩
 ·refine st_exit rfl ?_
  obtain rfl := he34 _ h
  replace h := hA34
  exact hk10 _ _ _ ⟨s34.1, _, _, h, hl34, rfl, rfl, ho37⟩
theorem ref30_Apply_ok {a0 : List (TyR) × List (Int × Int × List Int)} {a1 : TyR} {v1 v2 : Value} {v5 v6 : Value} {r : (List (TyR) × List (Int × Int × List Int)) × Bool} (h : ref30_Apply a0 a1 r) (σ : Sto) (hs3 : Sl (kP (kI .i64) (kP (kA .i64 6) (kP (kSl (kA .i64 2)) (kP (kSl (kI .i64)) (kP kS kS))))) σ v1 a0.1) (hs4 : Sl (kP (kI .i64) (kP (kI .i64) (kSl (kI .i64)))) σ v2 a0.2) (hs7 : Sl (kA .i64 2) σ v5 a1.2.2.1) (hs8 : Sl (kI .i64) σ v6 a1.2.2.2.1) :
    Does prog 7 [.agg [v1, v2].toArray, .agg (lM a1 v5 v6).toArray] σ [] (fun v τ gs => ∃ (v70 v71 : Value), gs = [] ∧ .tuple [.agg [v70, v71].toArray, .bool r.2].toArray = v ∧ Sl (kP (kI .i64) (kP (kA .i64 6) (kP (kSl (kA .i64 2)) (kP (kSl (kI .i64)) (kP kS kS))))) τ v70 r.1.1 ∧ Sl (kP (kI .i64) (kP (kI .i64) (kSl (kI .i64)))) τ v71 r.1.2) := by
 refine CO func7 ntmps7 rfl (fun cs fs => Z 2 ?_)
 refine o_box (cs := [v1, v2]) rfl rfl rfl rfl rfl (fun b9 => ?_)
 refine o_box (cs := (lM a1 v5 v6)) rfl rfl rfl rfl rfl (fun b10 => ?_)
 refine o_alloc rfl rfl rfl z_zero28 (fun b11 => ZZ 6 [1] ?_)
 obtain ⟨r12, hr13, h⟩ := h
 refine SC z_en28 (ref17_Check_ok hr13 σ hs7 hs8) ?_
 rintro _ τ14 _ hl15 ⟨rfl, rfl⟩
 refine Z 2 ?_
 refine I2 h (fun h => ?_) (fun h => ?_)
 ·refine ZZ 3 [2] ?_
  refine o_store (j := 0) (vs := [v1, v2]) (cs' := [v1, v2]) rfl rfl rfl z_size28 rfl rfl rfl (ones_cons (hs3.up hl15).one' (ones_cons (hs4.up hl15).one' ones_nil)) rfl rfl rfl (Z 2 ?_)
  obtain rfl := h.symm
  exact RC [.agg #[v1, v2], .bool false] func7 ⟨cN 0 z_agg28, rfl, trivial⟩ hl15 ⟨_, _, rfl, rfl, (hs3.up hl15), (hs4.up hl15)⟩
 ·refine Z 2 ?_
  obtain ⟨hf25, hf26, hf40, hf41, h⟩ := h
  refine st_d41 [[(b11, .cells #[.N0, .N0] 28 (0, 0))], [(b10, .cells (lM a1 v5 v6).toArray 41 (0, 0))], [(b9, .cells #[v1, v2] 28 (0, 0))]] [] 7 3 [some (0, 0), none, none, some (0, 1), none, none, some (0, 2)] [none, none, none, none, none, none, none] [[none, some 10, some 13, some 16]] [.t fun _ _ => True, .v (.Pb b9), .v (v1), .t fun _ _ => True, .v (.agg (lM a1 v5 v6).toArray), .t fun τ v => ∃ (v30 : Value), (v30 : Value) = v ∧ Sl (kP (kI .i64) (kP (kA .i64 6) (kP (kSl (kA .i64 2)) (kP (kSl (kI .i64)) (kP kS kS))))) τ v30 [a1], .t fun _ _ => True] [[fun τ u F => F = [], fun τ u F => ∃ (v19 : Value) (g20 : Grp), F = [g20] ∧ v19 = u ∧ Ow (kP (kI .i64) (kP (kA .i64 6) (kP (kSl (kA .i64 2)) (kP (kSl (kI .i64)) (kP kS kS))))) 41 τ v19 ([] : List (TyR)) g20, fun τ u F => ∃ (v27 : Value) (g28 : Grp), F = [g28] ∧ v27 = u ∧ Ow (kP (kI .i64) (kP (kA .i64 6) (kP (kSl (kA .i64 2)) (kP (kSl (kI .i64)) (kP kS kS))))) 41 τ v27 (([] : List (TyR)) ++ a0.1) g28, fun τ u F => ∃ (v42 : Value) (g43 : Grp), F = [g43] ∧ v42 = u ∧ Ow (kP (kI .i64) (kP (kA .i64 6) (kP (kSl (kA .i64 2)) (kP (kSl (kI .i64)) (kP kS kS))))) 41 τ v42 ((([] : List (TyR)) ++ a0.1) ++ [a1]) g43]] rfl z_mix rfl ⟨fun _ _ _ _ _ => trivial, ⟨fun _ _ _ _ _ => trivial, ⟨fun _ _ _ hl ⟨v30, hv, hs36⟩ => ⟨v30, hv, hs36.up hl⟩, ⟨fun _ _ _ _ _ => trivial, trivial⟩⟩⟩⟩ ⟨⟨fun _ _ _ _ hl h => h, ⟨fun _ _ _ _ hl h => (let ⟨v19, g20, hF, hU, ho21⟩ := h; ⟨v19, g20, hF, hU, ho21.up hl⟩), ⟨fun _ _ _ _ hl h => (let ⟨v27, g28, hF, hU, ho29⟩ := h; ⟨v27, g28, hF, hU, ho29.up hl⟩), ⟨fun _ _ _ _ hl h => (let ⟨v42, g43, hF, hU, ho44⟩ := h; ⟨v42, g43, hF, hU, ho44.up hl⟩), trivial⟩⟩⟩⟩, trivial⟩ rfl rfl ?_ (allB_cons (allB_cons (allB_cons (allB_cons (allB_cons (allB_cons (allB_cons allB_nil ?_) (p4 dA)) ?_) ?_) ?_) ?_) ?_) ?_
  ·exact rfl
  ·intro ρ' τ u Fv pq rs hl hI hu hd hq hw hk
   have hI0 := hI
   obtain rfl := hI
   refine o_lit (dk := (kP (kI .i64) (kP (kA .i64 6) (kP (kSl (kA .i64 2)) (kP (kSl (kI .i64)) (kP kS kS)))))) (xs := ([] : List (TyR))) (ps := []) (cs := []) rfl rfl rfl z_slT25 z_zero41 trivial rfl rfl rfl rfl Kd.Many.nil (fun v16 g17 ho18 => ?_)
   refine st_ord [1, 1, 1, 0, 0] _ rfl ?_
   exact hk _ _ [g17] LR trivial (by exact ⟨v16, g17, rfl, rfl, ho18⟩)
  ·intro ρ' τ pq rs hl hd hq hw hk
   obtain ⟨_, e1, rfl⟩ := hd 1 rfl _ rfl
   refine o_load (j := 2) (v := v1) rfl rfl rfl z_sc25 e1 rfl rfl ?_
   exact hk _ _ LR rfl
  ·intro ρ' τ u Fv pq rs hl hI hu hd hq hw hk
   obtain ⟨_, e2, rfl⟩ := hd 2 rfl _ rfl
   obtain ⟨v19, g20, rfl, rfl, ho21⟩ := hI
   refine st_ord [3, 0, 0, 0, 0] _ rfl ?_
   refine o_append (dk := (kP (kI .i64) (kP (kA .i64 6) (kP (kSl (kA .i64 2)) (kP (kSl (kI .i64)) (kP kS kS)))))) (xs := ([] : List (TyR))) (ys := a0.1) rfl rfl rfl rfl z_slT25 (hu (by decide) _ rfl) ho21 e2 (Sl.src (hs3.up (hl15.trans hl))) hf25 hf26 (fun v22 g23 ho24 => ?_)
   refine st_ord [1, 1, 1, 0, 0] _ rfl ?_
   exact hk _ _ [g23] LR trivial (by exact ⟨v22, g23, rfl, rfl, ho24⟩)
  ·intro ρ' τ pq rs hl hd hq hw hk
   refine o_loadN (j := 1) (vs := (lM a1 v5 v6)) rfl rfl rfl z_agg41 (oT hq 3) rfl rfl ?_
   exact hk _ _ LR rfl
  ·intro ρ' τ pq rs hl hd hq hw hk
   obtain ⟨_, e4, rfl⟩ := hd 4 rfl _ rfl
   refine o_lit (dk := (kP (kI .i64) (kP (kA .i64 6) (kP (kSl (kA .i64 2)) (kP (kSl (kI .i64)) (kP kS kS)))))) (xs := [a1]) (ps := [(0, (lM a1 v5 v6))]) (cs := (lM a1 v5 v6)) rfl rfl rfl z_slT25 z_zero41 ⟨rfl, ⟨_, e4, rfl⟩, trivial⟩ rfl rfl rfl rfl (Kd.Many.cons (d := (kP (kI .i64) (kP (kA .i64 6) (kP (kSl (kA .i64 2)) (kP (kSl (kI .i64)) (kP kS kS)))))) (x := a1) (a := (lM a1 v5 v6)) ⟨[.I a1.1], _, rfl, rfl, ⟨[.I (a1.2.1.getD 0 0), .I (a1.2.1.getD 1 0), .I (a1.2.1.getD 2 0), .I (a1.2.1.getD 3 0), .I (a1.2.1.getD 4 0), .I (a1.2.1.getD 5 0)], _, rfl, rfl, ⟨[v5], _, rfl, ⟨_, rfl, (hs7.up (hl15.trans hl))⟩, ⟨[v6], _, rfl, ⟨_, rfl, (hs8.up (hl15.trans hl))⟩, ⟨[.string a1.t4.1], _, rfl, rfl, rfl⟩⟩⟩⟩⟩ Kd.Many.nil) (fun v30 g31 ho32 => ?_)
   refine st_freeze (fun τ33 hl34 hg35 => ?_)
   have hs36 := ho32.freeze hl34 hg35
   exact hk _ _ hl34 ⟨v30, rfl, hs36⟩
  ·intro ρ' τ u Fv pq rs hl hI hu hd hq hw hk
   obtain ⟨_, e5, v30, rfl, hs36⟩ := hd 5 rfl _ rfl
   obtain ⟨v27, g28, rfl, rfl, ho29⟩ := hI
   refine st_ord [3, 0, 0, 0, 0] _ rfl ?_
   refine o_append (dk := (kP (kI .i64) (kP (kA .i64 6) (kP (kSl (kA .i64 2)) (kP (kSl (kI .i64)) (kP kS kS)))))) (xs := (([] : List (TyR)) ++ a0.1)) (ys := [a1]) rfl rfl rfl rfl z_slT25 (hu (by decide) _ rfl) ho29 e5 (Sl.src hs36) hf40 hf41 (fun v37 g38 ho39 => ?_)
   refine st_ord [1, 1, 1, 0, 0] _ rfl ?_
   exact hk _ _ [g38] LR trivial (by exact ⟨v37, g38, rfl, rfl, ho39⟩)
  intro ρ' τ45 vals u Fv hl45 hI hu hv hq
  obtain ⟨v42, g43, rfl, rfl, ho44⟩ := hI
  refine st_env (ρ' := [(2, .Pb b9), (3, .Pb b10), (4, .Pb b11), (5, .bool false), (16, v42)]) ⟨oT hq 2, oT hq 3, oT hq 4, oT hq 5, (by exact hu _ rfl), trivial⟩ ?_
  refine o_fieldAddr rfl rfl rfl z_field28_0 rfl ?_
  refine o_store (j := 2) (vs := [v42]) (cs' := [v42, v2]) rfl rfl rfl z_size25 rfl rfl (oneL_ow ho44) (ones_cons ho44.one' ones_nil) rfl rfl rfl (Z 2 ?_)
  refine st_cut (fun ρ τ46 gs => ∃ (s46 : (List (TyR)) × (List (Int × Int × List Int))) (v47 v49 : Value), ref30_Apply_j1 s46 r ∧ τ45.Le τ46 ∧ ESub ρ [(2, .Pb b9), (4, .Pb b11), (5, .bool false)] ∧ gs = [[(b9, .cells #[v47, v49] 28 (0, 0))], [(b11, .cells #[.N0, .N0] 28 (0, 0))]] ∧ Sl (kP (kI .i64) (kP (kA .i64 6) (kP (kSl (kA .i64 2)) (kP (kSl (kI .i64)) (kP kS kS))))) τ46 v47 s46.1 ∧ Sl (kP (kI .i64) (kP (kI .i64) (kSl (kI .i64)))) τ46 v49 s46.2) ?_ (fun hk46 => ?_)
  ·rintro ρ46 τ46 gs46 ⟨s46, v47, v49, h, hl46, hρ, rfl, hs48, hs50⟩
   refine st_es hρ (ZZ 3 [0] ?_)
   refine o_store (j := 1) (vs := [v47, v49]) (cs' := [v47, v49]) rfl rfl rfl z_size28 rfl rfl rfl (ones_cons hs48.one' (ones_cons hs50.one' ones_nil)) rfl rfl rfl (Z 2 ?_)
   obtain rfl := h.symm
   exact RC [.agg #[v47, v49], .bool true] func7 ⟨cN 1 z_agg28, rfl, trivial⟩ ((hl15.trans hl45).trans hl46) ⟨_, _, rfl, rfl, hs48, hs50⟩
  refine ZZ 6 [1] ?_
  refine I2 h (fun h => ?_) (fun h => ?_)
  ·refine ZZ 3 [2] ?_
   refine o_indexA rfl rfl rfl z_arr29 rfl rfl (by decide) (by decide) (ZZ 2 [1] ?_)
   refine o_indexA rfl rfl rfl z_arr29 rfl rfl (by decide) (by decide) (ZZ 3 [1, 1] ?_)
   refine o_build (ps := [(0, [.I (a1.2.1.getD 0 0)]), (1, [.I (a1.2.1.getD 1 0)]), (2, [v6])]) rfl rfl rfl z_struct80 ⟨rfl, ⟨_, rfl, rfl⟩, ⟨rfl, ⟨_, rfl, rfl⟩, ⟨rfl, ⟨_, rfl, (oneL_sl (hs8.up (hl15.trans hl45)))⟩, trivial⟩⟩⟩ rfl ?_
   obtain ⟨r57, hr58, h⟩ := h
   refine st_ord [3, 0, 0, 0] _ rfl ?_
   refine st_freeze (fun τ51 hl52 hg53 => ?_)
   have hs54 := ho44.freeze hl52 hg53
   refine SC z_en29 (ref30_set_ok hr58 τ51 hs54 (hs4.up ((hl15.trans hl45).trans hl52)) (hs8.up ((hl15.trans hl45).trans hl52))) ?_
   rintro _ τ59 _ hl60 ⟨v61, v62, rfl, rfl, hs63, hs64⟩
   refine o_store (j := 2) (vs := [v61, v62]) (cs' := [v61, v62]) rfl rfl rfl z_size28 rfl rfl rfl (ones_cons hs63.one' (ones_cons hs64.one' ones_nil)) rfl rfl rfl ?_
   refine st_end ?_
   refine st_ord [2, 0] _ rfl ?_
   exact hk46 _ _ _ ⟨(r57.1, r57.2), _, _, h, (hl52.trans hl60), rfl, rfl, hs63, hs64⟩
  ·refine st_skip ?_
   refine st_ord [3, 0, 0, 0] _ rfl ?_
   refine st_freeze (fun τ65 hl66 hg67 => ?_)
   have hs68 := ho44.freeze hl66 hg67
   refine st_ord [2, 0] _ rfl ?_
   exact hk46 _ _ _ ⟨(((([] : List (TyR)) ++ a0.1) ++ [a1]), a0.2), _, _, h, hl66, rfl, rfl, hs68, (hs4.up ((hl15.trans hl45).trans hl66))⟩
theorem field_robot_ok  {r : (TyA)} (h : field_robot r) (σ : Sto)  :
    Does prog 74 [] σ [] (fun v τ gs => gs = [] ∧ .agg (lA r).toArray = v) := by
 refine CO func74 ntmps74 rfl (fun cs fs => Z 2 ?_)
 refine o_alloc rfl rfl rfl z_zero120 (fun b1 => Z 3 ?_)
 refine o_build (ps := [(0, [.string (bstr [114, 111, 98, 111, 116])]), (1, [.I 1]), (2, [.I 0]), (3, [.I 0]), (4, [.I 65535]), (5, [.I 1]), (6, [.I 0])]) rfl rfl rfl z_struct120 ⟨rfl, ⟨_, (ev_str z_str0), rfl⟩, ⟨rfl, ⟨_, rfl, rfl⟩, ⟨rfl, ⟨_, rfl, rfl⟩, ⟨rfl, ⟨_, rfl, rfl⟩, ⟨rfl, ⟨_, rfl, rfl⟩, ⟨rfl, ⟨_, rfl, rfl⟩, ⟨rfl, ⟨_, rfl, rfl⟩, trivial⟩⟩⟩⟩⟩⟩⟩ rfl (ZZ 2 [0] ?_)
 obtain rfl := h.symm
 exact RC [.agg #[.string (bstr [114, 111, 98, 111, 116]), .I 1, .I 0, .I 0, .I 65535, .I 1, .I 0]] func74 ⟨cN 0 z_agg120, trivial⟩ LR ⟨rfl, rfl⟩
theorem field_Of_ok {a0 : Int} {r : (List (TyA))} (h : field_Of a0 r) (σ : Sto)  :
    Does prog 56 [.I a0] σ [] (fun v τ gs => ∃ (v61 : Value), gs = [] ∧ v61 = v ∧ Sl (kP kS (kP (kI .i64) (kP (kI .i64) (kP (kI .i64) (kP (kI .i64) (kP (kI .i64) (kI .i64))))))) τ v61 r) := by
 refine CO func56 ntmps56 rfl (fun cs fs => Z 15 ?_)
 refine I2 h (fun h => ?_) (fun h => ?_)
 ·refine Z 2 ?_
  obtain ⟨r1, hr2, h⟩ := h
  refine SC z_en74 (field_robot_ok hr2 σ) ?_
  rintro _ τ3 _ hl4 ⟨rfl, rfl⟩
  refine o_build (ps := [(0, [.string (bstr [115, 112, 101, 101, 100])]), (1, [.I 1]), (2, [.I 1]), (3, [.I 1]), (4, [.I 5000]), (5, [.I 1]), (6, [.I 0])]) rfl rfl rfl z_struct120 ⟨rfl, ⟨_, (ev_str z_str1), rfl⟩, ⟨rfl, ⟨_, rfl, rfl⟩, ⟨rfl, ⟨_, rfl, rfl⟩, ⟨rfl, ⟨_, rfl, rfl⟩, ⟨rfl, ⟨_, rfl, rfl⟩, ⟨rfl, ⟨_, rfl, rfl⟩, ⟨rfl, ⟨_, rfl, rfl⟩, trivial⟩⟩⟩⟩⟩⟩⟩ rfl ?_
  refine o_build (ps := [(0, [.string (bstr [97, 99, 99, 101, 108])]), (1, [.I 1]), (2, [.I 2]), (3, [.I 1]), (4, [.I 10000]), (5, [.I 2]), (6, [.I 500])]) rfl rfl rfl z_struct120 ⟨rfl, ⟨_, (ev_str z_str2), rfl⟩, ⟨rfl, ⟨_, rfl, rfl⟩, ⟨rfl, ⟨_, rfl, rfl⟩, ⟨rfl, ⟨_, rfl, rfl⟩, ⟨rfl, ⟨_, rfl, rfl⟩, ⟨rfl, ⟨_, rfl, rfl⟩, ⟨rfl, ⟨_, rfl, rfl⟩, trivial⟩⟩⟩⟩⟩⟩⟩ rfl ?_
  refine o_build (ps := [(0, [.string (bstr [112, 97, 116, 104])]), (1, [.I 3]), (2, [.I (-1)]), (3, [.I 1]), (4, [.I 16]), (5, [.I 1]), (6, [.I 0])]) rfl rfl rfl z_struct120 ⟨rfl, ⟨_, (ev_str z_str3), rfl⟩, ⟨rfl, ⟨_, rfl, rfl⟩, ⟨rfl, ⟨_, rfl, rfl⟩, ⟨rfl, ⟨_, rfl, rfl⟩, ⟨rfl, ⟨_, rfl, rfl⟩, ⟨rfl, ⟨_, rfl, rfl⟩, ⟨rfl, ⟨_, rfl, rfl⟩, trivial⟩⟩⟩⟩⟩⟩⟩ rfl ?_
  refine o_build (ps := [(0, [.string (bstr [116, 97, 103])]), (1, [.I 6]), (2, [.I (-1)]), (3, [.I 0]), (4, [.I 16]), (5, [.I 2]), (6, [.I 0])]) rfl rfl rfl z_struct120 ⟨rfl, ⟨_, (ev_str z_str4), rfl⟩, ⟨rfl, ⟨_, rfl, rfl⟩, ⟨rfl, ⟨_, rfl, rfl⟩, ⟨rfl, ⟨_, rfl, rfl⟩, ⟨rfl, ⟨_, rfl, rfl⟩, ⟨rfl, ⟨_, rfl, rfl⟩, ⟨rfl, ⟨_, rfl, rfl⟩, trivial⟩⟩⟩⟩⟩⟩⟩ rfl ?_
  refine o_litE (eP eS (eP (eI .i64) (eP (eI .i64) (eP (eI .i64) (eP (eI .i64) (eP (eI .i64) (eI .i64))))))) [r1, ((bstr [115, 112, 101, 101, 100]), 1, 1, 1, 5000, 1, 0), ((bstr [97, 99, 99, 101, 108]), 1, 2, 1, 10000, 2, 500), ((bstr [112, 97, 116, 104]), 3, (-1), 1, 16, 1, 0), ((bstr [116, 97, 103]), 6, (-1), 0, 16, 2, 0)] rfl rfl rfl z_slT118 z_zero120 ⟨rfl, ⟨_, rfl, rfl⟩, ⟨rfl, ⟨_, rfl, rfl⟩, ⟨rfl, ⟨_, rfl, rfl⟩, ⟨rfl, ⟨_, rfl, rfl⟩, ⟨rfl, ⟨_, rfl, rfl⟩, trivial⟩⟩⟩⟩⟩ rfl rfl rfl rfl (fun v5 g6 ho7 => Z 2 ?_)
  refine st_freeze (fun τ8 hl9 hg10 => ?_)
  have hs11 := ho7.freeze hl9 hg10
  obtain rfl := h.symm
  exact RT func56 rfl (hl4.trans hl9) ⟨_, rfl, rfl, hs11⟩
 ·refine Z 5 ?_
  refine I2 h (fun h => ?_) (fun h => ?_)
  ·refine Z 2 ?_
   obtain ⟨r13, hr14, h⟩ := h
   refine SC z_en74 (field_robot_ok hr14 σ) ?_
   rintro _ τ15 _ hl16 ⟨rfl, rfl⟩
   refine o_build (ps := [(0, [.string (bstr [114, 101, 97, 115, 111, 110])]), (1, [.I 1]), (2, [.I 1]), (3, [.I 0]), (4, [.I 15]), (5, [.I 1]), (6, [.I 0])]) rfl rfl rfl z_struct120 ⟨rfl, ⟨_, (ev_str z_str5), rfl⟩, ⟨rfl, ⟨_, rfl, rfl⟩, ⟨rfl, ⟨_, rfl, rfl⟩, ⟨rfl, ⟨_, rfl, rfl⟩, ⟨rfl, ⟨_, rfl, rfl⟩, ⟨rfl, ⟨_, rfl, rfl⟩, ⟨rfl, ⟨_, rfl, rfl⟩, trivial⟩⟩⟩⟩⟩⟩⟩ rfl ?_
   refine o_build (ps := [(0, [.string (bstr [122, 111, 110, 101])]), (1, [.I 1]), (2, [.I 2]), (3, [.I 0]), (4, [.I 4095]), (5, [.I 2]), (6, [.I 0])]) rfl rfl rfl z_struct120 ⟨rfl, ⟨_, (ev_str z_str6), rfl⟩, ⟨rfl, ⟨_, rfl, rfl⟩, ⟨rfl, ⟨_, rfl, rfl⟩, ⟨rfl, ⟨_, rfl, rfl⟩, ⟨rfl, ⟨_, rfl, rfl⟩, ⟨rfl, ⟨_, rfl, rfl⟩, ⟨rfl, ⟨_, rfl, rfl⟩, trivial⟩⟩⟩⟩⟩⟩⟩ rfl ?_
   refine o_litE (eP eS (eP (eI .i64) (eP (eI .i64) (eP (eI .i64) (eP (eI .i64) (eP (eI .i64) (eI .i64))))))) [r13, ((bstr [114, 101, 97, 115, 111, 110]), 1, 1, 0, 15, 1, 0), ((bstr [122, 111, 110, 101]), 1, 2, 0, 4095, 2, 0)] rfl rfl rfl z_slT118 z_zero120 ⟨rfl, ⟨_, rfl, rfl⟩, ⟨rfl, ⟨_, rfl, rfl⟩, ⟨rfl, ⟨_, rfl, rfl⟩, trivial⟩⟩⟩ rfl rfl rfl rfl (fun v17 g18 ho19 => Z 2 ?_)
   refine st_freeze (fun τ20 hl21 hg22 => ?_)
   have hs23 := ho19.freeze hl21 hg22
   obtain rfl := h.symm
   exact RT func56 rfl (hl16.trans hl21) ⟨_, rfl, rfl, hs23⟩
  ·refine Z 5 ?_
   refine I2 h (fun h => ?_) (fun h => ?_)
   ·refine Z 2 ?_
    obtain ⟨r25, hr26, h⟩ := h
    refine SC z_en74 (field_robot_ok hr26 σ) ?_
    rintro _ τ27 _ hl28 ⟨rfl, rfl⟩
    refine o_build (ps := [(0, [.string (bstr [122, 111, 110, 101])]), (1, [.I 1]), (2, [.I 1]), (3, [.I 0]), (4, [.I 4095]), (5, [.I 1]), (6, [.I 0])]) rfl rfl rfl z_struct120 ⟨rfl, ⟨_, (ev_str z_str6), rfl⟩, ⟨rfl, ⟨_, rfl, rfl⟩, ⟨rfl, ⟨_, rfl, rfl⟩, ⟨rfl, ⟨_, rfl, rfl⟩, ⟨rfl, ⟨_, rfl, rfl⟩, ⟨rfl, ⟨_, rfl, rfl⟩, ⟨rfl, ⟨_, rfl, rfl⟩, trivial⟩⟩⟩⟩⟩⟩⟩ rfl ?_
    refine o_build (ps := [(0, [.string (bstr [108, 101, 97, 115, 101])]), (1, [.I 1]), (2, [.I 2]), (3, [.I 1]), (4, [.I 255]), (5, [.I 2]), (6, [.I 1])]) rfl rfl rfl z_struct120 ⟨rfl, ⟨_, (ev_str z_str7), rfl⟩, ⟨rfl, ⟨_, rfl, rfl⟩, ⟨rfl, ⟨_, rfl, rfl⟩, ⟨rfl, ⟨_, rfl, rfl⟩, ⟨rfl, ⟨_, rfl, rfl⟩, ⟨rfl, ⟨_, rfl, rfl⟩, ⟨rfl, ⟨_, rfl, rfl⟩, trivial⟩⟩⟩⟩⟩⟩⟩ rfl ?_
    refine o_build (ps := [(0, [.string (bstr [99, 101, 108, 108, 115])]), (1, [.I 4]), (2, [.I (-1)]), (3, [.I 1]), (4, [.I 32]), (5, [.I 1]), (6, [.I 0])]) rfl rfl rfl z_struct120 ⟨rfl, ⟨_, (ev_str z_str8), rfl⟩, ⟨rfl, ⟨_, rfl, rfl⟩, ⟨rfl, ⟨_, rfl, rfl⟩, ⟨rfl, ⟨_, rfl, rfl⟩, ⟨rfl, ⟨_, rfl, rfl⟩, ⟨rfl, ⟨_, rfl, rfl⟩, ⟨rfl, ⟨_, rfl, rfl⟩, trivial⟩⟩⟩⟩⟩⟩⟩ rfl ?_
    refine o_litE (eP eS (eP (eI .i64) (eP (eI .i64) (eP (eI .i64) (eP (eI .i64) (eP (eI .i64) (eI .i64))))))) [r25, ((bstr [122, 111, 110, 101]), 1, 1, 0, 4095, 1, 0), ((bstr [108, 101, 97, 115, 101]), 1, 2, 1, 255, 2, 1), ((bstr [99, 101, 108, 108, 115]), 4, (-1), 1, 32, 1, 0)] rfl rfl rfl z_slT118 z_zero120 ⟨rfl, ⟨_, rfl, rfl⟩, ⟨rfl, ⟨_, rfl, rfl⟩, ⟨rfl, ⟨_, rfl, rfl⟩, ⟨rfl, ⟨_, rfl, rfl⟩, trivial⟩⟩⟩⟩ rfl rfl rfl rfl (fun v29 g30 ho31 => Z 2 ?_)
    refine st_freeze (fun τ32 hl33 hg34 => ?_)
    have hs35 := ho31.freeze hl33 hg34
    obtain rfl := h.symm
    exact RT func56 rfl (hl28.trans hl33) ⟨_, rfl, rfl, hs35⟩
   ·refine Z 5 ?_
    refine I2 h (fun h => ?_) (fun h => ?_)
    ·refine Z 2 ?_
     obtain ⟨r37, hr38, h⟩ := h
     refine SC z_en74 (field_robot_ok hr38 σ) ?_
     rintro _ τ39 _ hl40 ⟨rfl, rfl⟩
     refine o_build (ps := [(0, [.string (bstr [120])]), (1, [.I 2]), (2, [.I 1]), (3, [.I (-1000000)]), (4, [.I 1000000]), (5, [.I 1]), (6, [.I 0])]) rfl rfl rfl z_struct120 ⟨rfl, ⟨_, (ev_str z_str9), rfl⟩, ⟨rfl, ⟨_, rfl, rfl⟩, ⟨rfl, ⟨_, rfl, rfl⟩, ⟨rfl, ⟨_, rfl, rfl⟩, ⟨rfl, ⟨_, rfl, rfl⟩, ⟨rfl, ⟨_, rfl, rfl⟩, ⟨rfl, ⟨_, rfl, rfl⟩, trivial⟩⟩⟩⟩⟩⟩⟩ rfl ?_
     refine o_build (ps := [(0, [.string (bstr [121])]), (1, [.I 2]), (2, [.I 2]), (3, [.I (-1000000)]), (4, [.I 1000000]), (5, [.I 1]), (6, [.I 0])]) rfl rfl rfl z_struct120 ⟨rfl, ⟨_, (ev_str z_str10), rfl⟩, ⟨rfl, ⟨_, rfl, rfl⟩, ⟨rfl, ⟨_, rfl, rfl⟩, ⟨rfl, ⟨_, rfl, rfl⟩, ⟨rfl, ⟨_, rfl, rfl⟩, ⟨rfl, ⟨_, rfl, rfl⟩, ⟨rfl, ⟨_, rfl, rfl⟩, trivial⟩⟩⟩⟩⟩⟩⟩ rfl ?_
     refine o_build (ps := [(0, [.string (bstr [104, 101, 97, 100, 105, 110, 103])]), (1, [.I 1]), (2, [.I 3]), (3, [.I 0]), (4, [.I 35999]), (5, [.I 1]), (6, [.I 0])]) rfl rfl rfl z_struct120 ⟨rfl, ⟨_, (ev_str z_str11), rfl⟩, ⟨rfl, ⟨_, rfl, rfl⟩, ⟨rfl, ⟨_, rfl, rfl⟩, ⟨rfl, ⟨_, rfl, rfl⟩, ⟨rfl, ⟨_, rfl, rfl⟩, ⟨rfl, ⟨_, rfl, rfl⟩, ⟨rfl, ⟨_, rfl, rfl⟩, trivial⟩⟩⟩⟩⟩⟩⟩ rfl ?_
     refine o_build (ps := [(0, [.string (bstr [98, 97, 116, 116, 101, 114, 121])]), (1, [.I 1]), (2, [.I 4]), (3, [.I 0]), (4, [.I 1000]), (5, [.I 1]), (6, [.I 0])]) rfl rfl rfl z_struct120 ⟨rfl, ⟨_, (ev_str z_str12), rfl⟩, ⟨rfl, ⟨_, rfl, rfl⟩, ⟨rfl, ⟨_, rfl, rfl⟩, ⟨rfl, ⟨_, rfl, rfl⟩, ⟨rfl, ⟨_, rfl, rfl⟩, ⟨rfl, ⟨_, rfl, rfl⟩, ⟨rfl, ⟨_, rfl, rfl⟩, trivial⟩⟩⟩⟩⟩⟩⟩ rfl ?_
     refine o_build (ps := [(0, [.string (bstr [115, 117, 114, 101])]), (1, [.I 1]), (2, [.I 5]), (3, [.I 0]), (4, [.I 100]), (5, [.I 2]), (6, [.I 100])]) rfl rfl rfl z_struct120 ⟨rfl, ⟨_, (ev_str z_str13), rfl⟩, ⟨rfl, ⟨_, rfl, rfl⟩, ⟨rfl, ⟨_, rfl, rfl⟩, ⟨rfl, ⟨_, rfl, rfl⟩, ⟨rfl, ⟨_, rfl, rfl⟩, ⟨rfl, ⟨_, rfl, rfl⟩, ⟨rfl, ⟨_, rfl, rfl⟩, trivial⟩⟩⟩⟩⟩⟩⟩ rfl ?_
     refine o_litE (eP eS (eP (eI .i64) (eP (eI .i64) (eP (eI .i64) (eP (eI .i64) (eP (eI .i64) (eI .i64))))))) [r37, ((bstr [120]), 2, 1, (-1000000), 1000000, 1, 0), ((bstr [121]), 2, 2, (-1000000), 1000000, 1, 0), ((bstr [104, 101, 97, 100, 105, 110, 103]), 1, 3, 0, 35999, 1, 0), ((bstr [98, 97, 116, 116, 101, 114, 121]), 1, 4, 0, 1000, 1, 0), ((bstr [115, 117, 114, 101]), 1, 5, 0, 100, 2, 100)] rfl rfl rfl z_slT118 z_zero120 ⟨rfl, ⟨_, rfl, rfl⟩, ⟨rfl, ⟨_, rfl, rfl⟩, ⟨rfl, ⟨_, rfl, rfl⟩, ⟨rfl, ⟨_, rfl, rfl⟩, ⟨rfl, ⟨_, rfl, rfl⟩, ⟨rfl, ⟨_, rfl, rfl⟩, trivial⟩⟩⟩⟩⟩⟩ rfl rfl rfl rfl (fun v41 g42 ho43 => Z 2 ?_)
     refine st_freeze (fun τ44 hl45 hg46 => ?_)
     have hs47 := ho43.freeze hl45 hg46
     obtain rfl := h.symm
     exact RT func56 rfl (hl40.trans hl45) ⟨_, rfl, rfl, hs47⟩
    ·refine Z 5 ?_
     refine I2 h (fun h => ?_) (fun h => ?_)
     ·refine Z 2 ?_
      obtain ⟨r49, hr50, h⟩ := h
      refine SC z_en74 (field_robot_ok hr50 σ) ?_
      rintro _ τ51 _ hl52 ⟨rfl, rfl⟩
      refine o_build (ps := [(0, [.string (bstr [99, 111, 100, 101])]), (1, [.I 1]), (2, [.I 1]), (3, [.I 1]), (4, [.I 9999]), (5, [.I 1]), (6, [.I 0])]) rfl rfl rfl z_struct120 ⟨rfl, ⟨_, (ev_str z_str14), rfl⟩, ⟨rfl, ⟨_, rfl, rfl⟩, ⟨rfl, ⟨_, rfl, rfl⟩, ⟨rfl, ⟨_, rfl, rfl⟩, ⟨rfl, ⟨_, rfl, rfl⟩, ⟨rfl, ⟨_, rfl, rfl⟩, ⟨rfl, ⟨_, rfl, rfl⟩, trivial⟩⟩⟩⟩⟩⟩⟩ rfl ?_
      refine o_build (ps := [(0, [.string (bstr [115, 101, 118, 101, 114, 105, 116, 121])]), (1, [.I 1]), (2, [.I 2]), (3, [.I 0]), (4, [.I 4]), (5, [.I 1]), (6, [.I 0])]) rfl rfl rfl z_struct120 ⟨rfl, ⟨_, (ev_str z_str15), rfl⟩, ⟨rfl, ⟨_, rfl, rfl⟩, ⟨rfl, ⟨_, rfl, rfl⟩, ⟨rfl, ⟨_, rfl, rfl⟩, ⟨rfl, ⟨_, rfl, rfl⟩, ⟨rfl, ⟨_, rfl, rfl⟩, ⟨rfl, ⟨_, rfl, rfl⟩, trivial⟩⟩⟩⟩⟩⟩⟩ rfl ?_
      refine o_build (ps := [(0, [.string (bstr [112, 97, 114, 116])]), (1, [.I 1]), (2, [.I 3]), (3, [.I 0]), (4, [.I 255]), (5, [.I 2]), (6, [.I 0])]) rfl rfl rfl z_struct120 ⟨rfl, ⟨_, (ev_str z_str16), rfl⟩, ⟨rfl, ⟨_, rfl, rfl⟩, ⟨rfl, ⟨_, rfl, rfl⟩, ⟨rfl, ⟨_, rfl, rfl⟩, ⟨rfl, ⟨_, rfl, rfl⟩, ⟨rfl, ⟨_, rfl, rfl⟩, ⟨rfl, ⟨_, rfl, rfl⟩, trivial⟩⟩⟩⟩⟩⟩⟩ rfl ?_
      refine o_build (ps := [(0, [.string (bstr [116, 105, 109, 101, 115])]), (1, [.I 1]), (2, [.I 4]), (3, [.I 1]), (4, [.I 1000000]), (5, [.I 2]), (6, [.I 1])]) rfl rfl rfl z_struct120 ⟨rfl, ⟨_, (ev_str z_str17), rfl⟩, ⟨rfl, ⟨_, rfl, rfl⟩, ⟨rfl, ⟨_, rfl, rfl⟩, ⟨rfl, ⟨_, rfl, rfl⟩, ⟨rfl, ⟨_, rfl, rfl⟩, ⟨rfl, ⟨_, rfl, rfl⟩, ⟨rfl, ⟨_, rfl, rfl⟩, trivial⟩⟩⟩⟩⟩⟩⟩ rfl ?_
      refine o_build (ps := [(0, [.string (bstr [116, 101, 120, 116])]), (1, [.I 5]), (2, [.I (-1)]), (3, [.I 0]), (4, [.I 64]), (5, [.I 1]), (6, [.I 0])]) rfl rfl rfl z_struct120 ⟨rfl, ⟨_, (ev_str z_str18), rfl⟩, ⟨rfl, ⟨_, rfl, rfl⟩, ⟨rfl, ⟨_, rfl, rfl⟩, ⟨rfl, ⟨_, rfl, rfl⟩, ⟨rfl, ⟨_, rfl, rfl⟩, ⟨rfl, ⟨_, rfl, rfl⟩, ⟨rfl, ⟨_, rfl, rfl⟩, trivial⟩⟩⟩⟩⟩⟩⟩ rfl ?_
      refine o_litE (eP eS (eP (eI .i64) (eP (eI .i64) (eP (eI .i64) (eP (eI .i64) (eP (eI .i64) (eI .i64))))))) [r49, ((bstr [99, 111, 100, 101]), 1, 1, 1, 9999, 1, 0), ((bstr [115, 101, 118, 101, 114, 105, 116, 121]), 1, 2, 0, 4, 1, 0), ((bstr [112, 97, 114, 116]), 1, 3, 0, 255, 2, 0), ((bstr [116, 105, 109, 101, 115]), 1, 4, 1, 1000000, 2, 1), ((bstr [116, 101, 120, 116]), 5, (-1), 0, 64, 1, 0)] rfl rfl rfl z_slT118 z_zero120 ⟨rfl, ⟨_, rfl, rfl⟩, ⟨rfl, ⟨_, rfl, rfl⟩, ⟨rfl, ⟨_, rfl, rfl⟩, ⟨rfl, ⟨_, rfl, rfl⟩, ⟨rfl, ⟨_, rfl, rfl⟩, ⟨rfl, ⟨_, rfl, rfl⟩, trivial⟩⟩⟩⟩⟩⟩ rfl rfl rfl rfl (fun v53 g54 ho55 => Z 2 ?_)
      refine st_freeze (fun τ56 hl57 hg58 => ?_)
      have hs59 := ho55.freeze hl57 hg58
      obtain rfl := h.symm
      exact RT func56 rfl (hl52.trans hl57) ⟨_, rfl, rfl, hs59⟩
     ·refine Z 6 ?_
      obtain rfl := h.symm
      exact RT func56 rfl LR ⟨_, rfl, rfl, Sl.nil⟩
theorem msg_many_ok {a0 : Int} {a1 : TyA} {r : Int} (h : msg_many a0 a1 r) (σ : Sto)  :
    Does prog 94 [.I a0, .agg (lA a1).toArray] σ [] (fun v τ gs => gs = [] ∧ .I r = v) := by
 refine CO func94 ntmps94 rfl (fun cs fs => Z 2 ?_)
 refine o_boxC rfl rfl rfl rfl rfl rfl (fun b1 => ZZ 12 [0] ?_)
 refine I2 h (fun h => ?_) (fun h => ?_)
 ·refine Z 4 ?_
  obtain rfl := h.symm
  exact RT func94 rfl LR ⟨rfl, rfl⟩
 ·refine ZZ 8 [0] ?_
  refine I2 h (fun h => ?_) (fun h => ?_)
  ·refine Z 4 ?_
   obtain rfl := h.symm
   exact RT func94 rfl LR ⟨rfl, rfl⟩
  ·refine Z 6 ?_
   obtain rfl := h.symm
   exact RT func94 rfl LR ⟨rfl, rfl⟩
theorem msg_path_ok {a0 : List (Int × Int)} {a1 : TyA} {v1 : Value} {r : Int} (h : msg_path a0 a1 r) (σ : Sto) (hs2 : Sl (kP (kI .i64) (kI .i64)) σ v1 a0) :
    Does prog 75 [v1, .agg (lA a1).toArray] σ [] (fun v τ gs => gs = [] ∧ .I r = v) := by
 refine CO func75 ntmps75 rfl (fun cs fs => Z 2 ?_)
 refine o_boxC rfl rfl rfl rfl rfl rfl (fun b3 => Z 6 ?_)
 refine o_lenI rfl rfl rfl z_slT30 rfl hs2 (ZZ 1 [0] ?_)
 obtain ⟨r4, hr5, h⟩ := h
 refine SC z_en94 (msg_many_ok hr5 σ) ?_
 rintro _ τ6 _ hl7 ⟨rfl, rfl⟩
 refine Z 7 ?_
 refine I2 h (fun h => ?_) (fun h => ?_)
 ·refine Z 5 ?_
  obtain rfl := h.symm
  exact RT func75 rfl hl7 ⟨rfl, rfl⟩
 ·refine Z 2 ?_
  refine cutS τ6 (fun (s8 : Unit) => msg_path_j1 s8 r) (fun s8 => [(4, .I 0)]) (fun s8 => []) (fun s8 τ8 h hl8 => (Z 4 ?_)) (fun hk8 => ?_)
  ·obtain rfl := h.symm
   exact RT func75 rfl (hl7.trans hl8) ⟨rfl, rfl⟩
  refine Z 3 ?_
  refine o_lenI rfl rfl rfl z_slT30 rfl (hs2.up hl7) (Z 2 ?_)
  obtain ⟨e9, hL9, hA9⟩ := h
  refine st_ord [] _ rfl ?_
  refine st_loop hL9 (fun (s9 : Int) ρ τ9 gs => τ6.Le τ9 ∧ ESub ρ [(4, .I 0), (15, v1), (16, .I (a0.length : Int)), (17, .I s9)] ∧ gs = []) ⟨LR, rfl, rfl⟩ ?_
  rintro s9 o9 h he9 ρ9 τ9 gs9 ⟨hl9, hρ, rfl⟩ hn9
  refine st_es hρ (Z 5 ?_)
  refine I2 h (fun h => ?_) (fun h => ?_)
  ·refine Z 5 ?_
   obtain ⟨q10, hf11, h⟩ := h
   refine o_index rfl rfl rfl z_slT30 rfl rfl (hs2.up (hl7.trans hl9)) rfl hf11 (fun b12 of13 vs hc14 hrep => ?_)
   obtain ⟨_, _, rfl, rfl, rfl⟩ := hrep
   refine o_loadIN (vs := [.I q10.1, .I q10.2]) rfl rfl rfl z_agg82 rfl rfl (celn_part 0 rfl hc14) ?_
   refine o_alloc rfl rfl rfl z_zero82 (fun b15 => ZZ 3 [0] ?_)
   refine cutS τ9 (fun (s16 : Bool) => msg_path_j3 s9 s16 o9) (fun s16 => [(4, .I 0), (15, v1), (16, .I (a0.length : Int)), (17, .I s9), (34, .bool s16)]) (fun s16 => []) (fun s16 τ16 h hl16 => ?_) (fun hk16 => ?_)
   ·refine I2 h (fun h => ?_) (fun h => ?_)
    ·refine Z 4 ?_
     obtain rfl := he9 _ h
     replace h := hA9
     obtain rfl := h.symm
     exact RT func75 rfl ((hl7.trans hl9).trans hl16) ⟨rfl, rfl⟩
    ·refine Z 6 ?_
     exact hn9 _ _ _ _ h ⟨(hl9.trans hl16), rfl, rfl⟩
   refine ZZ 7 [0, 0] ?_
   refine M2 h (fun h => ?_) (fun h => ?_)
   ·refine Z 8 ?_
    refine st_ord [] _ rfl ?_
    exact hk16 _ _ _ ⟨true, h, LR, rfl, rfl⟩
   ·refine ZZ 8 [0, 0] ?_
    refine st_ord [] _ rfl ?_
    exact hk16 _ _ _ ⟨(decide ((min q10.1 q10.2) < (-1000000))), h, LR, rfl, rfl⟩
  ·refine st_exit rfl ?_
   obtain rfl := he9 _ h
   replace h := hA9
   exact hk8 _ _ _ ⟨(), h, hl9, rfl, rfl⟩
theorem msg_cells_ok {a0 : List Int} {a1 : TyA} {v1 : Value} {r : Int} (h : msg_cells a0 a1 r) (σ : Sto) (hs2 : Sl (kI .i64) σ v1 a0) :
    Does prog 76 [v1, .agg (lA a1).toArray] σ [] (fun v τ gs => gs = [] ∧ .I r = v) := by
 refine CO func76 ntmps76 rfl (fun cs fs => Z 2 ?_)
 refine o_boxC rfl rfl rfl rfl rfl rfl (fun b3 => Z 6 ?_)
 refine o_lenI rfl rfl rfl z_slT31 rfl hs2 (ZZ 1 [0] ?_)
 obtain ⟨r4, hr5, h⟩ := h
 refine SC z_en94 (msg_many_ok hr5 σ) ?_
 rintro _ τ6 _ hl7 ⟨rfl, rfl⟩
 refine Z 7 ?_
 refine I2 h (fun h => ?_) (fun h => ?_)
 ·refine Z 5 ?_
  obtain rfl := h.symm
  exact RT func76 rfl hl7 ⟨rfl, rfl⟩
 ·refine Z 6 ?_
  refine cutS τ6 (fun (s8 : Unit) => msg_cells_j1 s8 r) (fun s8 => [(4, .I 0)]) (fun s8 => []) (fun s8 τ8 h hl8 => (Z 4 ?_)) (fun hk8 => ?_)
  ·obtain rfl := h.symm
   exact RT func76 rfl (hl7.trans hl8) ⟨rfl, rfl⟩
  refine Z 3 ?_
  refine o_lenI rfl rfl rfl z_slT31 rfl (hs2.up hl7) (Z 2 ?_)
  obtain ⟨e9, hL9, hA9⟩ := h
  refine st_ord [] _ rfl ?_
  refine st_loop hL9 (fun (s9 : Int × Int) ρ τ9 gs => τ6.Le τ9 ∧ ESub ρ [(4, .I 0), (6, .I s9.1), (16, v1), (17, .I (a0.length : Int)), (18, .I s9.2)] ∧ gs = []) ⟨LR, rfl, rfl⟩ ?_
  rintro s9 o9 h he9 ρ9 τ9 gs9 ⟨hl9, hρ, rfl⟩ hn9
  refine st_es hρ (Z 5 ?_)
  refine I2 h (fun h => ?_) (fun h => ?_)
  ·refine Z 5 ?_
   obtain ⟨q10, hf11, h⟩ := h
   refine o_index rfl rfl rfl z_slT31 rfl rfl (hs2.up (hl7.trans hl9)) rfl hf11 (fun b12 of13 vs hc14 hrep => ?_)
   obtain rfl := hrep
   refine o_loadI (v := .I q10) rfl rfl rfl z_sc3 rfl (hc14 0 _ rfl) (Z 5 ?_)
   refine cutS τ9 (fun (s15 : Bool) => msg_cells_j3 s9 q10 s15 o9) (fun s15 => [(4, .I 0), (6, .I s9.1), (16, v1), (17, .I (a0.length : Int)), (18, .I s9.2), (8, .I q10), (22, .bool s15)]) (fun s15 => []) (fun s15 τ15 h hl15 => ?_) (fun hk15 => ?_)
   ·refine I2 h (fun h => ?_) (fun h => ?_)
    ·refine Z 4 ?_
     obtain rfl := he9 _ h
     replace h := hA9
     obtain rfl := h.symm
     exact RT func76 rfl ((hl7.trans hl9).trans hl15) ⟨rfl, rfl⟩
    ·refine Z 7 ?_
     refine I2 h (fun h => ?_) (fun h => ?_)
     ·refine Z 4 ?_
      obtain rfl := he9 _ h
      replace h := hA9
      obtain rfl := h.symm
      exact RT func76 rfl ((hl7.trans hl9).trans hl15) ⟨rfl, rfl⟩
     ·refine Z 11 ?_
      exact hn9 _ _ _ _ h ⟨(hl9.trans hl15), rfl, rfl⟩
   refine Z 3 ?_
   refine M2 h (fun h => ?_) (fun h => ?_)
   ·refine Z 5 ?_
    exact hk15 _ _ _ ⟨true, h, LR, rfl, rfl⟩
   ·refine Z 5 ?_
    exact hk15 _ _ _ ⟨(decide (65535 < q10)), h, LR, rfl, rfl⟩
  ·refine st_exit rfl ?_
   obtain rfl := he9 _ h
   replace h := hA9
   exact hk8 _ _ _ ⟨(), h, hl9, rfl, rfl⟩
theorem msg_text_ok {a0 : ByteArray} {a1 : TyA} {r : Int} (h : msg_text a0 a1 r) (σ : Sto)  :
    Does prog 77 [.string a0, .agg (lA a1).toArray] σ [] (fun v τ gs => gs = [] ∧ .I r = v) := by
 refine CO func77 ntmps77 rfl (fun cs fs => Z 2 ?_)
 refine o_boxC rfl rfl rfl rfl rfl rfl (fun b1 => ZZ 8 [0] ?_)
 obtain ⟨r2, hr3, h⟩ := h
 refine SC z_en94 (msg_many_ok hr3 σ) ?_
 rintro _ τ4 _ hl5 ⟨rfl, rfl⟩
 refine Z 7 ?_
 refine I2 h (fun h => ?_) (fun h => ?_)
 ·refine Z 5 ?_
  obtain rfl := h.symm
  exact RT func77 rfl hl5 ⟨rfl, rfl⟩
 ·refine Z 2 ?_
  refine cutS τ4 (fun (s6 : Unit) => msg_text_j1 s6 r) (fun s6 => [(4, .I 0)]) (fun s6 => []) (fun s6 τ6 h hl6 => (Z 4 ?_)) (fun hk6 => ?_)
  ·obtain rfl := h.symm
   exact RT func77 rfl (hl5.trans hl6) ⟨rfl, rfl⟩
  refine Z 3 ?_
  obtain ⟨hf11, h⟩ := h
  refine o_bytes rfl rfl rfl underlying9 underlying158 underlying5 rfl hf11 (fun v7 τ8 hl9 hs10 => ?_)
  refine o_lenI rfl rfl rfl z_slT158 rfl hs10 (Z 2 ?_)
  obtain ⟨e12, hL12, hA12⟩ := h
  refine st_ord [] _ rfl ?_
  refine st_loop hL12 (fun (s12 : Int) ρ τ12 gs => τ8.Le τ12 ∧ ESub ρ [(4, .I 0), (16, v7), (17, .I ((bints a0).length : Int)), (18, .I s12)] ∧ gs = []) ⟨LR, rfl, rfl⟩ ?_
  rintro s12 o12 h he12 ρ12 τ12 gs12 ⟨hl12, hρ, rfl⟩ hn12
  refine st_es hρ (Z 5 ?_)
  refine I2 h (fun h => ?_) (fun h => ?_)
  ·refine Z 5 ?_
   obtain ⟨q13, hf14, h⟩ := h
   refine o_index rfl rfl rfl z_slT158 rfl rfl (hs10.up hl12) rfl hf14 (fun b15 of16 vs hc17 hrep => ?_)
   obtain rfl := hrep
   refine o_loadI (v := .int .u8 q13) rfl rfl rfl z_sc5 rfl (hc17 0 _ rfl) (Z 3 ?_)
   refine cutS τ12 (fun (s18 : Bool) => msg_text_j3 s12 s18 o12) (fun s18 => [(4, .I 0), (16, v7), (17, .I ((bints a0).length : Int)), (18, .I s12), (27, .bool s18)]) (fun s18 => []) (fun s18 τ18 h hl18 => ?_) (fun hk18 => ?_)
   ·refine I2 h (fun h => ?_) (fun h => ?_)
    ·refine Z 4 ?_
     obtain rfl := he12 _ h
     replace h := hA12
     obtain rfl := h.symm
     exact RT func77 rfl (((hl5.trans hl9).trans hl12).trans hl18) ⟨rfl, rfl⟩
    ·refine Z 6 ?_
     exact hn12 _ _ _ _ h ⟨(hl12.trans hl18), rfl, rfl⟩
   refine Z 3 ?_
   refine M2 h (fun h => ?_) (fun h => ?_)
   ·refine Z 4 ?_
    exact hk18 _ _ _ ⟨true, h, LR, rfl, rfl⟩
   ·refine Z 4 ?_
    exact hk18 _ _ _ ⟨(decide (126 < q13)), h, LR, rfl, rfl⟩
  ·refine st_exit rfl ?_
   obtain rfl := he12 _ h
   replace h := hA12
   exact hk6 _ _ _ ⟨(), h, (hl9.trans hl12), rfl, rfl⟩
theorem msg_wrong_ok {a0 : TyM} {a1 : TyA} {v1 v2 : Value} {r : Int} (h : msg_wrong a0 a1 r) (σ : Sto) (hs3 : Sl (kP (kI .i64) (kI .i64)) σ v1 a0.2.2.1) (hs4 : Sl (kI .i64) σ v2 a0.2.2.2.1) :
    Does prog 57 [.agg (lM a0 v1 v2).toArray, .agg (lA a1).toArray] σ [] (fun v τ gs => gs = [] ∧ .I r = v) := by
 refine CO func57 ntmps57 rfl (fun cs fs => Z 2 ?_)
 refine o_box (cs := (lM a0 v1 v2)) rfl rfl rfl rfl rfl (fun b5 => ?_)
 refine o_boxC rfl rfl rfl rfl rfl rfl (fun b6 => ZZ 14 [0] ?_)
 refine I2 h (fun h => ?_) (fun h => ?_)
 ·refine ZZ 5 [1, 0] ?_
  obtain ⟨r7, hr8, h⟩ := h
  refine SC z_en75 (msg_path_ok hr8 σ hs3) ?_
  rintro _ τ9 _ hl10 ⟨rfl, rfl⟩
  refine Z 2 ?_
  obtain rfl := h.symm
  exact RT func57 rfl hl10 ⟨rfl, rfl⟩
 ·refine Z 5 ?_
  refine I2 h (fun h => ?_) (fun h => ?_)
  ·refine ZZ 5 [1, 0] ?_
   obtain ⟨r11, hr12, h⟩ := h
   refine SC z_en76 (msg_cells_ok hr12 σ hs4) ?_
   rintro _ τ13 _ hl14 ⟨rfl, rfl⟩
   refine Z 2 ?_
   obtain rfl := h.symm
   exact RT func57 rfl hl14 ⟨rfl, rfl⟩
  ·refine Z 5 ?_
   refine I2 h (fun h => ?_) (fun h => ?_)
   ·refine ZZ 5 [1, 0] ?_
    obtain ⟨r15, hr16, h⟩ := h
    refine SC z_en77 (msg_text_ok hr16 σ) ?_
    rintro _ τ17 _ hl18 ⟨rfl, rfl⟩
    refine Z 2 ?_
    obtain rfl := h.symm
    exact RT func57 rfl hl18 ⟨rfl, rfl⟩
   ·refine Z 5 ?_
    refine I2 h (fun h => ?_) (fun h => ?_)
    ·refine ZZ 5 [1, 0] ?_
     obtain ⟨r19, hr20, h⟩ := h
     refine SC z_en77 (msg_text_ok hr20 σ) ?_
     rintro _ τ21 _ hl22 ⟨rfl, rfl⟩
     refine Z 2 ?_
     obtain rfl := h.symm
     exact RT func57 rfl hl22 ⟨rfl, rfl⟩
    ·refine ZZ 8 [0] ?_
     obtain ⟨hf23, hf24, h⟩ := h
     refine o_indexA rfl rfl rfl z_arr29 rfl rfl hf23 hf24 ?_
     refine o_loadV (j := 1) (a1.2.2.1.toNat) (f := (Value.int .i64)) (zz := 0) (l := 6) (xs := a0.2.1) [.I a0.1] [v1, v2, .string a0.t4.1, .string a0.t4.2] rfl rfl rfl z_sc3 rfl rfl (by simp only [List.length_cons, List.length_nil] <;> omega) (by omega) (Z 3 ?_)
     refine cutS σ (fun (s25 : Bool) => msg_wrong_j1 s25 r) (fun s25 => [(4, .I 0), (46, .bool s25)]) (fun s25 => []) (fun s25 τ25 h hl25 => ?_) (fun hk25 => ?_)
     ·refine I2 h (fun h => ?_) (fun h => ?_)
      ·refine Z 4 ?_
       obtain rfl := h.symm
       exact RT func57 rfl hl25 ⟨rfl, rfl⟩
      ·refine Z 5 ?_
       obtain rfl := h.symm
       exact RT func57 rfl hl25 ⟨rfl, rfl⟩
     refine ZZ 5 [0] ?_
     refine M2 h (fun h => ?_) (fun h => ?_)
     ·refine Z 6 ?_
      refine st_ord [] _ rfl ?_
      exact hk25 _ _ _ ⟨true, h, LR, rfl, rfl⟩
     ·refine ZZ 6 [0] ?_
      refine st_ord [] _ rfl ?_
      exact hk25 _ _ _ ⟨(decide (a1.t4.1 < (a0.2.1.getD a1.2.2.1.toNat 0))), h, LR, rfl, rfl⟩
theorem msg_without_ok {a0 : TyM} {a1 : TyA} {v1 v2 : Value} {r : (TyM)} (h : msg_without a0 a1 r) (σ : Sto) (hs3 : Sl (kP (kI .i64) (kI .i64)) σ v1 a0.2.2.1) (hs4 : Sl (kI .i64) σ v2 a0.2.2.2.1) :
    Does prog 58 [.agg (lM a0 v1 v2).toArray, .agg (lA a1).toArray] σ [] (fun v τ gs => ∃ (v15 v16 : Value), gs = [] ∧ .agg (lM r v15 v16).toArray = v ∧ Sl (kP (kI .i64) (kI .i64)) τ v15 r.2.2.1 ∧ Sl (kI .i64) τ v16 r.2.2.2.1) := by
 refine CO func58 ntmps58 rfl (fun cs fs => Z 2 ?_)
 refine o_box (cs := (lM a0 v1 v2)) rfl rfl rfl rfl rfl (fun b5 => ?_)
 refine o_boxC rfl rfl rfl rfl rfl rfl (fun b6 => ?_)
 refine o_alloc rfl rfl rfl z_zero33 (fun b7 => Z 2 ?_)
 refine st_cut (fun ρ τ8 gs => ∃ (s8 : K38) (v9 v11 : Value), msg_without_j1 a0 s8 r ∧ σ.Le τ8 ∧ ESub ρ [(2, .Pb b5), (4, .Pb b7)] ∧ gs = [[(b5, .cells #[.I a0.1, .I s8.1, .I s8.2.1, .I s8.2.2.1, .I s8.2.2.2.1, .I s8.t4.1, .I s8.t4.2.1, v9, v11, .string s8.t4.t4.1, .string s8.t4.t4.2] 33 (0, 0))], [(b7, .cells lY.toArray 33 (0, 0))]] ∧ Sl (kP (kI .i64) (kI .i64)) τ8 v9 s8.t4.2.2.1 ∧ Sl (kI .i64) τ8 v11 s8.t4.2.2.2.1) ?_ (fun hk8 => ?_)
 ·rintro ρ8 τ8 gs8 ⟨s8, v9, v11, h, hl8, hρ, rfl, hs10, hs12⟩
  refine st_es hρ (ZZ 3 [0] ?_)
  refine o_store (j := 1) (vs := [.I a0.1, .I s8.1, .I s8.2.1, .I s8.2.2.1, .I s8.2.2.2.1, .I s8.t4.1, .I s8.t4.2.1, v9, v11, .string s8.t4.t4.1, .string s8.t4.t4.2]) (cs' := [.I a0.1, .I s8.1, .I s8.2.1, .I s8.2.2.1, .I s8.2.2.2.1, .I s8.t4.1, .I s8.t4.2.1, v9, v11, .string s8.t4.t4.1, .string s8.t4.t4.2]) rfl rfl rfl z_size33 rfl rfl rfl (o4 (ones_cons rfl (ones_cons rfl (ones_cons rfl (ones_cons hs10.one' (ones_cons hs12.one' (ones_cons rfl (ones_cons rfl ones_nil)))))))) rfl rfl rfl ?_
  refine st_end ?_
  obtain rfl := h.symm
  exact RC [.agg #[.I a0.1, .I s8.1, .I s8.2.1, .I s8.2.2.1, .I s8.2.2.2.1, .I s8.t4.1, .I s8.t4.2.1, v9, v11, .string s8.t4.t4.1, .string s8.t4.t4.2]] func58 ⟨cN 1 z_agg33, trivial⟩ hl8 ⟨_, _, rfl, rfl, hs10, hs12⟩
 refine ZZ 11 [1] ?_
 refine I2 h (fun h => ?_) (fun h => ?_)
 ·refine ZZ 5 [2] ?_
  refine st_ord [2, 0] _ rfl ?_
  exact hk8 _ _ _ ⟨((a0.2.1.getD 0 0), (a0.2.1.getD 1 0), (a0.2.1.getD 2 0), (a0.2.1.getD 3 0), (a0.2.1.getD 4 0), (a0.2.1.getD 5 0), [], a0.2.2.2.1, a0.t4.1, a0.t4.2), _, _, h, LR, rfl, rfl, Sl.nil, hs4⟩
 ·refine Z 5 ?_
  refine I2 h (fun h => ?_) (fun h => ?_)
  ·refine ZZ 5 [2] ?_
   refine st_ord [2, 0] _ rfl ?_
   exact hk8 _ _ _ ⟨((a0.2.1.getD 0 0), (a0.2.1.getD 1 0), (a0.2.1.getD 2 0), (a0.2.1.getD 3 0), (a0.2.1.getD 4 0), (a0.2.1.getD 5 0), a0.2.2.1, [], a0.t4.1, a0.t4.2), _, _, h, LR, rfl, rfl, hs3, Sl.nil⟩
  ·refine Z 5 ?_
   refine I2 h (fun h => ?_) (fun h => ?_)
   ·refine Z 2 ?_
    refine o_store (j := 2) (vs := [.E0]) (cs' := [.I a0.1, .I (a0.2.1.getD 0 0), .I (a0.2.1.getD 1 0), .I (a0.2.1.getD 2 0), .I (a0.2.1.getD 3 0), .I (a0.2.1.getD 4 0), .I (a0.2.1.getD 5 0), v1, v2, .E0, .string a0.t4.2]) rfl rfl rfl z_size9 rfl (ev_str z_str19) rfl (ones_cons rfl ones_nil) rfl rfl rfl (Z 2 ?_)
    refine st_ord [2, 0] _ rfl ?_
    exact hk8 _ _ _ ⟨((a0.2.1.getD 0 0), (a0.2.1.getD 1 0), (a0.2.1.getD 2 0), (a0.2.1.getD 3 0), (a0.2.1.getD 4 0), (a0.2.1.getD 5 0), a0.2.2.1, a0.2.2.2.1, (bstr []), a0.t4.2), _, _, h, LR, rfl, rfl, hs3, hs4⟩
   ·refine Z 5 ?_
    refine I2 h (fun h => ?_) (fun h => ?_)
    ·refine Z 2 ?_
     refine o_store (j := 2) (vs := [.E0]) (cs' := [.I a0.1, .I (a0.2.1.getD 0 0), .I (a0.2.1.getD 1 0), .I (a0.2.1.getD 2 0), .I (a0.2.1.getD 3 0), .I (a0.2.1.getD 4 0), .I (a0.2.1.getD 5 0), v1, v2, .string a0.t4.1, .E0]) rfl rfl rfl z_size9 rfl (ev_str z_str19) rfl (ones_cons rfl ones_nil) rfl rfl rfl (Z 2 ?_)
     refine st_ord [2, 0] _ rfl ?_
     exact hk8 _ _ _ ⟨((a0.2.1.getD 0 0), (a0.2.1.getD 1 0), (a0.2.1.getD 2 0), (a0.2.1.getD 3 0), (a0.2.1.getD 4 0), (a0.2.1.getD 5 0), a0.2.2.1, a0.2.2.2.1, a0.t4.1, (bstr [])), _, _, h, LR, rfl, rfl, hs3, hs4⟩
    ·refine ZZ 4 [1] ?_
     obtain ⟨hf13, hf14, h⟩ := h
     refine o_indexA rfl rfl rfl z_arr29 rfl rfl hf13 hf14 ?_
     refine o_storeV (j := 2) (a1.2.2.1.toNat) (f := (Value.int .i64)) (zz := 0) (a := 0) (l := 6) (xs := a0.2.1) [.I a0.1] [v1, v2, .string a0.t4.1, .string a0.t4.2] rfl rfl rfl z_size3 rfl rfl rfl rfl rfl (by simp only [List.length_cons, List.length_nil] <;> omega) (by omega) (Z 2 ?_)
     refine st_ord [2, 0] _ rfl ?_
     exact hk8 _ _ _ ⟨(((putN 6 0 a0.2.1 a1.2.2.1.toNat 0).getD 0 0), ((putN 6 0 a0.2.1 a1.2.2.1.toNat 0).getD 1 0), ((putN 6 0 a0.2.1 a1.2.2.1.toNat 0).getD 2 0), ((putN 6 0 a0.2.1 a1.2.2.1.toNat 0).getD 3 0), ((putN 6 0 a0.2.1 a1.2.2.1.toNat 0).getD 4 0), ((putN 6 0 a0.2.1 a1.2.2.1.toNat 0).getD 5 0), a0.2.2.1, a0.2.2.2.1, a0.t4.1, a0.t4.2), _, _, h, LR, rfl, rfl, hs3, hs4⟩
theorem slices_Equal_msg_Point_msg_Point_ok {a0 : List (Int × Int)} {a1 : List (Int × Int)} {v1 v3 : Value} {r : Bool} (h : slices_Equal_msg_Point_msg_Point a0 a1 r) (σ : Sto) (hs2 : Sl (kP (kI .i64) (kI .i64)) σ v1 a0) (hs4 : Sl (kP (kI .i64) (kI .i64)) σ v3 a1) :
    Does prog 64 [v1, v3] σ [] (fun v τ gs => gs = [] ∧ .bool r = v) := by
 refine CO func64 ntmps64 rfl (fun cs fs => Z 8 ?_)
 refine o_lenI rfl rfl rfl z_slT30 rfl hs2 ?_
 refine o_move rfl rfl rfl rfl ?_
 refine o_lenI rfl rfl rfl z_slT30 rfl hs4 (Z 2 ?_)
 refine I2 h (fun h => ?_) (fun h => ?_)
 ·refine Z 4 ?_
  obtain rfl := h.symm
  exact RT func64 rfl LR ⟨rfl, rfl⟩
 ·refine Z 2 ?_
  refine cutS σ (fun (s5 : Unit) => slices_Equal_msg_Point_msg_Point_j1 s5 r) (fun s5 => [(4, .bool false)]) (fun s5 => []) (fun s5 τ5 h hl5 => (Z 4 ?_)) (fun hk5 => ?_)
  ·obtain rfl := h.symm
   exact RT func64 rfl hl5 ⟨rfl, rfl⟩
  refine Z 3 ?_
  refine o_lenI rfl rfl rfl z_slT30 rfl hs2 (Z 2 ?_)
  obtain ⟨e6, hL6, hA6⟩ := h
  refine st_loop hL6 (fun (s6 : Int) ρ τ6 gs => σ.Le τ6 ∧ ESub ρ [(0, v1), (1, v3), (4, .bool false), (12, .I (a0.length : Int)), (13, .I s6)] ∧ gs = []) ⟨LR, rfl, rfl⟩ ?_
  rintro s6 o6 h he6 ρ6 τ6 gs6 ⟨hl6, hρ, rfl⟩ hn6
  refine st_es hρ (Z 5 ?_)
  refine I2 h (fun h => ?_) (fun h => ?_)
  ·refine Z 9 ?_
   obtain ⟨q7, hf8, q12, hf13, h⟩ := h
   refine st_draw 9 (dl [.v (v1), .v (.I s6), .t fun τ v => ∃ (b9 of10 : Nat) (vsb9 : K4), (.pointer (some ⟨b9, of10, none⟩) : Value) = v ∧ CelN τ ⟨b9, of10, none⟩ vsb9 ∧ (kP (kI .i64) (kI .i64)).rep τ vsb9 q7, .v (.agg #[.I q7.1, .I q7.2]), .v (v3), .v (.I s6), .t fun τ v => ∃ (b14 of15 : Nat) (vsb14 : K4), (.pointer (some ⟨b14, of15, none⟩) : Value) = v ∧ CelN τ ⟨b14, of15, none⟩ vsb14 ∧ (kP (kI .i64) (kI .i64)).rep τ vsb14 q12, .v (.agg #[.I q12.1, .I q12.2]), .v (.bool (!((decide (q7.1 = q12.1)) && ((decide (q7.2 = q12.2)) && true))))]) (fun _ _ => []) z_mix rfl (dl_mono ⟨fun _ _ _ hl ⟨b9, of10, vsb9, hv, hc11, hrepb9⟩ => ⟨b9, of10, vsb9, hv, hc11.up hl, Kd.mono _ hl hrepb9⟩, ⟨fun _ _ _ hl ⟨b14, of15, vsb14, hv, hc16, hrepb14⟩ => ⟨b14, of15, vsb14, hv, hc16.up hl, Kd.mono _ hl hrepb14⟩, trivial⟩⟩) (allB_cons (allB_cons (allB_cons (allB_cons (allB_cons (allB_cons (allB_cons (allB_cons (allB_cons allB_nil (p1 dA)) (p1 dA)) ?_) ?_) (p1 dA)) (p1 dA)) ?_) ?_) ?_) ?_
   ·intro ρ' τ pq rs hl hd hq hk
    obtain ⟨_, e0, rfl⟩ := hd 0 rfl
    obtain ⟨_, e1, rfl⟩ := hd 1 rfl
    refine o_index rfl rfl rfl z_slT30 rfl e0 (hs2.up (hl6.trans hl)) e1 hf8 (fun b9 of10 vsb9 hc11 hrepb9 => ?_)
    exact st_addNil (hk _ _ LR ⟨b9, of10, _, rfl, hc11, hrepb9⟩)
   ·intro ρ' τ pq rs hl hd hq hk
    obtain ⟨_, e2, b9, of10, vsb9, rfl, hc11, hrepb9⟩ := hd 2 rfl
    have hrepb9 := hrepb9
    obtain ⟨_, _, rfl, rfl, rfl⟩ := hrepb9
    refine o_loadIN (vs := [.I q7.1, .I q7.2]) rfl rfl rfl z_agg82 e2 rfl (celn_part 0 rfl hc11) ?_
    exact st_addNil (hk _ _ LR rfl)
   ·intro ρ' τ pq rs hl hd hq hk
    obtain ⟨_, e4, rfl⟩ := hd 4 rfl
    obtain ⟨_, e5, rfl⟩ := hd 5 rfl
    refine o_index rfl rfl rfl z_slT30 rfl e4 (hs4.up (hl6.trans hl)) e5 hf13 (fun b14 of15 vsb14 hc16 hrepb14 => ?_)
    exact st_addNil (hk _ _ LR ⟨b14, of15, _, rfl, hc16, hrepb14⟩)
   ·intro ρ' τ pq rs hl hd hq hk
    obtain ⟨_, e6, b14, of15, vsb14, rfl, hc16, hrepb14⟩ := hd 6 rfl
    have hrepb14 := hrepb14
    obtain ⟨_, _, rfl, rfl, rfl⟩ := hrepb14
    refine o_loadIN (vs := [.I q12.1, .I q12.2]) rfl rfl rfl z_agg82 e6 rfl (celn_part 0 rfl hc16) ?_
    exact st_addNil (hk _ _ LR rfl)
   ·intro ρ' τ pq rs hl hd hq hk
    obtain ⟨_, e3, rfl⟩ := hd 3 rfl
    obtain ⟨_, e7, rfl⟩ := hd 7 rfl
    refine o_aggEq (b := ((decide (q7.1 = q12.1)) && ((decide (q7.2 = q12.2)) && true))) (e := (!((decide (q7.1 = q12.1)) && ((decide (q7.2 = q12.2)) && true)))) rfl rfl rfl z_eqg82 e3 e7 (fun w => by refine eq_struct underlying82 z_held82 ?_; refine eqf_cons (r := (decide (q7.1 = q12.1))) (r' := ((decide (q7.2 = q12.2)) && true)) rfl (part_one z_sc3 rfl) (part_one z_sc3 rfl) (by exact eq_int underlying3 _ _) ?_; refine eqf_cons (r := (decide (q7.2 = q12.2))) (r' := true) rfl (part_one z_sc3 rfl) (part_one z_sc3 rfl) (by exact eq_int underlying3 _ _) ?_; exact eqf_nil _ _ _ _) rfl ?_
    exact st_addNil (hk _ _ LR rfl)
   intro ρ' τ17 vals hl17 hv hq
   refine st_ord [] _ rfl ?_
   refine st_env (ρ' := [(24, .bool (!((decide (q7.1 = q12.1)) && ((decide (q7.2 = q12.2)) && true)))), (0, v1), (1, v3), (4, .bool false), (12, .I (a0.length : Int)), (13, .I s6)]) ⟨(lv1 hv 8 rfl rfl), oT hq 0, oT hq 1, oT hq 4, oT hq 12, oT hq 13, trivial⟩ ?_
   refine st_end ?_
   refine I2 h (fun h => ?_) (fun h => ?_)
   ·refine Z 4 ?_
    obtain rfl := he6 _ h
    replace h := hA6
    obtain rfl := h.symm
    exact RT func64 rfl (hl6.trans hl17) ⟨rfl, rfl⟩
   ·refine Z 6 ?_
    exact hn6 _ _ _ _ h ⟨(hl6.trans hl17), rfl, rfl⟩
  ·refine st_exit rfl ?_
   obtain rfl := he6 _ h
   replace h := hA6
   exact hk5 _ _ _ ⟨(), h, hl6, rfl, rfl⟩
theorem slices_Equal_int_int_ok {a0 : List Int} {a1 : List Int} {v1 v3 : Value} {r : Bool} (h : slices_Equal_int_int a0 a1 r) (σ : Sto) (hs2 : Sl (kI .i64) σ v1 a0) (hs4 : Sl (kI .i64) σ v3 a1) :
    Does prog 40 [v1, v3] σ [] (fun v τ gs => gs = [] ∧ .bool r = v) := by
 refine CO func40 ntmps40 rfl (fun cs fs => Z 8 ?_)
 refine o_lenI rfl rfl rfl z_slT31 rfl hs2 ?_
 refine o_move rfl rfl rfl rfl ?_
 refine o_lenI rfl rfl rfl z_slT31 rfl hs4 (Z 2 ?_)
 refine I2 h (fun h => ?_) (fun h => ?_)
 ·refine Z 4 ?_
  obtain rfl := h.symm
  exact RT func40 rfl LR ⟨rfl, rfl⟩
 ·refine Z 2 ?_
  refine cutS σ (fun (s5 : Unit) => slices_Equal_int_int_j1 s5 r) (fun s5 => [(4, .bool false)]) (fun s5 => []) (fun s5 τ5 h hl5 => (Z 4 ?_)) (fun hk5 => ?_)
  ·obtain rfl := h.symm
   exact RT func40 rfl hl5 ⟨rfl, rfl⟩
  refine Z 3 ?_
  refine o_lenI rfl rfl rfl z_slT31 rfl hs2 (Z 2 ?_)
  obtain ⟨e6, hL6, hA6⟩ := h
  refine st_loop hL6 (fun (s6 : Int) ρ τ6 gs => σ.Le τ6 ∧ ESub ρ [(0, v1), (1, v3), (4, .bool false), (12, .I (a0.length : Int)), (13, .I s6)] ∧ gs = []) ⟨LR, rfl, rfl⟩ ?_
  rintro s6 o6 h he6 ρ6 τ6 gs6 ⟨hl6, hρ, rfl⟩ hn6
  refine st_es hρ (Z 5 ?_)
  refine I2 h (fun h => ?_) (fun h => ?_)
  ·refine Z 9 ?_
   obtain ⟨q7, hf8, q12, hf13, h⟩ := h
   refine st_draw 9 (dl [.v (v1), .v (.I s6), .t fun τ v => ∃ (b9 of10 : Nat) (vsb9 : K4), (.pointer (some ⟨b9, of10, none⟩) : Value) = v ∧ CelN τ ⟨b9, of10, none⟩ vsb9 ∧ (kI .i64).rep τ vsb9 q7, .v (.I q7), .v (v3), .v (.I s6), .t fun τ v => ∃ (b14 of15 : Nat) (vsb14 : K4), (.pointer (some ⟨b14, of15, none⟩) : Value) = v ∧ CelN τ ⟨b14, of15, none⟩ vsb14 ∧ (kI .i64).rep τ vsb14 q12, .v (.I q12), .v (.bool (!(decide (q7 = q12))))]) (fun _ _ => []) z_mix rfl (dl_mono ⟨fun _ _ _ hl ⟨b9, of10, vsb9, hv, hc11, hrepb9⟩ => ⟨b9, of10, vsb9, hv, hc11.up hl, Kd.mono _ hl hrepb9⟩, ⟨fun _ _ _ hl ⟨b14, of15, vsb14, hv, hc16, hrepb14⟩ => ⟨b14, of15, vsb14, hv, hc16.up hl, Kd.mono _ hl hrepb14⟩, trivial⟩⟩) (allB_cons (allB_cons (allB_cons (allB_cons (allB_cons (allB_cons (allB_cons (allB_cons (allB_cons allB_nil (p1 dA)) (p1 dA)) ?_) ?_) (p1 dA)) (p1 dA)) ?_) ?_) (p1 dA)) ?_
   ·intro ρ' τ pq rs hl hd hq hk
    obtain ⟨_, e0, rfl⟩ := hd 0 rfl
    obtain ⟨_, e1, rfl⟩ := hd 1 rfl
    refine o_index rfl rfl rfl z_slT31 rfl e0 (hs2.up (hl6.trans hl)) e1 hf8 (fun b9 of10 vsb9 hc11 hrepb9 => ?_)
    exact st_addNil (hk _ _ LR ⟨b9, of10, _, rfl, hc11, hrepb9⟩)
   ·intro ρ' τ pq rs hl hd hq hk
    obtain ⟨_, e2, b9, of10, vsb9, rfl, hc11, hrepb9⟩ := hd 2 rfl
    have hrepb9 := hrepb9
    obtain rfl := hrepb9
    refine o_loadI (v := .I q7) rfl rfl rfl z_sc3 e2 (hc11 0 _ rfl) ?_
    exact st_addNil (hk _ _ LR rfl)
   ·intro ρ' τ pq rs hl hd hq hk
    obtain ⟨_, e4, rfl⟩ := hd 4 rfl
    obtain ⟨_, e5, rfl⟩ := hd 5 rfl
    refine o_index rfl rfl rfl z_slT31 rfl e4 (hs4.up (hl6.trans hl)) e5 hf13 (fun b14 of15 vsb14 hc16 hrepb14 => ?_)
    exact st_addNil (hk _ _ LR ⟨b14, of15, _, rfl, hc16, hrepb14⟩)
   ·intro ρ' τ pq rs hl hd hq hk
    obtain ⟨_, e6, b14, of15, vsb14, rfl, hc16, hrepb14⟩ := hd 6 rfl
    have hrepb14 := hrepb14
    obtain rfl := hrepb14
    refine o_loadI (v := .I q12) rfl rfl rfl z_sc3 e6 (hc16 0 _ rfl) ?_
    exact st_addNil (hk _ _ LR rfl)
   intro ρ' τ17 vals hl17 hv hq
   refine st_ord [] _ rfl ?_
   refine st_env (ρ' := [(24, .bool (!(decide (q7 = q12)))), (0, v1), (1, v3), (4, .bool false), (12, .I (a0.length : Int)), (13, .I s6)]) ⟨(lv1 hv 8 rfl rfl), oT hq 0, oT hq 1, oT hq 4, oT hq 12, oT hq 13, trivial⟩ ?_
   refine st_end ?_
   refine I2 h (fun h => ?_) (fun h => ?_)
   ·refine Z 4 ?_
    obtain rfl := he6 _ h
    replace h := hA6
    obtain rfl := h.symm
    exact RT func40 rfl (hl6.trans hl17) ⟨rfl, rfl⟩
   ·refine Z 6 ?_
    exact hn6 _ _ _ _ h ⟨(hl6.trans hl17), rfl, rfl⟩
  ·refine st_exit rfl ?_
   obtain rfl := he6 _ h
   replace h := hA6
   exact hk5 _ _ _ ⟨(), h, hl6, rfl, rfl⟩
theorem msg_Same_ok {a0 : TyM} {a1 : TyM} {v1 v2 : Value} {v5 v6 : Value} {r : Bool} (h : msg_Same a0 a1 r) (σ : Sto) (hs3 : Sl (kP (kI .i64) (kI .i64)) σ v1 a0.2.2.1) (hs4 : Sl (kI .i64) σ v2 a0.2.2.2.1) (hs7 : Sl (kP (kI .i64) (kI .i64)) σ v5 a1.2.2.1) (hs8 : Sl (kI .i64) σ v6 a1.2.2.2.1) :
    Does prog 59 [.agg (lM a0 v1 v2).toArray, .agg (lM a1 v5 v6).toArray] σ [] (fun v τ gs => gs = [] ∧ .bool r = v) := by
 refine CO func59 ntmps59 rfl (fun cs fs => Z 2 ?_)
 refine o_box (cs := (lM a0 v1 v2)) rfl rfl rfl rfl rfl (fun b9 => ?_)
 refine o_box (cs := (lM a1 v5 v6)) rfl rfl rfl rfl rfl (fun b10 => Z 3 ?_)
 refine cutS σ (fun (s11 : Bool) => msg_Same_j1 s11 r) (fun s11 => [(4, .bool s11)]) (fun s11 => []) (fun s11 τ11 h hl11 => ?_) (fun hk11 => ?_)
 ·obtain rfl := h.symm
  exact RT func59 rfl hl11 ⟨rfl, rfl⟩
 refine ZZ 6 [1, 0] ?_
 refine M2 h (fun h => ?_) (fun h => ?_)
 ·refine ZZ 4 [1, 0] ?_
  refine o_aggEq (b := (eqN 6 0 a0.2.1 a1.2.1)) (e := (eqN 6 0 a0.2.1 a1.2.1)) rfl rfl rfl z_eqg29 rfl rfl (fun w => by exact eq_arr (xs := a0.2.1) (ys := a1.2.1) underlying29 underlying3 z_info3 z_cell3) rfl ?_
  refine o_pick rfl rfl rfl rfl rfl ?_
  refine M2 h (fun h => ?_) (fun h => ?_)
  ·refine ZZ 4 [1, 0] ?_
   obtain ⟨r12, hr13, h⟩ := h
   refine SC z_en64 (slices_Equal_msg_Point_msg_Point_ok hr13 σ hs3 hs7) ?_
   rintro _ τ14 _ hl15 ⟨rfl, rfl⟩
   refine o_pick rfl rfl rfl rfl rfl ?_
   refine M2 h (fun h => ?_) (fun h => ?_)
   ·refine ZZ 4 [1, 0] ?_
    obtain ⟨r16, hr17, h⟩ := h
    refine SC z_en40 (slices_Equal_int_int_ok hr17 τ14 (hs4.up hl15) (hs8.up hl15)) ?_
    rintro _ τ18 _ hl19 ⟨rfl, rfl⟩
    refine o_pick rfl rfl rfl rfl rfl ?_
    refine M2 h (fun h => ?_) (fun h => ?_)
    ·refine ZZ 6 [1, 0] ?_
     refine M2 h (fun h => ?_) (fun h => ?_)
     ·refine ZZ 8 [1, 0] ?_
      refine st_ord [] _ rfl ?_
      exact hk11 _ _ _ ⟨(decide (a0.t4.2 = a1.t4.2)), h, (hl15.trans hl19), rfl, rfl⟩
     ·refine Z 8 ?_
      refine st_ord [] _ rfl ?_
      exact hk11 _ _ _ ⟨false, h, (hl15.trans hl19), rfl, rfl⟩
    ·refine Z 15 ?_
     refine st_ord [] _ rfl ?_
     exact hk11 _ _ _ ⟨false, h, (hl15.trans hl19), rfl, rfl⟩
   ·refine Z 22 ?_
    refine st_ord [] _ rfl ?_
    exact hk11 _ _ _ ⟨false, h, hl15, rfl, rfl⟩
  ·refine Z 29 ?_
   refine st_ord [] _ rfl ?_
   exact hk11 _ _ _ ⟨false, h, LR, rfl, rfl⟩
 ·refine Z 36 ?_
  refine st_ord [] _ rfl ?_
  exact hk11 _ _ _ ⟨false, h, LR, rfl, rfl⟩
theorem msg_Check_ok {a0 : TyM} {v1 v2 : Value} {r : Int} (h : msg_Check a0 r) (σ : Sto) (hs3 : Sl (kP (kI .i64) (kI .i64)) σ v1 a0.2.2.1) (hs4 : Sl (kI .i64) σ v2 a0.2.2.2.1) :
    Does prog 30 [.agg (lM a0 v1 v2).toArray] σ [] (fun v τ gs => gs = [] ∧ .I r = v) := by
 refine CO func30 ntmps30 rfl (fun cs fs => Z 2 ?_)
 refine o_box (cs := (lM a0 v1 v2)) rfl rfl rfl rfl rfl (fun b5 => Z 4 ?_)
 refine st_draw 3 (dl [.v (.agg (lM a0 v1 v2).toArray), .t fun τ v => ∃ (b6 : Nat), (.Pb b6 : Value) = v, .v (.I 9)]) (oneG 1 (.cells lY.toArray 33 (0, 0))) z_mix rfl (dl_mono ⟨fun _ _ _ hl ⟨b6, hv⟩ => ⟨b6, hv⟩, trivial⟩) (allB_cons (allB_cons (allB_cons allB_nil ?_) ?_) (p1o dA)) ?_
 ·intro ρ' τ pq rs hl hd hq hk
  refine o_loadN (j := 0) (vs := (lM a0 v1 v2)) rfl rfl rfl z_agg33 (oT hq 1) rfl rfl ?_
  exact st_addNil (hk _ _ LR rfl)
 ·intro ρ' τ pq rs hl hd hq hk
  refine o_alloc rfl rfl rfl z_zero33 (fun b6 => ?_)
  exact hk _ _ LR ⟨b6, rfl⟩
 intro ρ' τ7 vals hl7 hv hq
 obtain ⟨l1, b6, t1⟩ := hv 1 (by decide)
 replace l1 : Eng.look ρ' 4 = some (.Pb b6) := l1.trans (congrArg some (Eq.symm t1))
 refine st_gs [[(b5, .cells (lM a0 v1 v2).toArray 33 (0, 0))], [(b6, .cells lY.toArray 33 (0, 0))]] (by rw [oneG_flat (by decide) (Eq.symm t1)]; rfl) ?_
 refine st_env (ρ' := [(7, .agg (lM a0 v1 v2).toArray), (4, .Pb b6), (3, .I 9), (1, .Pb b5), (2, .I 0)]) ⟨(lv1 hv 0 rfl rfl), l1, (lv1 hv 2 rfl rfl), oT hq 1, oT hq 2, trivial⟩ ?_
 refine o_store (j := 1) (vs := (lM a0 v1 v2)) (cs' := (lM a0 v1 v2)) rfl rfl rfl z_size33 rfl rfl rfl (o4 (ones_cons rfl (ones_cons rfl (ones_cons rfl (ones_cons (hs3.up hl7).one' (ones_cons (hs4.up hl7).one' (ones_cons rfl (ones_cons rfl ones_nil)))))))) rfl rfl rfl (Z 4 ?_)
 refine st_cut (fun ρ τ8 gs => ∃ (s8 : K18) (v9 v11 : Value), msg_Check_j1 a0 s8 r ∧ τ7.Le τ8 ∧ ESub ρ [(4, .Pb b6), (3, .I s8.1), (1, .Pb b5), (2, .I 0)] ∧ gs = [[(b5, .cells (lM a0 v1 v2).toArray 33 (0, 0))], [(b6, .cells #[.I s8.2.1, .I s8.2.2.1, .I s8.2.2.2.1, .I s8.t4.1, .I s8.t4.2.1, .I s8.t4.2.2.1, .I s8.t4.2.2.2.1, v9, v11, .string s8.t4.t4.2.2.1, .string s8.t4.t4.2.2.2] 33 (0, 0))]] ∧ Sl (kP (kI .i64) (kI .i64)) τ8 v9 s8.t4.t4.1 ∧ Sl (kI .i64) τ8 v11 s8.t4.t4.2.1) ?_ (fun hk8 => ?_)
 ·rintro ρ8 τ8 gs8 ⟨s8, v9, v11, h, hl8, hρ, rfl, hs10, hs12⟩
  refine st_es hρ (Z 2 ?_)
  refine cutS τ8 (fun (s13 : Bool) => msg_Check_j2 s8 s13 r) (fun s13 => [(3, .I s8.1), (2, .I 0), (34, .bool s13)]) (fun s13 => []) (fun s13 τ13 h hl13 => ?_) (fun hk13 => ?_)
  ·refine I2 h (fun h => ?_) (fun h => ?_)
   ·refine Z 4 ?_
    obtain rfl := h.symm
    exact RT func30 rfl ((hl7.trans hl8).trans hl13) ⟨rfl, rfl⟩
   ·refine Z 6 ?_
    obtain rfl := h.symm
    exact RT func30 rfl ((hl7.trans hl8).trans hl13) ⟨rfl, rfl⟩
  refine Z 3 ?_
  refine M2 h (fun h => ?_) (fun h => ?_)
  ·refine ZZ 4 [1, 0] ?_
   obtain ⟨r14, hr15, h⟩ := h
   refine SC z_en59 (msg_Same_ok hr15 τ8 hs10 hs12 Sl.nil Sl.nil) ?_
   rintro _ τ16 _ hl17 ⟨rfl, rfl⟩
   refine Z 3 ?_
   refine st_ord [] _ rfl ?_
   exact hk13 _ _ _ ⟨(!r14), h, hl17, rfl, rfl⟩
  ·refine Z 8 ?_
   refine st_ord [] _ rfl ?_
   exact hk13 _ _ _ ⟨false, h, LR, rfl, rfl⟩
 refine ZZ 4 [0] ?_
 obtain ⟨r18, hr19, h⟩ := h
 refine SC z_en56 (field_Of_ok hr19 τ7) ?_
 rintro _ τ20 _ hl21 ⟨v22, rfl, rfl, hs23⟩
 refine o_lenI rfl rfl rfl z_slT118 rfl hs23 (Z 2 ?_)
 obtain ⟨e24, hL24, hA24⟩ := h
 refine st_loop hL24 (fun (s24 : K31) ρ τ24 gs => τ20.Le τ24 ∧ ∃ (v25 v27 : Value), ESub ρ [(4, .Pb b6), (3, .I s24.1), (1, .Pb b5), (2, .I 0), (10, v22), (11, .I (r18.length : Int)), (12, .I s24.2.1)] ∧ gs = [[(b5, .cells (lM a0 v1 v2).toArray 33 (0, 0))], [(b6, .cells #[.I s24.2.2.1, .I s24.2.2.2.1, .I s24.t4.1, .I s24.t4.2.1, .I s24.t4.2.2.1, .I s24.t4.2.2.2.1, .I s24.t4.t4.1, v25, v27, .string s24.t4.t4.2.2.2.1, .string s24.t4.t4.t4] 33 (0, 0))]] ∧ Sl (kP (kI .i64) (kI .i64)) τ24 v25 s24.t4.t4.2.1 ∧ Sl (kI .i64) τ24 v27 s24.t4.t4.2.2.1) ⟨LR, _, _, rfl, rfl, (hs3.up (hl7.trans hl21)), (hs4.up (hl7.trans hl21))⟩ ?_
 rintro s24 o24 h he24 ρ24 τ24 gs24 ⟨hl24, v25, v27, hρ, rfl, hs26, hs28⟩ hn24
 refine st_es hρ (Z 5 ?_)
 refine I2 h (fun h => ?_) (fun h => ?_)
 ·refine Z 5 ?_
  obtain ⟨q29, hf30, h⟩ := h
  refine o_index rfl rfl rfl z_slT118 rfl rfl (hs23.up hl24) rfl hf30 (fun b31 of32 vs hc33 hrep => ?_)
  obtain ⟨_, _, rfl, rfl, ⟨_, _, rfl, rfl, ⟨_, _, rfl, rfl, ⟨_, _, rfl, rfl, ⟨_, _, rfl, rfl, ⟨_, _, rfl, rfl, rfl⟩⟩⟩⟩⟩⟩ := hrep
  refine o_loadIN (vs := (lA q29)) rfl rfl rfl z_agg120 rfl rfl (celn_part 0 rfl hc33) ?_
  refine o_alloc rfl rfl rfl z_zero120 (fun b34 => ZZ 7 [0, 1, 0] ?_)
  obtain ⟨r35, hr36, h⟩ := h
  refine SC z_en57 (msg_wrong_ok hr36 τ24 (hs3.up ((hl7.trans hl21).trans hl24)) (hs4.up ((hl7.trans hl21).trans hl24))) ?_
  rintro _ τ37 _ hl38 ⟨rfl, rfl⟩
  refine Z 7 ?_
  refine I2 h (fun h => ?_) (fun h => ?_)
  ·refine st_exit rfl ?_
   obtain rfl := he24 _ h
   replace h := hA24
   refine st_ord [1, 1] _ rfl ?_
   exact hk8 _ _ _ ⟨(r35, s24.2.2.1, s24.2.2.2.1, s24.t4.1, s24.t4.2.1, s24.t4.2.2.1, s24.t4.2.2.2.1, s24.t4.t4.1, s24.t4.t4.2.1, s24.t4.t4.2.2.1, s24.t4.t4.2.2.2.1, s24.t4.t4.t4), _, _, h, ((hl21.trans hl24).trans hl38), rfl, rfl, (hs26.up hl38), (hs28.up hl38)⟩
  ·refine ZZ 4 [2, 0] ?_
   obtain ⟨r39, hr40, h⟩ := h
   refine SC z_en58 (msg_without_ok hr40 τ37 (hs26.up hl38) (hs28.up hl38)) ?_
   rintro _ τ41 _ hl42 ⟨v43, v44, rfl, rfl, hs45, hs46⟩
   refine o_store (j := 2) (vs := (lM r39 v43 v44)) (cs' := (lM r39 v43 v44)) rfl rfl rfl z_size33 rfl rfl rfl (o4 (ones_cons rfl (ones_cons rfl (ones_cons rfl (ones_cons hs45.one' (ones_cons hs46.one' (ones_cons rfl (ones_cons rfl ones_nil)))))))) rfl rfl rfl (Z 6 ?_)
   refine st_ord [1, 1] _ rfl ?_
   exact hn24 _ _ _ _ h ⟨((hl24.trans hl38).trans hl42), _, _, rfl, rfl, hs45, hs46⟩
 ·refine st_exit rfl ?_
  obtain rfl := he24 _ h
  replace h := hA24
  exact hk8 _ _ _ ⟨(s24.1, s24.2.2.1, s24.2.2.2.1, s24.t4.1, s24.t4.2.1, s24.t4.2.2.1, s24.t4.2.2.2.1, s24.t4.t4.1, s24.t4.t4.2.1, s24.t4.t4.2.2.1, s24.t4.t4.2.2.2.1, s24.t4.t4.t4), _, _, h, (hl21.trans hl24), rfl, rfl, hs26, hs28⟩
theorem field_Find_ok {a0 : Int} {a1 : ByteArray} {r : (TyA) × Bool} (h : field_Find a0 a1 r) (σ : Sto)  :
    Does prog 95 [.I a0, .string a1] σ [] (fun v τ gs => gs = [] ∧ .tuple [.agg (lA r.1).toArray, .bool r.2].toArray = v) := by
 refine CO func95 ntmps95 rfl (fun cs fs => Z 2 ?_)
 refine o_alloc rfl rfl rfl z_zero120 (fun b1 => Z 5 ?_)
 refine o_alloc rfl rfl rfl z_zero120 (fun b2 => Z 4 ?_)
 refine cutS σ (fun (s3 : TyA) => field_Find_j1 s3 r) (fun s3 => [(4, .Pb b1), (5, .bool false), (6, .Pb b2)]) (fun s3 => [[(b1, .cells #[.E0, .I 0, .I 0, .I 0, .I 0, .I 0, .I 0] 120 (0, 0))], [(b2, .cells (lA s3).toArray 120 (0, 0))]]) (fun s3 τ3 h hl3 => ?_) (fun hk3 => ?_)
 ·refine st_seq ?_
  refine st_ord [1, 0] _ rfl ?_
  refine st_d41 [[(b2, .cells (lA s3).toArray 120 (0, 0))]] [[(b1, .cells #[.E0, .I 0, .I 0, .I 0, .I 0, .I 0, .I 0] 120 (0, 0))]] 5 1 [none, none, none, none, some (0, 0)] [none, none, none, none, none] [[none, none]] [.v (.agg (lA s3).toArray), .v (.agg (lA s3).toArray), .v (.agg #[.E0, .I 0, .I 0, .I 0, .I 0, .I 0, .I 0]), .v (.bool (!((decide (s3.1 = (bstr []))) && ((decide (s3.2.1 = 0)) && ((decide (s3.2.2.1 = 0)) && ((decide (s3.2.2.2.1 = 0)) && ((decide (s3.t4.1 = 0)) && ((decide (s3.t4.2.1 = 0)) && ((decide (s3.t4.2.2 = 0)) && true))))))))), .t fun _ _ => True] [[fun τ u F => F = [[(b1, .cells #[.E0, .I 0, .I 0, .I 0, .I 0, .I 0, .I 0] 120 (0, 0))]], fun τ u F => F = [[(b1, .cells (lA s3).toArray 120 (0, 0))]]]] rfl z_mix rfl ⟨fun _ _ _ _ _ => trivial, trivial⟩ ⟨⟨fun _ _ _ _ hl h => h, ⟨fun _ _ _ _ hl h => h, trivial⟩⟩, trivial⟩ rfl rfl ?_ (allB_cons (allB_cons (allB_cons (allB_cons (allB_cons allB_nil ?_) ?_) ?_) ?_) ?_) ?_
  ·exact rfl
  ·intro ρ' τ pq rs hl hd hq hw hk
   refine o_loadN (j := 0) (vs := (lA s3)) rfl rfl rfl z_agg120 (oT hq 6) rfl rfl ?_
   exact hk _ _ LR rfl
  ·intro ρ' τ pq rs hl hd hq hw hk
   refine o_loadN (j := 0) (vs := (lA s3)) rfl rfl rfl z_agg120 (oT hq 6) rfl rfl ?_
   exact hk _ _ LR rfl
  ·intro ρ' τ pq rs hl hd hq hw hk
   refine ZZ 1 [] ?_
   exact hk _ _ LR rfl
  ·intro ρ' τ pq rs hl hd hq hw hk
   obtain ⟨_, e1, rfl⟩ := hd 1 rfl _ rfl
   obtain ⟨_, e2, rfl⟩ := hd 2 rfl _ rfl
   refine o_aggEq (b := ((decide (s3.1 = (bstr []))) && ((decide (s3.2.1 = 0)) && ((decide (s3.2.2.1 = 0)) && ((decide (s3.2.2.2.1 = 0)) && ((decide (s3.t4.1 = 0)) && ((decide (s3.t4.2.1 = 0)) && ((decide (s3.t4.2.2 = 0)) && true)))))))) (e := (!((decide (s3.1 = (bstr []))) && ((decide (s3.2.1 = 0)) && ((decide (s3.2.2.1 = 0)) && ((decide (s3.2.2.2.1 = 0)) && ((decide (s3.t4.1 = 0)) && ((decide (s3.t4.2.1 = 0)) && ((decide (s3.t4.2.2 = 0)) && true))))))))) rfl rfl rfl z_eqg120 e1 e2 (fun w => by refine eq_struct underlying120 z_held120 ?_; refine eqf_cons (r := (decide (s3.1 = (bstr [])))) (r' := ((decide (s3.2.1 = 0)) && ((decide (s3.2.2.1 = 0)) && ((decide (s3.2.2.2.1 = 0)) && ((decide (s3.t4.1 = 0)) && ((decide (s3.t4.2.1 = 0)) && ((decide (s3.t4.2.2 = 0)) && true))))))) rfl (part_one z_sc9 rfl) (part_one z_sc9 rfl) (by exact eq_str underlying9 _ _) ?_; refine eqf_cons (r := (decide (s3.2.1 = 0))) (r' := ((decide (s3.2.2.1 = 0)) && ((decide (s3.2.2.2.1 = 0)) && ((decide (s3.t4.1 = 0)) && ((decide (s3.t4.2.1 = 0)) && ((decide (s3.t4.2.2 = 0)) && true)))))) rfl (part_one z_sc3 rfl) (part_one z_sc3 rfl) (by exact eq_int underlying3 _ _) ?_; refine eqf_cons (r := (decide (s3.2.2.1 = 0))) (r' := ((decide (s3.2.2.2.1 = 0)) && ((decide (s3.t4.1 = 0)) && ((decide (s3.t4.2.1 = 0)) && ((decide (s3.t4.2.2 = 0)) && true))))) rfl (part_one z_sc3 rfl) (part_one z_sc3 rfl) (by exact eq_int underlying3 _ _) ?_; refine eqf_cons (r := (decide (s3.2.2.2.1 = 0))) (r' := ((decide (s3.t4.1 = 0)) && ((decide (s3.t4.2.1 = 0)) && ((decide (s3.t4.2.2 = 0)) && true)))) rfl (part_one z_sc3 rfl) (part_one z_sc3 rfl) (by exact eq_int underlying3 _ _) ?_; refine eqf_cons (r := (decide (s3.t4.1 = 0))) (r' := ((decide (s3.t4.2.1 = 0)) && ((decide (s3.t4.2.2 = 0)) && true))) rfl (part_one z_sc3 rfl) (part_one z_sc3 rfl) (by exact eq_int underlying3 _ _) ?_; refine eqf_cons (r := (decide (s3.t4.2.1 = 0))) (r' := ((decide (s3.t4.2.2 = 0)) && true)) rfl (part_one z_sc3 rfl) (part_one z_sc3 rfl) (by exact eq_int underlying3 _ _) ?_; refine eqf_cons (r := (decide (s3.t4.2.2 = 0))) (r' := true) rfl (part_one z_sc3 rfl) (part_one z_sc3 rfl) (by exact eq_int underlying3 _ _) ?_; exact eqf_nil _ _ _ _) rfl ?_
   exact hk _ _ LR rfl
  ·intro ρ' τ u Fv pq rs hl hI hu hd hq hw hk
   obtain ⟨_, e0, rfl⟩ := hd 0 rfl _ rfl
   have hI0 := hI
   obtain rfl := hI
   refine o_store (j := 1) (vs := (lA s3)) (cs' := (lA s3)) rfl rfl rfl z_size120 (oT hq 4) e0 rfl (o4 (ones_cons rfl (ones_cons rfl (ones_cons rfl ones_nil)))) rfl rfl rfl ?_
   exact hk _ _ [[(b1, .cells (lA s3).toArray 120 (0, 0))]] LR trivial (by exact rfl)
  intro ρ' τ4 vals u Fv hl4 hI hu hv hq
  obtain rfl := hI
  refine st_env (ρ' := [(25, .bool (!((decide (s3.1 = (bstr []))) && ((decide (s3.2.1 = 0)) && ((decide (s3.2.2.1 = 0)) && ((decide (s3.2.2.2.1 = 0)) && ((decide (s3.t4.1 = 0)) && ((decide (s3.t4.2.1 = 0)) && ((decide (s3.t4.2.2 = 0)) && true))))))))), (4, .Pb b1), (5, .bool false)]) ⟨(lv4 hv 3 rfl rfl rfl), oT hq 4, oT hq 5, trivial⟩ (Z 2 ?_)
  obtain rfl := h.symm
  exact RC [.agg (lA s3).toArray, .bool (!((decide (s3.1 = (bstr []))) && ((decide (s3.2.1 = 0)) && ((decide (s3.2.2.1 = 0)) && ((decide (s3.2.2.2.1 = 0)) && ((decide (s3.t4.1 = 0)) && ((decide (s3.t4.2.1 = 0)) && ((decide (s3.t4.2.2 = 0)) && true))))))))] func95 ⟨cN 1 z_agg120, rfl, trivial⟩ (hl3.trans hl4) ⟨rfl, rfl⟩
 refine Z 3 ?_
 obtain ⟨r5, hr6, h⟩ := h
 refine SC z_en56 (field_Of_ok hr6 σ) ?_
 rintro _ τ7 _ hl8 ⟨v9, rfl, rfl, hs10⟩
 refine o_lenI rfl rfl rfl z_slT118 rfl hs10 (Z 2 ?_)
 obtain ⟨e11, hL11, hA11⟩ := h
 refine st_ord [1, 0] _ rfl ?_
 refine st_loop hL11 (fun (s11 : Int) ρ τ11 gs => τ7.Le τ11 ∧ ESub ρ [(1, .string a1), (4, .Pb b1), (5, .bool false), (6, .Pb b2), (10, v9), (11, .I (r5.length : Int)), (12, .I s11)] ∧ gs = [[(b1, .cells #[.E0, .I 0, .I 0, .I 0, .I 0, .I 0, .I 0] 120 (0, 0))], [(b2, .cells #[.E0, .I 0, .I 0, .I 0, .I 0, .I 0, .I 0] 120 (0, 0))]]) ⟨LR, rfl, rfl⟩ ?_
 rintro s11 o11 h he11 ρ11 τ11 gs11 ⟨hl11, hρ, rfl⟩ hn11
 refine st_es hρ (Z 5 ?_)
 refine I2 h (fun h => ?_) (fun h => ?_)
 ·refine Z 5 ?_
  obtain ⟨q12, hf13, h⟩ := h
  refine o_index rfl rfl rfl z_slT118 rfl rfl (hs10.up hl11) rfl hf13 (fun b14 of15 vs hc16 hrep => ?_)
  obtain ⟨_, _, rfl, rfl, ⟨_, _, rfl, rfl, ⟨_, _, rfl, rfl, ⟨_, _, rfl, rfl, ⟨_, _, rfl, rfl, ⟨_, _, rfl, rfl, rfl⟩⟩⟩⟩⟩⟩ := hrep
  refine o_loadIN (vs := (lA q12)) rfl rfl rfl z_agg120 rfl rfl (celn_part 0 rfl hc16) ?_
  refine o_alloc rfl rfl rfl z_zero120 (fun b17 => ZZ 9 [0, 0] ?_)
  refine I2 h (fun h => ?_) (fun h => ?_)
  ·refine ZZ 6 [0, 2] ?_
   obtain rfl := he11 _ h
   replace h := hA11
   refine st_ord [1, 1] _ rfl ?_
   exact hk3 _ _ _ ⟨(q12.1, q12.2.1, q12.2.2.1, q12.2.2.2.1, q12.t4.1, q12.t4.2.1, q12.t4.2.2), h, (hl8.trans hl11), rfl, rfl⟩
  ·refine Z 6 ?_
   refine st_ord [1, 1] _ rfl ?_
   exact hn11 _ _ _ _ h ⟨hl11, rfl, rfl⟩
 ·refine st_exit rfl ?_
  obtain rfl := he11 _ h
  replace h := hA11
  exact hk3 _ _ _ ⟨((bstr []), 0, 0, 0, 0, 0, 0), h, (hl8.trans hl11), rfl, rfl⟩
theorem msg_Get_ok {a0 : TyM} {a1 : ByteArray} {v1 v2 : Value} {r : Int × Bool} (h : msg_Get a0 a1 r) (σ : Sto) (hs3 : Sl (kP (kI .i64) (kI .i64)) σ v1 a0.2.2.1) (hs4 : Sl (kI .i64) σ v2 a0.2.2.2.1) :
    Does prog 78 [.agg (lM a0 v1 v2).toArray, .string a1] σ [] (fun v τ gs => gs = [] ∧ .tuple [.I r.1, .bool r.2].toArray = v) := by
 refine CO func78 ntmps78 rfl (fun cs fs => Z 2 ?_)
 refine o_box (cs := (lM a0 v1 v2)) rfl rfl rfl rfl rfl (fun b5 => ZZ 8 [0] ?_)
 obtain ⟨r6, hr7, h⟩ := h
 refine SC z_en95 (field_Find_ok hr7 σ) ?_
 rintro _ τ8 _ hl9 ⟨rfl, rfl⟩
 refine Z 3 ?_
 refine o_alloc rfl rfl rfl z_zero120 (fun b10 => ZZ 5 [0] ?_)
 refine cutS τ8 (fun (s11 : Bool) => msg_Get_j1 a0 r6 s11 r) (fun s11 => [(2, .Pb b5), (4, .I 0), (5, .bool false), (6, .Pb b10), (21, .bool s11)]) (fun s11 => [[(b5, .cells (lM a0 v1 v2).toArray 33 (0, 0))], [(b10, .cells (lA r6.1).toArray 120 (0, 0))]]) (fun s11 τ11 h hl11 => ?_) (fun hk11 => ?_)
 ·refine I2 h (fun h => ?_) (fun h => ?_)
  ·refine Z 5 ?_
   obtain rfl := h.symm
   exact RT func78 rfl (hl9.trans hl11) ⟨rfl, rfl⟩
  ·refine ZZ 6 [1] ?_
   obtain ⟨hf12, hf13, h⟩ := h
   refine o_indexA rfl rfl rfl z_arr29 rfl rfl hf12 hf13 ?_
   refine o_loadV (j := 0) (r6.1.2.2.1.toNat) (f := (Value.int .i64)) (zz := 0) (l := 6) (xs := a0.2.1) [.I a0.1] [v1, v2, .string a0.t4.1, .string a0.t4.2] rfl rfl rfl z_sc3 rfl rfl (by simp only [List.length_cons, List.length_nil] <;> omega) (by omega) (Z 3 ?_)
   obtain rfl := h.symm
   exact RT func78 rfl (hl9.trans hl11) ⟨rfl, rfl⟩
 refine Z 3 ?_
 refine M2 h (fun h => ?_) (fun h => ?_)
 ·refine Z 5 ?_
  refine st_ord [1, 0] _ rfl ?_
  exact hk11 _ _ _ ⟨true, h, LR, rfl, rfl⟩
 ·refine ZZ 5 [0] ?_
  refine st_ord [1, 0] _ rfl ?_
  exact hk11 _ _ _ ⟨(decide (r6.1.2.2.1 < 0)), h, LR, rfl, rfl⟩
theorem fleet_value_ok {a0 : TyM} {a1 : ByteArray} {v1 v2 : Value} {r : Int} (h : fleet_value a0 a1 r) (σ : Sto) (hs3 : Sl (kP (kI .i64) (kI .i64)) σ v1 a0.2.2.1) (hs4 : Sl (kI .i64) σ v2 a0.2.2.2.1) :
    Does prog 60 [.agg (lM a0 v1 v2).toArray, .string a1] σ [] (fun v τ gs => gs = [] ∧ .I r = v) := by
 refine CO func60 ntmps60 rfl (fun cs fs => Z 2 ?_)
 refine o_box (cs := (lM a0 v1 v2)) rfl rfl rfl rfl rfl (fun b5 => ZZ 6 [0] ?_)
 obtain ⟨r6, hr7, h⟩ := h
 refine SC z_en78 (msg_Get_ok hr7 σ hs3 hs4) ?_
 rintro _ τ8 _ hl9 ⟨rfl, rfl⟩
 refine Z 11 ?_
 obtain rfl := h.symm
 exact RT func60 rfl hl9 ⟨rfl, rfl⟩
theorem slices_Clone_msg_Point_msg_Point_ok {a0 : List (Int × Int)} {v1 : Value} {r : (List (Int × Int))} (h : slices_Clone_msg_Point_msg_Point a0 r) (σ : Sto) (hs2 : Sl (kP (kI .i64) (kI .i64)) σ v1 a0) :
    Does prog 41 [v1] σ [] (fun v τ gs => ∃ (v18 : Value), gs = [] ∧ v18 = v ∧ Sl (kP (kI .i64) (kI .i64)) τ v18 r) := by
 refine CO func41 ntmps41 rfl (fun cs fs => Z 8 ?_)
 refine o_slNil rfl rfl rfl underlying30 rfl hs2 rfl (fun b3 hb4 => ?_)
 replace h := h b3 hb4
 refine st_end ?_
 refine I2 h (fun h => ?_) (fun h => ?_)
 ·refine Z 4 ?_
  obtain rfl := h.symm
  exact RT func41 rfl LR ⟨_, rfl, rfl, Sl.nil⟩
 ·refine Z 3 ?_
  refine o_lit (dk := (kP (kI .i64) (kI .i64))) (xs := ([] : List (Int × Int))) (ps := []) (cs := []) rfl rfl rfl z_slT30 z_zero82 trivial rfl rfl rfl rfl Kd.Many.nil (fun v5 g6 ho7 => ?_)
  refine o_move rfl rfl rfl rfl ?_
  obtain ⟨hf11, hf12, h⟩ := h
  refine o_append (dk := (kP (kI .i64) (kI .i64))) (xs := ([] : List (Int × Int))) (ys := a0) rfl rfl rfl rfl z_slT30 rfl ho7 rfl (Sl.src hs2) hf11 hf12 (fun v8 g9 ho10 => Z 2 ?_)
  refine st_freeze (fun τ13 hl14 hg15 => ?_)
  have hs16 := ho10.freeze hl14 hg15
  obtain rfl := h.symm
  exact RT func41 rfl hl14 ⟨_, rfl, rfl, hs16⟩
theorem slices_Clone_int_int_ok {a0 : List Int} {v1 : Value} {r : List Int} (h : slices_Clone_int_int a0 r) (σ : Sto) (hs2 : Sl (kI .i64) σ v1 a0) :
    Does prog 42 [v1] σ [] (fun v τ gs => ∃ (v18 : Value), gs = [] ∧ v18 = v ∧ Sl (kI .i64) τ v18 r) := by
 refine CO func42 ntmps42 rfl (fun cs fs => Z 8 ?_)
 refine o_slNil rfl rfl rfl underlying31 rfl hs2 rfl (fun b3 hb4 => ?_)
 replace h := h b3 hb4
 refine st_end ?_
 refine I2 h (fun h => ?_) (fun h => ?_)
 ·refine Z 4 ?_
  obtain rfl := h.symm
  exact RT func42 rfl LR ⟨_, rfl, rfl, Sl.nil⟩
 ·refine Z 3 ?_
  refine o_lit (dk := (kI .i64)) (xs := ([] : List Int)) (ps := []) (cs := []) rfl rfl rfl z_slT31 z_zero3 trivial rfl rfl rfl rfl Kd.Many.nil (fun v5 g6 ho7 => ?_)
  refine o_move rfl rfl rfl rfl ?_
  obtain ⟨hf11, hf12, h⟩ := h
  refine o_append (dk := (kI .i64)) (xs := ([] : List Int)) (ys := a0) rfl rfl rfl rfl z_slT31 rfl ho7 rfl (Sl.src hs2) hf11 hf12 (fun v8 g9 ho10 => Z 2 ?_)
  refine st_freeze (fun τ13 hl14 hg15 => ?_)
  have hs16 := ho10.freeze hl14 hg15
  obtain rfl := h.symm
  exact RT func42 rfl hl14 ⟨_, rfl, rfl, hs16⟩
end Go.Rel
