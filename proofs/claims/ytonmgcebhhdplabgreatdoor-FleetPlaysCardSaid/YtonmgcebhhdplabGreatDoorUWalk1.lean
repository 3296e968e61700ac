import Derived.Test.YtonmgcebhhdplabGreatDoorURel
import Derived.Test.YtonmgcebhhdplabGreatDoorUFacts
import Derived.Test.YtonmgcebhhdplabGreatDoorUWalk0
import Derived.Test.YtonmgcebhhdplabGreatDoorEngO
/-! The walks. -/
set_option linter.unusedVariables false
set_option linter.unusedSimpArgs false
set_option maxRecDepth 4000
set_option maxHeartbeats 4000000
namespace Go.Rel
open Go Go.Eng Go.Proofs Go.Proofs.Tryz
open Go.IntKind (i64 u8 u16 u32 u64)
theorem fleet_Fleet_apply_ok {a0 : List (Int × (Int × Int × Int × Int × Int × Bool × Bool × Int × Int × List (Int × Int) × Int × Int)) × List ((Int × Int) × List Int)} {a1 : TyM} {ba0 : Nat} {v1 : Value} {g2 : Grp} {v3 : Value} {g4 : Grp} {v7 v8 : Value} {r : (List (Int × (Int × Int × Int × Int × Int × Bool × Bool × Int × Int × List (Int × Int) × Int × Int)) × List ((Int × Int) × List Int))} (h : fleet_Fleet_apply a0 a1 r) (σ : Sto) (ho5 : Mp (Value.int .i64) (rK (kP (kI .i64) (kP (kI .i64) (kP (kI .i64) (kP (kI .i64) (kP (kI .i64) (kP kB (kP kB (kP (kI .i64) (kP (kI .i64) (kP (kSl (kP (kI .i64) (kI .i64))) (kP (kI .i64) (kI .i64))))))))))))) σ v1 a0.1 g2) (ho6 : Mp kPr (rSl (kI .i64)) σ v3 a0.2 g4) (hs9 : Sl (kP (kI .i64) (kI .i64)) σ v7 a1.2.2.1) (hs10 : Sl (kI .i64) σ v8 a1.2.2.2.1) :
    Does prog 31 [.Pb ba0, .agg (lM a1 v7 v8).toArray] σ [[(ba0, .cells [v1, v3].toArray 76 (0, 0))], g2, g4] (fun v τ gs => ∃ (v89 : Value) (g90 : Grp) (v91 : Value) (g92 : Grp), gs = [[(ba0, .cells [v89, v91].toArray 76 (0, 0))], g90, g92] ∧ .tuple [].toArray = v ∧ Mp (Value.int .i64) (rK (kP (kI .i64) (kP (kI .i64) (kP (kI .i64) (kP (kI .i64) (kP (kI .i64) (kP kB (kP kB (kP (kI .i64) (kP (kI .i64) (kP (kSl (kP (kI .i64) (kI .i64))) (kP (kI .i64) (kI .i64))))))))))))) τ v89 r.1 g90 ∧ Mp kPr (rSl (kI .i64)) τ v91 r.2 g92) := by
 refine CO func31 ntmps31 rfl (fun cs fs => Z 2 ?_)
 refine o_box (cs := (lM a1 v7 v8)) rfl rfl rfl rfl rfl (fun b11 => ZZ 4 [0] ?_)
 obtain ⟨r12, hr13, h⟩ := h
 refine st_call (foot := []) rfl rfl rfl rfl (evs_cons rfl (evs_cons (ev_str z_str0) rfl)) rfl (callV_fn z_en60 (fleet_value_ok hr13 σ hs9 hs10)) ?_
 rintro _ τ14 _ hl15 ⟨rfl, rfl⟩
 refine ZZ 9 [1] ?_
 refine o_lookR (rv := (rK (kP (kI .i64) (kP (kI .i64) (kP (kI .i64) (kP (kI .i64) (kP (kI .i64) (kP kB (kP kB (kP (kI .i64) (kP (kI .i64) (kP (kSl (kP (kI .i64) (kI .i64))) (kP (kI .i64) (kI .i64)))))))))))))) (q0 := (0, 0, 0, 0, 0, false, false, 0, 0, [], 0, 0)) (j := 2) (a := r12) rfl rfl rfl z_map73 (keyI underlying3) z_zeroV49 ⟨[.I 0, .I 0, .I 0, .I 0, .I 0, .bool false, .bool false, .I 0, .I 0, .N0, .I 0, .I 0], ⟨[.I 0], _, rfl, rfl, ⟨[.I 0], _, rfl, rfl, ⟨[.I 0], _, rfl, rfl, ⟨[.I 0], _, rfl, rfl, ⟨[.I 0], _, rfl, rfl, ⟨[.bool false], _, rfl, rfl, ⟨[.bool false], _, rfl, rfl, ⟨[.I 0], _, rfl, rfl, ⟨[.I 0], _, rfl, rfl, ⟨[.N0], _, rfl, ⟨_, rfl, Sl.nil⟩, ⟨[.I 0], _, rfl, rfl, rfl⟩⟩⟩⟩⟩⟩⟩⟩⟩⟩⟩, rfl⟩ rfl (ho5.up hl15) rfl rfl (fun v16 hv17 => ?_)
 obtain ⟨_, ⟨_, _, rfl, rfl, ⟨_, _, rfl, rfl, ⟨_, _, rfl, rfl, ⟨_, _, rfl, rfl, ⟨_, _, rfl, rfl, ⟨_, _, rfl, rfl, ⟨_, _, rfl, rfl, ⟨_, _, rfl, rfl, ⟨_, _, rfl, rfl, ⟨_, _, rfl, ⟨v18, rfl, hs19⟩, ⟨_, _, rfl, rfl, rfl⟩⟩⟩⟩⟩⟩⟩⟩⟩⟩⟩, rfl⟩ := hv17
 refine o_alloc rfl rfl rfl z_zero49 (fun b20 => ?_)
 refine o_store (j := 0) (vs := [.I (((mget a0.1 r12).getD (0, 0, 0, 0, 0, false, false, 0, 0, [], 0, 0)).1), .I (((mget a0.1 r12).getD (0, 0, 0, 0, 0, false, false, 0, 0, [], 0, 0)).2.1), .I (((mget a0.1 r12).getD (0, 0, 0, 0, 0, false, false, 0, 0, [], 0, 0)).2.2.1), .I (((mget a0.1 r12).getD (0, 0, 0, 0, 0, false, false, 0, 0, [], 0, 0)).2.2.2.1), .I (((mget a0.1 r12).getD (0, 0, 0, 0, 0, false, false, 0, 0, [], 0, 0)).t4.1), .bool (((mget a0.1 r12).getD (0, 0, 0, 0, 0, false, false, 0, 0, [], 0, 0)).t4.2.1), .bool (((mget a0.1 r12).getD (0, 0, 0, 0, 0, false, false, 0, 0, [], 0, 0)).t4.2.2.1), .I (((mget a0.1 r12).getD (0, 0, 0, 0, 0, false, false, 0, 0, [], 0, 0)).t4.2.2.2.1), .I (((mget a0.1 r12).getD (0, 0, 0, 0, 0, false, false, 0, 0, [], 0, 0)).t4.t4.1), v18, .I (((mget a0.1 r12).getD (0, 0, 0, 0, 0, false, false, 0, 0, [], 0, 0)).t4.t4.2.2.1), .I (((mget a0.1 r12).getD (0, 0, 0, 0, 0, false, false, 0, 0, [], 0, 0)).t4.t4.2.2.2)]) (cs' := [.I (((mget a0.1 r12).getD (0, 0, 0, 0, 0, false, false, 0, 0, [], 0, 0)).1), .I (((mget a0.1 r12).getD (0, 0, 0, 0, 0, false, false, 0, 0, [], 0, 0)).2.1), .I (((mget a0.1 r12).getD (0, 0, 0, 0, 0, false, false, 0, 0, [], 0, 0)).2.2.1), .I (((mget a0.1 r12).getD (0, 0, 0, 0, 0, false, false, 0, 0, [], 0, 0)).2.2.2.1), .I (((mget a0.1 r12).getD (0, 0, 0, 0, 0, false, false, 0, 0, [], 0, 0)).t4.1), .bool (((mget a0.1 r12).getD (0, 0, 0, 0, 0, false, false, 0, 0, [], 0, 0)).t4.2.1), .bool (((mget a0.1 r12).getD (0, 0, 0, 0, 0, false, false, 0, 0, [], 0, 0)).t4.2.2.1), .I (((mget a0.1 r12).getD (0, 0, 0, 0, 0, false, false, 0, 0, [], 0, 0)).t4.2.2.2.1), .I (((mget a0.1 r12).getD (0, 0, 0, 0, 0, false, false, 0, 0, [], 0, 0)).t4.t4.1), v18, .I (((mget a0.1 r12).getD (0, 0, 0, 0, 0, false, false, 0, 0, [], 0, 0)).t4.t4.2.2.1), .I (((mget a0.1 r12).getD (0, 0, 0, 0, 0, false, false, 0, 0, [], 0, 0)).t4.t4.2.2.2)]) rfl rfl rfl z_size49 rfl rfl rfl (o4 (o4 (ones_cons rfl (ones_cons hs19.one' (ones_cons rfl (ones_cons rfl ones_nil)))))) rfl rfl rfl (Z 2 ?_)
 refine st_cut (fun ρ τ21 gs => ∃ (s21 : K27) (v22 : Value) (g23 : Grp) (v25 : Value), fleet_Fleet_apply_j1 a0 r12 s21 r ∧ τ14.Le τ21 ∧ ESub ρ [(0, .Pb ba0), (4, .I r12), (5, .Pb b20)] ∧ gs = [[(ba0, .cells #[v1, v22] 76 (0, 0))], [(b20, .cells #[.I s21.2.1, .I s21.2.2.1, .I s21.2.2.2.1, .I s21.t4.1, .I s21.t4.2.1, .bool s21.t4.2.2.1, .bool s21.t4.2.2.2.1, .I s21.t4.t4.1, .I s21.t4.t4.2.1, v25, .I s21.t4.t4.2.2.2.1, .I s21.t4.t4.t4] 49 (0, 0))], g2, g23] ∧ Mp kPr (rSl (kI .i64)) τ21 v22 s21.1 g23 ∧ Sl (kP (kI .i64) (kI .i64)) τ21 v25 s21.t4.t4.2.2.1) ?_ (fun hk21 => ?_)
 ·rintro ρ21 τ21 gs21 ⟨s21, v22, g23, v25, h, hl21, hρ, rfl, ho24, hs26⟩
  refine st_es hρ ?_
  refine st_draw 6 (dl [.v (.Pb ba0), .v (.Pb ba0), .v (.Pb ba0), .v (v1), .v (.I r12), .v (.agg #[.I s21.2.1, .I s21.2.2.1, .I s21.2.2.2.1, .I s21.t4.1, .I s21.t4.2.1, .bool s21.t4.2.2.1, .bool s21.t4.2.2.2.1, .I s21.t4.t4.1, .I s21.t4.t4.2.1, v25, .I s21.t4.t4.2.2.2.1, .I s21.t4.t4.t4])]) (fun _ _ => []) z_mix rfl (dl_mono trivial) (allB_cons (allB_cons (allB_cons (allB_cons (allB_cons (allB_cons allB_nil (p1 dA)) (p1 dA)) (p1 dA)) ?_) (p1 dA)) ?_) ?_
  ·intro ρ' τ pq rs hl hd hq hk
   obtain ⟨_, e2, rfl⟩ := hd 2 rfl
   refine o_load (j := 0) (v := v1) rfl rfl rfl z_sc73 e2 rfl rfl ?_
   exact st_addNil (hk _ _ LR rfl)
  ·intro ρ' τ pq rs hl hd hq hk
   refine o_loadN (j := 1) (vs := [.I s21.2.1, .I s21.2.2.1, .I s21.2.2.2.1, .I s21.t4.1, .I s21.t4.2.1, .bool s21.t4.2.2.1, .bool s21.t4.2.2.2.1, .I s21.t4.t4.1, .I s21.t4.t4.2.1, v25, .I s21.t4.t4.2.2.2.1, .I s21.t4.t4.t4]) rfl rfl rfl z_agg49 (oT hq 5) rfl rfl ?_
   exact st_addNil (hk _ _ LR rfl)
  intro ρ' τ27 vals hl27 hv hq
  refine st_ord [0, 0, 0, 0] _ rfl ?_
  refine st_env (ρ' := [(80, v1), (81, .I r12), (82, .agg #[.I s21.2.1, .I s21.2.2.1, .I s21.2.2.2.1, .I s21.t4.1, .I s21.t4.2.1, .bool s21.t4.2.2.1, .bool s21.t4.2.2.2.1, .I s21.t4.t4.1, .I s21.t4.t4.2.1, v25, .I s21.t4.t4.2.2.2.1, .I s21.t4.t4.t4])]) ⟨(lv1 hv 3 rfl rfl), (lv1 hv 4 rfl rfl), (lv1 hv 5 rfl rfl), trivial⟩ ?_
  refine o_mapPut (j := 2) (a := r12) (q := s21.2) rfl rfl rfl z_map73 (keyI underlying3) rfl (ho5.up ((hl15.trans hl21).trans hl27)) rfl rfl rfl ⟨[.I s21.2.1, .I s21.2.2.1, .I s21.2.2.2.1, .I s21.t4.1, .I s21.t4.2.1, .bool s21.t4.2.2.1, .bool s21.t4.2.2.2.1, .I s21.t4.t4.1, .I s21.t4.t4.2.1, v25, .I s21.t4.t4.2.2.2.1, .I s21.t4.t4.t4], ⟨[.I s21.2.1], _, rfl, rfl, ⟨[.I s21.2.2.1], _, rfl, rfl, ⟨[.I s21.2.2.2.1], _, rfl, rfl, ⟨[.I s21.t4.1], _, rfl, rfl, ⟨[.I s21.t4.2.1], _, rfl, rfl, ⟨[.bool s21.t4.2.2.1], _, rfl, rfl, ⟨[.bool s21.t4.2.2.2.1], _, rfl, rfl, ⟨[.I s21.t4.t4.1], _, rfl, rfl, ⟨[.I s21.t4.t4.2.1], _, rfl, rfl, ⟨[v25], _, rfl, ⟨_, rfl, (hs26.up hl27)⟩, ⟨[.I s21.t4.t4.2.2.2.1], _, rfl, rfl, rfl⟩⟩⟩⟩⟩⟩⟩⟩⟩⟩⟩, rfl⟩ (fun g28 ho29 => ?_)
  refine st_end ?_
  refine st_ord [0, 1, 1] _ rfl ?_
  obtain rfl := Eq.symm h
  exact st_fin (gs' := [[(ba0, .cells #[v1, v22] 76 (0, 0))], g28, g23]) func31 rfl (List.Sublist.refl _) ((hl15.trans hl21).trans hl27) ⟨_, _, _, _, rfl, rfl, ho29, (ho24.up hl27)⟩
 refine ZZ 11 [1] ?_
 refine I2 h (fun h => ?_) (fun h => ?_)
 ·refine ZZ 12 [0, 0, 0, 1] ?_
  obtain ⟨r30, hr31, h⟩ := h
  refine SC z_en41 (slices_Clone_msg_Point_msg_Point_ok hr31 τ14 (hs9.up hl15)) ?_
  rintro _ τ32 _ hl33 ⟨v34, rfl, rfl, hs35⟩
  refine o_fieldAddr rfl rfl rfl z_field49_9 rfl ?_
  refine o_store (j := 0) (vs := [v34]) (cs' := [.I (((mget a0.1 r12).getD (0, 0, 0, 0, 0, false, false, 0, 0, [], 0, 0)).1), .I (((mget a0.1 r12).getD (0, 0, 0, 0, 0, false, false, 0, 0, [], 0, 0)).2.1), .I (((mget a0.1 r12).getD (0, 0, 0, 0, 0, false, false, 0, 0, [], 0, 0)).2.2.1), .I (((mget a0.1 r12).getD (0, 0, 0, 0, 0, false, false, 0, 0, [], 0, 0)).2.2.2.1), .I (((mget a0.1 r12).getD (0, 0, 0, 0, 0, false, false, 0, 0, [], 0, 0)).t4.1), .bool (((mget a0.1 r12).getD (0, 0, 0, 0, 0, false, false, 0, 0, [], 0, 0)).t4.2.1), .bool false, .I 0, .I 0, v34, .I (((mget a0.1 r12).getD (0, 0, 0, 0, 0, false, false, 0, 0, [], 0, 0)).t4.t4.2.2.1), .I (((mget a0.1 r12).getD (0, 0, 0, 0, 0, false, false, 0, 0, [], 0, 0)).t4.t4.2.2.2)]) rfl rfl rfl z_size30 rfl rfl (oneL_sl hs35) (ones_cons hs35.one' ones_nil) rfl rfl rfl (Z 2 ?_)
  refine st_ord [2, 0, 1, 1] _ rfl ?_
  exact hk21 _ _ _ ⟨(a0.2, ((mget a0.1 r12).getD (0, 0, 0, 0, 0, false, false, 0, 0, [], 0, 0)).1, ((mget a0.1 r12).getD (0, 0, 0, 0, 0, false, false, 0, 0, [], 0, 0)).2.1, ((mget a0.1 r12).getD (0, 0, 0, 0, 0, false, false, 0, 0, [], 0, 0)).2.2.1, ((mget a0.1 r12).getD (0, 0, 0, 0, 0, false, false, 0, 0, [], 0, 0)).2.2.2.1, ((mget a0.1 r12).getD (0, 0, 0, 0, 0, false, false, 0, 0, [], 0, 0)).t4.1, ((mget a0.1 r12).getD (0, 0, 0, 0, 0, false, false, 0, 0, [], 0, 0)).t4.2.1, false, 0, 0, r30, ((mget a0.1 r12).getD (0, 0, 0, 0, 0, false, false, 0, 0, [], 0, 0)).t4.t4.2.2.1, ((mget a0.1 r12).getD (0, 0, 0, 0, 0, false, false, 0, 0, [], 0, 0)).t4.t4.2.2.2), _, _, _, h, hl33, rfl, rfl, (ho6.up (hl15.trans hl33)), hs35⟩
 ·refine Z 5 ?_
  refine I2 h (fun h => ?_) (fun h => ?_)
  ·refine st_seq ?_
   obtain ⟨r36, hr37, r40, hr41, h⟩ := h
   refine st_ord [1, 1, 1, 1, 0] _ rfl ?_
   refine st_d41 [[(b11, .cells (lM a1 v7 v8).toArray 33 (0, 0))], [(ba0, .cells #[v1, v3] 76 (0, 0))], g2, g4] [[(b20, .cells #[.I (((mget a0.1 r12).getD (0, 0, 0, 0, 0, false, false, 0, 0, [], 0, 0)).1), .I (((mget a0.1 r12).getD (0, 0, 0, 0, 0, false, false, 0, 0, [], 0, 0)).2.1), .I (((mget a0.1 r12).getD (0, 0, 0, 0, 0, false, false, 0, 0, [], 0, 0)).2.2.1), .I (((mget a0.1 r12).getD (0, 0, 0, 0, 0, false, false, 0, 0, [], 0, 0)).2.2.2.1), .I (((mget a0.1 r12).getD (0, 0, 0, 0, 0, false, false, 0, 0, [], 0, 0)).t4.1), .bool (((mget a0.1 r12).getD (0, 0, 0, 0, 0, false, false, 0, 0, [], 0, 0)).t4.2.1), .bool (((mget a0.1 r12).getD (0, 0, 0, 0, 0, false, false, 0, 0, [], 0, 0)).t4.2.2.1), .I (((mget a0.1 r12).getD (0, 0, 0, 0, 0, false, false, 0, 0, [], 0, 0)).t4.2.2.2.1), .I (((mget a0.1 r12).getD (0, 0, 0, 0, 0, false, false, 0, 0, [], 0, 0)).t4.t4.1), v18, .I (((mget a0.1 r12).getD (0, 0, 0, 0, 0, false, false, 0, 0, [], 0, 0)).t4.t4.2.2.1), .I (((mget a0.1 r12).getD (0, 0, 0, 0, 0, false, false, 0, 0, [], 0, 0)).t4.t4.2.2.2)] 49 (0, 0))]] 8 2 [none, none, none, none, none, some (0, 0), none, some (0, 1)] [none, none, none, none, none, none, none, none] [[none, none, none]] [.v (.agg (lM a1 v7 v8).toArray), .v (.I r36), .v (.agg (lM a1 v7 v8).toArray), .v (.I r40), .v (.pointer (some ⟨b20, 6, none⟩)), .t fun _ _ => True, .v (.pointer (some ⟨b20, 7, none⟩)), .t fun _ _ => True] [[fun τ u F => F = [[(b20, .cells #[.I (((mget a0.1 r12).getD (0, 0, 0, 0, 0, false, false, 0, 0, [], 0, 0)).1), .I (((mget a0.1 r12).getD (0, 0, 0, 0, 0, false, false, 0, 0, [], 0, 0)).2.1), .I (((mget a0.1 r12).getD (0, 0, 0, 0, 0, false, false, 0, 0, [], 0, 0)).2.2.1), .I (((mget a0.1 r12).getD (0, 0, 0, 0, 0, false, false, 0, 0, [], 0, 0)).2.2.2.1), .I (((mget a0.1 r12).getD (0, 0, 0, 0, 0, false, false, 0, 0, [], 0, 0)).t4.1), .bool (((mget a0.1 r12).getD (0, 0, 0, 0, 0, false, false, 0, 0, [], 0, 0)).t4.2.1), .bool (((mget a0.1 r12).getD (0, 0, 0, 0, 0, false, false, 0, 0, [], 0, 0)).t4.2.2.1), .I (((mget a0.1 r12).getD (0, 0, 0, 0, 0, false, false, 0, 0, [], 0, 0)).t4.2.2.2.1), .I (((mget a0.1 r12).getD (0, 0, 0, 0, 0, false, false, 0, 0, [], 0, 0)).t4.t4.1), v18, .I (((mget a0.1 r12).getD (0, 0, 0, 0, 0, false, false, 0, 0, [], 0, 0)).t4.t4.2.2.1), .I (((mget a0.1 r12).getD (0, 0, 0, 0, 0, false, false, 0, 0, [], 0, 0)).t4.t4.2.2.2)] 49 (0, 0))]], fun τ u F => F = [[(b20, .cells #[.I (((mget a0.1 r12).getD (0, 0, 0, 0, 0, false, false, 0, 0, [], 0, 0)).1), .I (((mget a0.1 r12).getD (0, 0, 0, 0, 0, false, false, 0, 0, [], 0, 0)).2.1), .I (((mget a0.1 r12).getD (0, 0, 0, 0, 0, false, false, 0, 0, [], 0, 0)).2.2.1), .I (((mget a0.1 r12).getD (0, 0, 0, 0, 0, false, false, 0, 0, [], 0, 0)).2.2.2.1), .I (((mget a0.1 r12).getD (0, 0, 0, 0, 0, false, false, 0, 0, [], 0, 0)).t4.1), .bool (((mget a0.1 r12).getD (0, 0, 0, 0, 0, false, false, 0, 0, [], 0, 0)).t4.2.1), .bool true, .I (((mget a0.1 r12).getD (0, 0, 0, 0, 0, false, false, 0, 0, [], 0, 0)).t4.2.2.2.1), .I (((mget a0.1 r12).getD (0, 0, 0, 0, 0, false, false, 0, 0, [], 0, 0)).t4.t4.1), v18, .I (((mget a0.1 r12).getD (0, 0, 0, 0, 0, false, false, 0, 0, [], 0, 0)).t4.t4.2.2.1), .I (((mget a0.1 r12).getD (0, 0, 0, 0, 0, false, false, 0, 0, [], 0, 0)).t4.t4.2.2.2)] 49 (0, 0))]], fun τ u F => F = [[(b20, .cells #[.I (((mget a0.1 r12).getD (0, 0, 0, 0, 0, false, false, 0, 0, [], 0, 0)).1), .I (((mget a0.1 r12).getD (0, 0, 0, 0, 0, false, false, 0, 0, [], 0, 0)).2.1), .I (((mget a0.1 r12).getD (0, 0, 0, 0, 0, false, false, 0, 0, [], 0, 0)).2.2.1), .I (((mget a0.1 r12).getD (0, 0, 0, 0, 0, false, false, 0, 0, [], 0, 0)).2.2.2.1), .I (((mget a0.1 r12).getD (0, 0, 0, 0, 0, false, false, 0, 0, [], 0, 0)).t4.1), .bool (((mget a0.1 r12).getD (0, 0, 0, 0, 0, false, false, 0, 0, [], 0, 0)).t4.2.1), .bool true, .I r36, .I (((mget a0.1 r12).getD (0, 0, 0, 0, 0, false, false, 0, 0, [], 0, 0)).t4.t4.1), v18, .I (((mget a0.1 r12).getD (0, 0, 0, 0, 0, false, false, 0, 0, [], 0, 0)).t4.t4.2.2.1), .I (((mget a0.1 r12).getD (0, 0, 0, 0, 0, false, false, 0, 0, [], 0, 0)).t4.t4.2.2.2)] 49 (0, 0))]]]] rfl z_mix rfl ⟨fun _ _ _ _ _ => trivial, ⟨fun _ _ _ _ _ => trivial, trivial⟩⟩ ⟨⟨fun _ _ _ _ hl h => h, ⟨fun _ _ _ _ hl h => h, ⟨fun _ _ _ _ hl h => h, trivial⟩⟩⟩, trivial⟩ rfl rfl ?_ (allB_cons (allB_cons (allB_cons (allB_cons (allB_cons (allB_cons (allB_cons (allB_cons allB_nil ?_) ?_) ?_) ?_) (p4 dA)) ?_) (p4 dA)) ?_) ?_
   ·exact rfl
   ·intro ρ' τ pq rs hl hd hq hw hk
    refine o_loadN (j := 0) (vs := (lM a1 v7 v8)) rfl rfl rfl z_agg33 (oT hq 3) rfl rfl ?_
    exact hk _ _ LR rfl
   ·intro ρ' τ pq rs hl hd hq hw hk
    obtain ⟨_, e0, rfl⟩ := hd 0 rfl _ rfl
    refine st_call (foot := []) rfl rfl rfl rfl (evs_cons e0 (evs_cons (ev_str z_str5) rfl)) rfl (callV_fn z_en60 (fleet_value_ok hr37 τ (hs9.up (hl15.trans hl)) (hs10.up (hl15.trans hl)))) ?_
    rintro _ τ38 _ hl39 ⟨rfl, rfl⟩
    exact hk _ _ hl39 rfl
   ·intro ρ' τ pq rs hl hd hq hw hk
    refine o_loadN (j := 0) (vs := (lM a1 v7 v8)) rfl rfl rfl z_agg33 (oT hq 3) rfl rfl ?_
    exact hk _ _ LR rfl
   ·intro ρ' τ pq rs hl hd hq hw hk
    obtain ⟨_, e2, rfl⟩ := hd 2 rfl _ rfl
    refine st_call (foot := []) rfl rfl rfl rfl (evs_cons e2 (evs_cons (ev_str z_str6) rfl)) rfl (callV_fn z_en60 (fleet_value_ok hr41 τ (hs9.up (hl15.trans hl)) (hs10.up (hl15.trans hl)))) ?_
    rintro _ τ42 _ hl43 ⟨rfl, rfl⟩
    exact hk _ _ hl43 rfl
   ·intro ρ' τ u Fv pq rs hl hI hu hd hq hw hk
    obtain ⟨_, e4, rfl⟩ := hd 4 rfl _ rfl
    have hI0 := hI
    obtain rfl := hI
    refine o_store (j := 4) (vs := [.bool true]) (cs' := [.I (((mget a0.1 r12).getD (0, 0, 0, 0, 0, false, false, 0, 0, [], 0, 0)).1), .I (((mget a0.1 r12).getD (0, 0, 0, 0, 0, false, false, 0, 0, [], 0, 0)).2.1), .I (((mget a0.1 r12).getD (0, 0, 0, 0, 0, false, false, 0, 0, [], 0, 0)).2.2.1), .I (((mget a0.1 r12).getD (0, 0, 0, 0, 0, false, false, 0, 0, [], 0, 0)).2.2.2.1), .I (((mget a0.1 r12).getD (0, 0, 0, 0, 0, false, false, 0, 0, [], 0, 0)).t4.1), .bool (((mget a0.1 r12).getD (0, 0, 0, 0, 0, false, false, 0, 0, [], 0, 0)).t4.2.1), .bool true, .I (((mget a0.1 r12).getD (0, 0, 0, 0, 0, false, false, 0, 0, [], 0, 0)).t4.2.2.2.1), .I (((mget a0.1 r12).getD (0, 0, 0, 0, 0, false, false, 0, 0, [], 0, 0)).t4.t4.1), v18, .I (((mget a0.1 r12).getD (0, 0, 0, 0, 0, false, false, 0, 0, [], 0, 0)).t4.t4.2.2.1), .I (((mget a0.1 r12).getD (0, 0, 0, 0, 0, false, false, 0, 0, [], 0, 0)).t4.t4.2.2.2)]) rfl rfl rfl z_size4 e4 rfl rfl (ones_cons rfl ones_nil) rfl rfl rfl ?_
    exact hk _ _ [[(b20, .cells #[.I (((mget a0.1 r12).getD (0, 0, 0, 0, 0, false, false, 0, 0, [], 0, 0)).1), .I (((mget a0.1 r12).getD (0, 0, 0, 0, 0, false, false, 0, 0, [], 0, 0)).2.1), .I (((mget a0.1 r12).getD (0, 0, 0, 0, 0, false, false, 0, 0, [], 0, 0)).2.2.1), .I (((mget a0.1 r12).getD (0, 0, 0, 0, 0, false, false, 0, 0, [], 0, 0)).2.2.2.1), .I (((mget a0.1 r12).getD (0, 0, 0, 0, 0, false, false, 0, 0, [], 0, 0)).t4.1), .bool (((mget a0.1 r12).getD (0, 0, 0, 0, 0, false, false, 0, 0, [], 0, 0)).t4.2.1), .bool true, .I (((mget a0.1 r12).getD (0, 0, 0, 0, 0, false, false, 0, 0, [], 0, 0)).t4.2.2.2.1), .I (((mget a0.1 r12).getD (0, 0, 0, 0, 0, false, false, 0, 0, [], 0, 0)).t4.t4.1), v18, .I (((mget a0.1 r12).getD (0, 0, 0, 0, 0, false, false, 0, 0, [], 0, 0)).t4.t4.2.2.1), .I (((mget a0.1 r12).getD (0, 0, 0, 0, 0, false, false, 0, 0, [], 0, 0)).t4.t4.2.2.2)] 49 (0, 0))]] LR trivial (by exact rfl)
   ·intro ρ' τ u Fv pq rs hl hI hu hd hq hw hk
    obtain ⟨_, e1, rfl⟩ := hd 1 rfl _ rfl
    obtain ⟨_, e6, rfl⟩ := hd 6 rfl _ rfl
    have hI0 := hI
    obtain rfl := hI
    refine o_store (j := 4) (vs := [.I r36]) (cs' := [.I (((mget a0.1 r12).getD (0, 0, 0, 0, 0, false, false, 0, 0, [], 0, 0)).1), .I (((mget a0.1 r12).getD (0, 0, 0, 0, 0, false, false, 0, 0, [], 0, 0)).2.1), .I (((mget a0.1 r12).getD (0, 0, 0, 0, 0, false, false, 0, 0, [], 0, 0)).2.2.1), .I (((mget a0.1 r12).getD (0, 0, 0, 0, 0, false, false, 0, 0, [], 0, 0)).2.2.2.1), .I (((mget a0.1 r12).getD (0, 0, 0, 0, 0, false, false, 0, 0, [], 0, 0)).t4.1), .bool (((mget a0.1 r12).getD (0, 0, 0, 0, 0, false, false, 0, 0, [], 0, 0)).t4.2.1), .bool true, .I r36, .I (((mget a0.1 r12).getD (0, 0, 0, 0, 0, false, false, 0, 0, [], 0, 0)).t4.t4.1), v18, .I (((mget a0.1 r12).getD (0, 0, 0, 0, 0, false, false, 0, 0, [], 0, 0)).t4.t4.2.2.1), .I (((mget a0.1 r12).getD (0, 0, 0, 0, 0, false, false, 0, 0, [], 0, 0)).t4.t4.2.2.2)]) rfl rfl rfl z_size3 e6 e1 rfl (ones_cons rfl ones_nil) rfl rfl rfl ?_
    exact hk _ _ [[(b20, .cells #[.I (((mget a0.1 r12).getD (0, 0, 0, 0, 0, false, false, 0, 0, [], 0, 0)).1), .I (((mget a0.1 r12).getD (0, 0, 0, 0, 0, false, false, 0, 0, [], 0, 0)).2.1), .I (((mget a0.1 r12).getD (0, 0, 0, 0, 0, false, false, 0, 0, [], 0, 0)).2.2.1), .I (((mget a0.1 r12).getD (0, 0, 0, 0, 0, false, false, 0, 0, [], 0, 0)).2.2.2.1), .I (((mget a0.1 r12).getD (0, 0, 0, 0, 0, false, false, 0, 0, [], 0, 0)).t4.1), .bool (((mget a0.1 r12).getD (0, 0, 0, 0, 0, false, false, 0, 0, [], 0, 0)).t4.2.1), .bool true, .I r36, .I (((mget a0.1 r12).getD (0, 0, 0, 0, 0, false, false, 0, 0, [], 0, 0)).t4.t4.1), v18, .I (((mget a0.1 r12).getD (0, 0, 0, 0, 0, false, false, 0, 0, [], 0, 0)).t4.t4.2.2.1), .I (((mget a0.1 r12).getD (0, 0, 0, 0, 0, false, false, 0, 0, [], 0, 0)).t4.t4.2.2.2)] 49 (0, 0))]] LR trivial (by exact rfl)
   intro ρ' τ44 vals u Fv hl44 hI hu hv hq
   obtain rfl := hI
   refine st_env (ρ' := [(30, .I r40), (0, .Pb ba0), (4, .I r12), (5, .Pb b20)]) ⟨(lv4 hv 3 rfl rfl rfl), oT hq 0, oT hq 4, oT hq 5, trivial⟩ (ZZ 8 [4, 4] ?_)
   refine st_ord [1, 3, 1, 1] _ rfl ?_
   exact hk21 _ _ _ ⟨(a0.2, ((mget a0.1 r12).getD (0, 0, 0, 0, 0, false, false, 0, 0, [], 0, 0)).1, ((mget a0.1 r12).getD (0, 0, 0, 0, 0, false, false, 0, 0, [], 0, 0)).2.1, ((mget a0.1 r12).getD (0, 0, 0, 0, 0, false, false, 0, 0, [], 0, 0)).2.2.1, ((mget a0.1 r12).getD (0, 0, 0, 0, 0, false, false, 0, 0, [], 0, 0)).2.2.2.1, ((mget a0.1 r12).getD (0, 0, 0, 0, 0, false, false, 0, 0, [], 0, 0)).t4.1, ((mget a0.1 r12).getD (0, 0, 0, 0, 0, false, false, 0, 0, [], 0, 0)).t4.2.1, true, r36, r40, [], ((mget a0.1 r12).getD (0, 0, 0, 0, 0, false, false, 0, 0, [], 0, 0)).t4.t4.2.2.1, ((mget a0.1 r12).getD (0, 0, 0, 0, 0, false, false, 0, 0, [], 0, 0)).t4.t4.2.2.2), _, _, _, h, hl44, rfl, rfl, (ho6.up (hl15.trans hl44)), Sl.nil⟩
  ·refine Z 5 ?_
   refine I2 h (fun h => ?_) (fun h => ?_)
   ·obtain ⟨r45, hr46, r49, hr50, h⟩ := h
    refine st_draw 11 (dl [.v (.Pb ba0), .v (.Pb ba0), .v (.pointer (some ⟨ba0, 1, none⟩)), .v (v3), .v (.I r12), .v (.agg (lM a1 v7 v8).toArray), .v (.I r45), .v (.agg #[.I r12, .I r45]), .v (.pointer (some ⟨b11, 8, none⟩)), .v (v8), .t fun τ v => ∃ (v53 : Value), (v53 : Value) = v ∧ Sl (kI .i64) τ v53 r49]) (fun _ _ => []) z_mix rfl (dl_mono ⟨fun _ _ _ hl ⟨v53, hv, hs54⟩ => ⟨v53, hv, hs54.up hl⟩, trivial⟩) (allB_cons (allB_cons (allB_cons (allB_cons (allB_cons (allB_cons (allB_cons (allB_cons (allB_cons (allB_cons (allB_cons allB_nil (p1 dA)) (p1 dA)) (p1 dA)) ?_) (p1 dA)) ?_) ?_) ?_) (p1 dA)) ?_) ?_) ?_
    ·intro ρ' τ pq rs hl hd hq hk
     obtain ⟨_, e2, rfl⟩ := hd 2 rfl
     refine o_load (j := 2) (v := v3) rfl rfl rfl z_sc74 e2 rfl rfl ?_
     exact st_addNil (hk _ _ LR rfl)
    ·intro ρ' τ pq rs hl hd hq hk
     refine o_loadN (j := 1) (vs := (lM a1 v7 v8)) rfl rfl rfl z_agg33 (oT hq 3) rfl rfl ?_
     exact st_addNil (hk _ _ LR rfl)
    ·intro ρ' τ pq rs hl hd hq hk
     obtain ⟨_, e5, rfl⟩ := hd 5 rfl
     refine st_call (foot := []) rfl rfl rfl rfl (evs_cons e5 (evs_cons (ev_str z_str6) rfl)) rfl (callV_fn z_en60 (fleet_value_ok hr46 τ (hs9.up (hl15.trans hl)) (hs10.up (hl15.trans hl)))) ?_
     rintro _ τ47 _ hl48 ⟨rfl, rfl⟩
     exact st_addNil (hk _ _ hl48 rfl)
    ·intro ρ' τ pq rs hl hd hq hk
     obtain ⟨_, e4, rfl⟩ := hd 4 rfl
     obtain ⟨_, e6, rfl⟩ := hd 6 rfl
     refine o_build (ps := [(0, [.I r12]), (1, [.I r45])]) rfl rfl rfl z_struct89 ⟨rfl, ⟨_, e4, rfl⟩, ⟨rfl, ⟨_, e6, rfl⟩, trivial⟩⟩ rfl ?_
     exact st_addNil (hk _ _ LR rfl)
    ·intro ρ' τ pq rs hl hd hq hk
     obtain ⟨_, e8, rfl⟩ := hd 8 rfl
     refine o_load (j := 1) (v := v8) rfl rfl rfl z_sc31 e8 rfl rfl ?_
     exact st_addNil (hk _ _ LR rfl)
    ·intro ρ' τ pq rs hl hd hq hk
     obtain ⟨_, e9, rfl⟩ := hd 9 rfl
     refine st_call (foot := []) rfl rfl rfl rfl (evs_cons e9 rfl) rfl (callV_fn z_en42 (slices_Clone_int_int_ok hr50 τ (hs10.up (hl15.trans hl)))) ?_
     rintro _ τ51 _ hl52 ⟨v53, rfl, rfl, hs54⟩
     exact st_addNil (hk _ _ hl52 ⟨v53, rfl, hs54⟩)
    intro ρ' τ55 vals hl55 hv hq
    obtain ⟨l10, v53, t10, hs54⟩ := hv 10 (by decide)
    replace l10 : Eng.look ρ' 47 = some (v53) := l10.trans (congrArg some (Eq.symm t10))
    refine st_ord [0, 0, 0, 0, 0] _ rfl ?_
    refine st_env (ρ' := [(40, v3), (44, .agg #[.I r12, .I r45]), (47, v53), (0, .Pb ba0), (4, .I r12), (5, .Pb b20)]) ⟨(lv1 hv 3 rfl rfl), (lv1 hv 7 rfl rfl), l10, oT hq 0, oT hq 4, oT hq 5, trivial⟩ ?_
    refine o_mapPut (j := 4) (a := (r12, r45)) (q := r49) rfl rfl rfl z_map74 z_keyP89 rfl (ho6.up (hl15.trans hl55)) rfl rfl rfl hs54 (fun g56 ho57 => Z 2 ?_)
    refine st_ord [2, 0, 1, 1] _ rfl ?_
    exact hk21 _ _ _ ⟨((mput a0.2 (r12, r45) r49), ((mget a0.1 r12).getD (0, 0, 0, 0, 0, false, false, 0, 0, [], 0, 0)).1, ((mget a0.1 r12).getD (0, 0, 0, 0, 0, false, false, 0, 0, [], 0, 0)).2.1, ((mget a0.1 r12).getD (0, 0, 0, 0, 0, false, false, 0, 0, [], 0, 0)).2.2.1, ((mget a0.1 r12).getD (0, 0, 0, 0, 0, false, false, 0, 0, [], 0, 0)).2.2.2.1, ((mget a0.1 r12).getD (0, 0, 0, 0, 0, false, false, 0, 0, [], 0, 0)).t4.1, ((mget a0.1 r12).getD (0, 0, 0, 0, 0, false, false, 0, 0, [], 0, 0)).t4.2.1, ((mget a0.1 r12).getD (0, 0, 0, 0, 0, false, false, 0, 0, [], 0, 0)).t4.2.2.1, ((mget a0.1 r12).getD (0, 0, 0, 0, 0, false, false, 0, 0, [], 0, 0)).t4.2.2.2.1, ((mget a0.1 r12).getD (0, 0, 0, 0, 0, false, false, 0, 0, [], 0, 0)).t4.t4.1, ((mget a0.1 r12).getD (0, 0, 0, 0, 0, false, false, 0, 0, [], 0, 0)).t4.t4.2.1, ((mget a0.1 r12).getD (0, 0, 0, 0, 0, false, false, 0, 0, [], 0, 0)).t4.t4.2.2.1, ((mget a0.1 r12).getD (0, 0, 0, 0, 0, false, false, 0, 0, [], 0, 0)).t4.t4.2.2.2), _, _, _, h, hl55, rfl, rfl, ho57, (hs19.up hl55)⟩
   ·refine Z 5 ?_
    refine I2 h (fun h => ?_) (fun h => ?_)
    ·refine st_seq ?_
     obtain ⟨r58, hr59, r62, hr63, r66, hr67, h⟩ := h
     refine st_ord [1, 1, 1, 1, 0] _ rfl ?_
     refine st_d41 [[(b11, .cells (lM a1 v7 v8).toArray 33 (0, 0))], [(ba0, .cells #[v1, v3] 76 (0, 0))], g2, g4] [[(b20, .cells #[.I (((mget a0.1 r12).getD (0, 0, 0, 0, 0, false, false, 0, 0, [], 0, 0)).1), .I (((mget a0.1 r12).getD (0, 0, 0, 0, 0, false, false, 0, 0, [], 0, 0)).2.1), .I (((mget a0.1 r12).getD (0, 0, 0, 0, 0, false, false, 0, 0, [], 0, 0)).2.2.1), .I (((mget a0.1 r12).getD (0, 0, 0, 0, 0, false, false, 0, 0, [], 0, 0)).2.2.2.1), .I (((mget a0.1 r12).getD (0, 0, 0, 0, 0, false, false, 0, 0, [], 0, 0)).t4.1), .bool (((mget a0.1 r12).getD (0, 0, 0, 0, 0, false, false, 0, 0, [], 0, 0)).t4.2.1), .bool (((mget a0.1 r12).getD (0, 0, 0, 0, 0, false, false, 0, 0, [], 0, 0)).t4.2.2.1), .I (((mget a0.1 r12).getD (0, 0, 0, 0, 0, false, false, 0, 0, [], 0, 0)).t4.2.2.2.1), .I (((mget a0.1 r12).getD (0, 0, 0, 0, 0, false, false, 0, 0, [], 0, 0)).t4.t4.1), v18, .I (((mget a0.1 r12).getD (0, 0, 0, 0, 0, false, false, 0, 0, [], 0, 0)).t4.t4.2.2.1), .I (((mget a0.1 r12).getD (0, 0, 0, 0, 0, false, false, 0, 0, [], 0, 0)).t4.t4.2.2.2)] 49 (0, 0))]] 10 2 [none, none, none, none, none, none, none, some (0, 0), none, some (0, 1)] [none, none, none, none, none, none, none, none, none, none] [[none, none, none]] [.v (.agg (lM a1 v7 v8).toArray), .v (.I r58), .v (.agg (lM a1 v7 v8).toArray), .v (.I r62), .v (.agg (lM a1 v7 v8).toArray), .v (.I r66), .v (.Pb b20), .t fun _ _ => True, .v (.pointer (some ⟨b20, 1, none⟩)), .t fun _ _ => True] [[fun τ u F => F = [[(b20, .cells #[.I (((mget a0.1 r12).getD (0, 0, 0, 0, 0, false, false, 0, 0, [], 0, 0)).1), .I (((mget a0.1 r12).getD (0, 0, 0, 0, 0, false, false, 0, 0, [], 0, 0)).2.1), .I (((mget a0.1 r12).getD (0, 0, 0, 0, 0, false, false, 0, 0, [], 0, 0)).2.2.1), .I (((mget a0.1 r12).getD (0, 0, 0, 0, 0, false, false, 0, 0, [], 0, 0)).2.2.2.1), .I (((mget a0.1 r12).getD (0, 0, 0, 0, 0, false, false, 0, 0, [], 0, 0)).t4.1), .bool (((mget a0.1 r12).getD (0, 0, 0, 0, 0, false, false, 0, 0, [], 0, 0)).t4.2.1), .bool (((mget a0.1 r12).getD (0, 0, 0, 0, 0, false, false, 0, 0, [], 0, 0)).t4.2.2.1), .I (((mget a0.1 r12).getD (0, 0, 0, 0, 0, false, false, 0, 0, [], 0, 0)).t4.2.2.2.1), .I (((mget a0.1 r12).getD (0, 0, 0, 0, 0, false, false, 0, 0, [], 0, 0)).t4.t4.1), v18, .I (((mget a0.1 r12).getD (0, 0, 0, 0, 0, false, false, 0, 0, [], 0, 0)).t4.t4.2.2.1), .I (((mget a0.1 r12).getD (0, 0, 0, 0, 0, false, false, 0, 0, [], 0, 0)).t4.t4.2.2.2)] 49 (0, 0))]], fun τ u F => F = [[(b20, .cells #[.I r58, .I (((mget a0.1 r12).getD (0, 0, 0, 0, 0, false, false, 0, 0, [], 0, 0)).2.1), .I (((mget a0.1 r12).getD (0, 0, 0, 0, 0, false, false, 0, 0, [], 0, 0)).2.2.1), .I (((mget a0.1 r12).getD (0, 0, 0, 0, 0, false, false, 0, 0, [], 0, 0)).2.2.2.1), .I (((mget a0.1 r12).getD (0, 0, 0, 0, 0, false, false, 0, 0, [], 0, 0)).t4.1), .bool (((mget a0.1 r12).getD (0, 0, 0, 0, 0, false, false, 0, 0, [], 0, 0)).t4.2.1), .bool (((mget a0.1 r12).getD (0, 0, 0, 0, 0, false, false, 0, 0, [], 0, 0)).t4.2.2.1), .I (((mget a0.1 r12).getD (0, 0, 0, 0, 0, false, false, 0, 0, [], 0, 0)).t4.2.2.2.1), .I (((mget a0.1 r12).getD (0, 0, 0, 0, 0, false, false, 0, 0, [], 0, 0)).t4.t4.1), v18, .I (((mget a0.1 r12).getD (0, 0, 0, 0, 0, false, false, 0, 0, [], 0, 0)).t4.t4.2.2.1), .I (((mget a0.1 r12).getD (0, 0, 0, 0, 0, false, false, 0, 0, [], 0, 0)).t4.t4.2.2.2)] 49 (0, 0))]], fun τ u F => F = [[(b20, .cells #[.I r58, .I r62, .I (((mget a0.1 r12).getD (0, 0, 0, 0, 0, false, false, 0, 0, [], 0, 0)).2.2.1), .I (((mget a0.1 r12).getD (0, 0, 0, 0, 0, false, false, 0, 0, [], 0, 0)).2.2.2.1), .I (((mget a0.1 r12).getD (0, 0, 0, 0, 0, false, false, 0, 0, [], 0, 0)).t4.1), .bool (((mget a0.1 r12).getD (0, 0, 0, 0, 0, false, false, 0, 0, [], 0, 0)).t4.2.1), .bool (((mget a0.1 r12).getD (0, 0, 0, 0, 0, false, false, 0, 0, [], 0, 0)).t4.2.2.1), .I (((mget a0.1 r12).getD (0, 0, 0, 0, 0, false, false, 0, 0, [], 0, 0)).t4.2.2.2.1), .I (((mget a0.1 r12).getD (0, 0, 0, 0, 0, false, false, 0, 0, [], 0, 0)).t4.t4.1), v18, .I (((mget a0.1 r12).getD (0, 0, 0, 0, 0, false, false, 0, 0, [], 0, 0)).t4.t4.2.2.1), .I (((mget a0.1 r12).getD (0, 0, 0, 0, 0, false, false, 0, 0, [], 0, 0)).t4.t4.2.2.2)] 49 (0, 0))]]]] rfl z_mix rfl ⟨fun _ _ _ _ _ => trivial, ⟨fun _ _ _ _ _ => trivial, trivial⟩⟩ ⟨⟨fun _ _ _ _ hl h => h, ⟨fun _ _ _ _ hl h => h, ⟨fun _ _ _ _ hl h => h, trivial⟩⟩⟩, trivial⟩ rfl rfl ?_ (allB_cons (allB_cons (allB_cons (allB_cons (allB_cons (allB_cons (allB_cons (allB_cons (allB_cons (allB_cons allB_nil ?_) ?_) ?_) ?_) ?_) ?_) (p4 dA)) ?_) (p4 dA)) ?_) ?_
     ·exact rfl
     ·intro ρ' τ pq rs hl hd hq hw hk
      refine o_loadN (j := 0) (vs := (lM a1 v7 v8)) rfl rfl rfl z_agg33 (oT hq 3) rfl rfl ?_
      exact hk _ _ LR rfl
     ·intro ρ' τ pq rs hl hd hq hw hk
      obtain ⟨_, e0, rfl⟩ := hd 0 rfl _ rfl
      refine st_call (foot := []) rfl rfl rfl rfl (evs_cons e0 (evs_cons (ev_str z_str9) rfl)) rfl (callV_fn z_en60 (fleet_value_ok hr59 τ (hs9.up (hl15.trans hl)) (hs10.up (hl15.trans hl)))) ?_
      rintro _ τ60 _ hl61 ⟨rfl, rfl⟩
      exact hk _ _ hl61 rfl
     ·intro ρ' τ pq rs hl hd hq hw hk
      refine o_loadN (j := 0) (vs := (lM a1 v7 v8)) rfl rfl rfl z_agg33 (oT hq 3) rfl rfl ?_
      exact hk _ _ LR rfl
     ·intro ρ' τ pq rs hl hd hq hw hk
      obtain ⟨_, e2, rfl⟩ := hd 2 rfl _ rfl
      refine st_call (foot := []) rfl rfl rfl rfl (evs_cons e2 (evs_cons (ev_str z_str10) rfl)) rfl (callV_fn z_en60 (fleet_value_ok hr63 τ (hs9.up (hl15.trans hl)) (hs10.up (hl15.trans hl)))) ?_
      rintro _ τ64 _ hl65 ⟨rfl, rfl⟩
      exact hk _ _ hl65 rfl
     ·intro ρ' τ pq rs hl hd hq hw hk
      refine o_loadN (j := 0) (vs := (lM a1 v7 v8)) rfl rfl rfl z_agg33 (oT hq 3) rfl rfl ?_
      exact hk _ _ LR rfl
     ·intro ρ' τ pq rs hl hd hq hw hk
      obtain ⟨_, e4, rfl⟩ := hd 4 rfl _ rfl
      refine st_call (foot := []) rfl rfl rfl rfl (evs_cons e4 (evs_cons (ev_str z_str11) rfl)) rfl (callV_fn z_en60 (fleet_value_ok hr67 τ (hs9.up (hl15.trans hl)) (hs10.up (hl15.trans hl)))) ?_
      rintro _ τ68 _ hl69 ⟨rfl, rfl⟩
      exact hk _ _ hl69 rfl
     ·intro ρ' τ u Fv pq rs hl hI hu hd hq hw hk
      obtain ⟨_, e1, rfl⟩ := hd 1 rfl _ rfl
      obtain ⟨_, e6, rfl⟩ := hd 6 rfl _ rfl
      have hI0 := hI
      obtain rfl := hI
      refine o_store (j := 4) (vs := [.I r58]) (cs' := [.I r58, .I (((mget a0.1 r12).getD (0, 0, 0, 0, 0, false, false, 0, 0, [], 0, 0)).2.1), .I (((mget a0.1 r12).getD (0, 0, 0, 0, 0, false, false, 0, 0, [], 0, 0)).2.2.1), .I (((mget a0.1 r12).getD (0, 0, 0, 0, 0, false, false, 0, 0, [], 0, 0)).2.2.2.1), .I (((mget a0.1 r12).getD (0, 0, 0, 0, 0, false, false, 0, 0, [], 0, 0)).t4.1), .bool (((mget a0.1 r12).getD (0, 0, 0, 0, 0, false, false, 0, 0, [], 0, 0)).t4.2.1), .bool (((mget a0.1 r12).getD (0, 0, 0, 0, 0, false, false, 0, 0, [], 0, 0)).t4.2.2.1), .I (((mget a0.1 r12).getD (0, 0, 0, 0, 0, false, false, 0, 0, [], 0, 0)).t4.2.2.2.1), .I (((mget a0.1 r12).getD (0, 0, 0, 0, 0, false, false, 0, 0, [], 0, 0)).t4.t4.1), v18, .I (((mget a0.1 r12).getD (0, 0, 0, 0, 0, false, false, 0, 0, [], 0, 0)).t4.t4.2.2.1), .I (((mget a0.1 r12).getD (0, 0, 0, 0, 0, false, false, 0, 0, [], 0, 0)).t4.t4.2.2.2)]) rfl rfl rfl z_size3 e6 e1 rfl (ones_cons rfl ones_nil) rfl rfl rfl ?_
      exact hk _ _ [[(b20, .cells #[.I r58, .I (((mget a0.1 r12).getD (0, 0, 0, 0, 0, false, false, 0, 0, [], 0, 0)).2.1), .I (((mget a0.1 r12).getD (0, 0, 0, 0, 0, false, false, 0, 0, [], 0, 0)).2.2.1), .I (((mget a0.1 r12).getD (0, 0, 0, 0, 0, false, false, 0, 0, [], 0, 0)).2.2.2.1), .I (((mget a0.1 r12).getD (0, 0, 0, 0, 0, false, false, 0, 0, [], 0, 0)).t4.1), .bool (((mget a0.1 r12).getD (0, 0, 0, 0, 0, false, false, 0, 0, [], 0, 0)).t4.2.1), .bool (((mget a0.1 r12).getD (0, 0, 0, 0, 0, false, false, 0, 0, [], 0, 0)).t4.2.2.1), .I (((mget a0.1 r12).getD (0, 0, 0, 0, 0, false, false, 0, 0, [], 0, 0)).t4.2.2.2.1), .I (((mget a0.1 r12).getD (0, 0, 0, 0, 0, false, false, 0, 0, [], 0, 0)).t4.t4.1), v18, .I (((mget a0.1 r12).getD (0, 0, 0, 0, 0, false, false, 0, 0, [], 0, 0)).t4.t4.2.2.1), .I (((mget a0.1 r12).getD (0, 0, 0, 0, 0, false, false, 0, 0, [], 0, 0)).t4.t4.2.2.2)] 49 (0, 0))]] LR trivial (by exact rfl)
     ·intro ρ' τ u Fv pq rs hl hI hu hd hq hw hk
      obtain ⟨_, e3, rfl⟩ := hd 3 rfl _ rfl
      obtain ⟨_, e8, rfl⟩ := hd 8 rfl _ rfl
      have hI0 := hI
      obtain rfl := hI
      refine o_store (j := 4) (vs := [.I r62]) (cs' := [.I r58, .I r62, .I (((mget a0.1 r12).getD (0, 0, 0, 0, 0, false, false, 0, 0, [], 0, 0)).2.2.1), .I (((mget a0.1 r12).getD (0, 0, 0, 0, 0, false, false, 0, 0, [], 0, 0)).2.2.2.1), .I (((mget a0.1 r12).getD (0, 0, 0, 0, 0, false, false, 0, 0, [], 0, 0)).t4.1), .bool (((mget a0.1 r12).getD (0, 0, 0, 0, 0, false, false, 0, 0, [], 0, 0)).t4.2.1), .bool (((mget a0.1 r12).getD (0, 0, 0, 0, 0, false, false, 0, 0, [], 0, 0)).t4.2.2.1), .I (((mget a0.1 r12).getD (0, 0, 0, 0, 0, false, false, 0, 0, [], 0, 0)).t4.2.2.2.1), .I (((mget a0.1 r12).getD (0, 0, 0, 0, 0, false, false, 0, 0, [], 0, 0)).t4.t4.1), v18, .I (((mget a0.1 r12).getD (0, 0, 0, 0, 0, false, false, 0, 0, [], 0, 0)).t4.t4.2.2.1), .I (((mget a0.1 r12).getD (0, 0, 0, 0, 0, false, false, 0, 0, [], 0, 0)).t4.t4.2.2.2)]) rfl rfl rfl z_size3 e8 e3 rfl (ones_cons rfl ones_nil) rfl rfl rfl ?_
      exact hk _ _ [[(b20, .cells #[.I r58, .I r62, .I (((mget a0.1 r12).getD (0, 0, 0, 0, 0, false, false, 0, 0, [], 0, 0)).2.2.1), .I (((mget a0.1 r12).getD (0, 0, 0, 0, 0, false, false, 0, 0, [], 0, 0)).2.2.2.1), .I (((mget a0.1 r12).getD (0, 0, 0, 0, 0, false, false, 0, 0, [], 0, 0)).t4.1), .bool (((mget a0.1 r12).getD (0, 0, 0, 0, 0, false, false, 0, 0, [], 0, 0)).t4.2.1), .bool (((mget a0.1 r12).getD (0, 0, 0, 0, 0, false, false, 0, 0, [], 0, 0)).t4.2.2.1), .I (((mget a0.1 r12).getD (0, 0, 0, 0, 0, false, false, 0, 0, [], 0, 0)).t4.2.2.2.1), .I (((mget a0.1 r12).getD (0, 0, 0, 0, 0, false, false, 0, 0, [], 0, 0)).t4.t4.1), v18, .I (((mget a0.1 r12).getD (0, 0, 0, 0, 0, false, false, 0, 0, [], 0, 0)).t4.t4.2.2.1), .I (((mget a0.1 r12).getD (0, 0, 0, 0, 0, false, false, 0, 0, [], 0, 0)).t4.t4.2.2.2)] 49 (0, 0))]] LR trivial (by exact rfl)
     intro ρ' τ70 vals u Fv hl70 hI hu hv hq
     obtain rfl := hI
     refine st_env (ρ' := [(55, .I r66), (0, .Pb ba0), (3, .Pb b11), (4, .I r12), (5, .Pb b20)]) ⟨(lv4 hv 5 rfl rfl rfl), oT hq 0, oT hq 3, oT hq 4, oT hq 5, trivial⟩ (ZZ 3 [4] ?_)
     obtain ⟨r71, hr72, r75, hr76, h⟩ := h
     refine st_d41 [[(b11, .cells (lM a1 v7 v8).toArray 33 (0, 0))], [(ba0, .cells #[v1, v3] 76 (0, 0))], g2, g4] [[(b20, .cells #[.I r58, .I r62, .I r66, .I (((mget a0.1 r12).getD (0, 0, 0, 0, 0, false, false, 0, 0, [], 0, 0)).2.2.2.1), .I (((mget a0.1 r12).getD (0, 0, 0, 0, 0, false, false, 0, 0, [], 0, 0)).t4.1), .bool (((mget a0.1 r12).getD (0, 0, 0, 0, 0, false, false, 0, 0, [], 0, 0)).t4.2.1), .bool (((mget a0.1 r12).getD (0, 0, 0, 0, 0, false, false, 0, 0, [], 0, 0)).t4.2.2.1), .I (((mget a0.1 r12).getD (0, 0, 0, 0, 0, false, false, 0, 0, [], 0, 0)).t4.2.2.2.1), .I (((mget a0.1 r12).getD (0, 0, 0, 0, 0, false, false, 0, 0, [], 0, 0)).t4.t4.1), v18, .I (((mget a0.1 r12).getD (0, 0, 0, 0, 0, false, false, 0, 0, [], 0, 0)).t4.t4.2.2.1), .I (((mget a0.1 r12).getD (0, 0, 0, 0, 0, false, false, 0, 0, [], 0, 0)).t4.t4.2.2.2)] 49 (0, 0))]] 6 1 [none, none, none, none, none, some (0, 0)] [none, none, none, none, none, none] [[none, none]] [.v (.agg (lM a1 v7 v8).toArray), .v (.I r71), .v (.agg (lM a1 v7 v8).toArray), .v (.I r75), .v (.pointer (some ⟨b20, 3, none⟩)), .t fun _ _ => True] [[fun τ u F => F = [[(b20, .cells #[.I r58, .I r62, .I r66, .I (((mget a0.1 r12).getD (0, 0, 0, 0, 0, false, false, 0, 0, [], 0, 0)).2.2.2.1), .I (((mget a0.1 r12).getD (0, 0, 0, 0, 0, false, false, 0, 0, [], 0, 0)).t4.1), .bool (((mget a0.1 r12).getD (0, 0, 0, 0, 0, false, false, 0, 0, [], 0, 0)).t4.2.1), .bool (((mget a0.1 r12).getD (0, 0, 0, 0, 0, false, false, 0, 0, [], 0, 0)).t4.2.2.1), .I (((mget a0.1 r12).getD (0, 0, 0, 0, 0, false, false, 0, 0, [], 0, 0)).t4.2.2.2.1), .I (((mget a0.1 r12).getD (0, 0, 0, 0, 0, false, false, 0, 0, [], 0, 0)).t4.t4.1), v18, .I (((mget a0.1 r12).getD (0, 0, 0, 0, 0, false, false, 0, 0, [], 0, 0)).t4.t4.2.2.1), .I (((mget a0.1 r12).getD (0, 0, 0, 0, 0, false, false, 0, 0, [], 0, 0)).t4.t4.2.2.2)] 49 (0, 0))]], fun τ u F => F = [[(b20, .cells #[.I r58, .I r62, .I r66, .I r71, .I (((mget a0.1 r12).getD (0, 0, 0, 0, 0, false, false, 0, 0, [], 0, 0)).t4.1), .bool (((mget a0.1 r12).getD (0, 0, 0, 0, 0, false, false, 0, 0, [], 0, 0)).t4.2.1), .bool (((mget a0.1 r12).getD (0, 0, 0, 0, 0, false, false, 0, 0, [], 0, 0)).t4.2.2.1), .I (((mget a0.1 r12).getD (0, 0, 0, 0, 0, false, false, 0, 0, [], 0, 0)).t4.2.2.2.1), .I (((mget a0.1 r12).getD (0, 0, 0, 0, 0, false, false, 0, 0, [], 0, 0)).t4.t4.1), v18, .I (((mget a0.1 r12).getD (0, 0, 0, 0, 0, false, false, 0, 0, [], 0, 0)).t4.t4.2.2.1), .I (((mget a0.1 r12).getD (0, 0, 0, 0, 0, false, false, 0, 0, [], 0, 0)).t4.t4.2.2.2)] 49 (0, 0))]]]] rfl z_mix rfl ⟨fun _ _ _ _ _ => trivial, trivial⟩ ⟨⟨fun _ _ _ _ hl h => h, ⟨fun _ _ _ _ hl h => h, trivial⟩⟩, trivial⟩ rfl rfl ?_ (allB_cons (allB_cons (allB_cons (allB_cons (allB_cons (allB_cons allB_nil ?_) ?_) ?_) ?_) (p4 dA)) ?_) ?_
     ·exact rfl
     ·intro ρ' τ pq rs hl hd hq hw hk
      refine o_loadN (j := 0) (vs := (lM a1 v7 v8)) rfl rfl rfl z_agg33 (oT hq 3) rfl rfl ?_
      exact hk _ _ LR rfl
     ·intro ρ' τ pq rs hl hd hq hw hk
      obtain ⟨_, e0, rfl⟩ := hd 0 rfl _ rfl
      refine st_call (foot := []) rfl rfl rfl rfl (evs_cons e0 (evs_cons (ev_str z_str12) rfl)) rfl (callV_fn z_en60 (fleet_value_ok hr72 τ (hs9.up ((hl15.trans hl70).trans hl)) (hs10.up ((hl15.trans hl70).trans hl)))) ?_
      rintro _ τ73 _ hl74 ⟨rfl, rfl⟩
      exact hk _ _ hl74 rfl
     ·intro ρ' τ pq rs hl hd hq hw hk
      refine o_loadN (j := 0) (vs := (lM a1 v7 v8)) rfl rfl rfl z_agg33 (oT hq 3) rfl rfl ?_
      exact hk _ _ LR rfl
     ·intro ρ' τ pq rs hl hd hq hw hk
      obtain ⟨_, e2, rfl⟩ := hd 2 rfl _ rfl
      refine st_call (foot := []) rfl rfl rfl rfl (evs_cons e2 (evs_cons (ev_str z_str13) rfl)) rfl (callV_fn z_en60 (fleet_value_ok hr76 τ (hs9.up ((hl15.trans hl70).trans hl)) (hs10.up ((hl15.trans hl70).trans hl)))) ?_
      rintro _ τ77 _ hl78 ⟨rfl, rfl⟩
      exact hk _ _ hl78 rfl
     ·intro ρ' τ u Fv pq rs hl hI hu hd hq hw hk
      obtain ⟨_, e1, rfl⟩ := hd 1 rfl _ rfl
      obtain ⟨_, e4, rfl⟩ := hd 4 rfl _ rfl
      have hI0 := hI
      obtain rfl := hI
      refine o_store (j := 4) (vs := [.I r71]) (cs' := [.I r58, .I r62, .I r66, .I r71, .I (((mget a0.1 r12).getD (0, 0, 0, 0, 0, false, false, 0, 0, [], 0, 0)).t4.1), .bool (((mget a0.1 r12).getD (0, 0, 0, 0, 0, false, false, 0, 0, [], 0, 0)).t4.2.1), .bool (((mget a0.1 r12).getD (0, 0, 0, 0, 0, false, false, 0, 0, [], 0, 0)).t4.2.2.1), .I (((mget a0.1 r12).getD (0, 0, 0, 0, 0, false, false, 0, 0, [], 0, 0)).t4.2.2.2.1), .I (((mget a0.1 r12).getD (0, 0, 0, 0, 0, false, false, 0, 0, [], 0, 0)).t4.t4.1), v18, .I (((mget a0.1 r12).getD (0, 0, 0, 0, 0, false, false, 0, 0, [], 0, 0)).t4.t4.2.2.1), .I (((mget a0.1 r12).getD (0, 0, 0, 0, 0, false, false, 0, 0, [], 0, 0)).t4.t4.2.2.2)]) rfl rfl rfl z_size3 e4 e1 rfl (ones_cons rfl ones_nil) rfl rfl rfl ?_
      exact hk _ _ [[(b20, .cells #[.I r58, .I r62, .I r66, .I r71, .I (((mget a0.1 r12).getD (0, 0, 0, 0, 0, false, false, 0, 0, [], 0, 0)).t4.1), .bool (((mget a0.1 r12).getD (0, 0, 0, 0, 0, false, false, 0, 0, [], 0, 0)).t4.2.1), .bool (((mget a0.1 r12).getD (0, 0, 0, 0, 0, false, false, 0, 0, [], 0, 0)).t4.2.2.1), .I (((mget a0.1 r12).getD (0, 0, 0, 0, 0, false, false, 0, 0, [], 0, 0)).t4.2.2.2.1), .I (((mget a0.1 r12).getD (0, 0, 0, 0, 0, false, false, 0, 0, [], 0, 0)).t4.t4.1), v18, .I (((mget a0.1 r12).getD (0, 0, 0, 0, 0, false, false, 0, 0, [], 0, 0)).t4.t4.2.2.1), .I (((mget a0.1 r12).getD (0, 0, 0, 0, 0, false, false, 0, 0, [], 0, 0)).t4.t4.2.2.2)] 49 (0, 0))]] LR trivial (by exact rfl)
     intro ρ' τ79 vals u Fv hl79 hI hu hv hq
     obtain rfl := hI
     refine st_env (ρ' := [(62, .I r75), (0, .Pb ba0), (4, .I r12), (5, .Pb b20)]) ⟨(lv4 hv 3 rfl rfl rfl), oT hq 0, oT hq 4, oT hq 5, trivial⟩ (ZZ 6 [4, 4] ?_)
     refine st_ord [1, 3, 1, 1] _ rfl ?_
     exact hk21 _ _ _ ⟨(a0.2, r58, r62, r66, r71, r75, true, ((mget a0.1 r12).getD (0, 0, 0, 0, 0, false, false, 0, 0, [], 0, 0)).t4.2.2.1, ((mget a0.1 r12).getD (0, 0, 0, 0, 0, false, false, 0, 0, [], 0, 0)).t4.2.2.2.1, ((mget a0.1 r12).getD (0, 0, 0, 0, 0, false, false, 0, 0, [], 0, 0)).t4.t4.1, ((mget a0.1 r12).getD (0, 0, 0, 0, 0, false, false, 0, 0, [], 0, 0)).t4.t4.2.1, ((mget a0.1 r12).getD (0, 0, 0, 0, 0, false, false, 0, 0, [], 0, 0)).t4.t4.2.2.1, ((mget a0.1 r12).getD (0, 0, 0, 0, 0, false, false, 0, 0, [], 0, 0)).t4.t4.2.2.2), _, _, _, h, (hl70.trans hl79), rfl, rfl, (ho6.up ((hl15.trans hl70).trans hl79)), (hs19.up (hl70.trans hl79))⟩
    ·refine Z 5 ?_
     refine I2 h (fun h => ?_) (fun h => ?_)
     ·refine st_seq ?_
      obtain ⟨r80, hr81, h⟩ := h
      refine st_draw 5 (dl [.v (.pointer (some ⟨b20, 10, none⟩)), .v (.I (((mget a0.1 r12).getD (0, 0, 0, 0, 0, false, false, 0, 0, [], 0, 0)).t4.t4.2.2.1)), .v (.agg (lM a1 v7 v8).toArray), .v (.I r80), .v (.I (i64.wrap ((((mget a0.1 r12).getD (0, 0, 0, 0, 0, false, false, 0, 0, [], 0, 0)).t4.t4.2.2.1) + r80)))]) (fun _ _ => []) z_mix rfl (dl_mono trivial) (allB_cons (allB_cons (allB_cons (allB_cons (allB_cons allB_nil (p1 dA)) ?_) ?_) ?_) (p1 dA)) ?_
      ·intro ρ' τ pq rs hl hd hq hk
       obtain ⟨_, e0, rfl⟩ := hd 0 rfl
       refine o_load (j := 0) (v := .I (((mget a0.1 r12).getD (0, 0, 0, 0, 0, false, false, 0, 0, [], 0, 0)).t4.t4.2.2.1)) rfl rfl rfl z_sc3 e0 rfl rfl ?_
       exact st_addNil (hk _ _ LR rfl)
      ·intro ρ' τ pq rs hl hd hq hk
       refine o_loadN (j := 1) (vs := (lM a1 v7 v8)) rfl rfl rfl z_agg33 (oT hq 3) rfl rfl ?_
       exact st_addNil (hk _ _ LR rfl)
      ·intro ρ' τ pq rs hl hd hq hk
       obtain ⟨_, e2, rfl⟩ := hd 2 rfl
       refine st_call (foot := []) rfl rfl rfl rfl (evs_cons e2 (evs_cons (ev_str z_str17) rfl)) rfl (callV_fn z_en60 (fleet_value_ok hr81 τ (hs9.up (hl15.trans hl)) (hs10.up (hl15.trans hl)))) ?_
       rintro _ τ82 _ hl83 ⟨rfl, rfl⟩
       exact st_addNil (hk _ _ hl83 rfl)
      intro ρ' τ84 vals hl84 hv hq
      refine st_ord [0, 0, 0, 0, 0] _ rfl ?_
      refine st_env (ρ' := [(72, .I (i64.wrap ((((mget a0.1 r12).getD (0, 0, 0, 0, 0, false, false, 0, 0, [], 0, 0)).t4.t4.2.2.1) + r80))), (0, .Pb ba0), (3, .Pb b11), (4, .I r12), (5, .Pb b20)]) ⟨(lv1 hv 4 rfl rfl), oT hq 0, oT hq 3, oT hq 4, oT hq 5, trivial⟩ (ZZ 5 [0, 1] ?_)
      obtain ⟨r85, hr86, h⟩ := h
      refine st_call (foot := []) rfl rfl rfl rfl (evs_cons rfl (evs_cons (ev_str z_str14) rfl)) rfl (callV_fn z_en60 (fleet_value_ok hr86 τ84 (hs9.up (hl15.trans hl84)) (hs10.up (hl15.trans hl84)))) ?_
      rintro _ τ87 _ hl88 ⟨rfl, rfl⟩
      refine ZZ 4 [0] ?_
      refine st_ord [2, 0, 1, 1] _ rfl ?_
      exact hk21 _ _ _ ⟨(a0.2, ((mget a0.1 r12).getD (0, 0, 0, 0, 0, false, false, 0, 0, [], 0, 0)).1, ((mget a0.1 r12).getD (0, 0, 0, 0, 0, false, false, 0, 0, [], 0, 0)).2.1, ((mget a0.1 r12).getD (0, 0, 0, 0, 0, false, false, 0, 0, [], 0, 0)).2.2.1, ((mget a0.1 r12).getD (0, 0, 0, 0, 0, false, false, 0, 0, [], 0, 0)).2.2.2.1, ((mget a0.1 r12).getD (0, 0, 0, 0, 0, false, false, 0, 0, [], 0, 0)).t4.1, ((mget a0.1 r12).getD (0, 0, 0, 0, 0, false, false, 0, 0, [], 0, 0)).t4.2.1, ((mget a0.1 r12).getD (0, 0, 0, 0, 0, false, false, 0, 0, [], 0, 0)).t4.2.2.1, ((mget a0.1 r12).getD (0, 0, 0, 0, 0, false, false, 0, 0, [], 0, 0)).t4.2.2.2.1, ((mget a0.1 r12).getD (0, 0, 0, 0, 0, false, false, 0, 0, [], 0, 0)).t4.t4.1, ((mget a0.1 r12).getD (0, 0, 0, 0, 0, false, false, 0, 0, [], 0, 0)).t4.t4.2.1, (i64.wrap ((((mget a0.1 r12).getD (0, 0, 0, 0, 0, false, false, 0, 0, [], 0, 0)).t4.t4.2.2.1) + r80)), r85), _, _, _, h, (hl84.trans hl88), rfl, rfl, (ho6.up ((hl15.trans hl84).trans hl88)), (hs19.up (hl84.trans hl88))⟩
     ·refine Z 2 ?_
      refine st_ord [2, 0, 1, 1] _ rfl ?_
      exact hk21 _ _ _ ⟨(a0.2, ((mget a0.1 r12).getD (0, 0, 0, 0, 0, false, false, 0, 0, [], 0, 0)).1, ((mget a0.1 r12).getD (0, 0, 0, 0, 0, false, false, 0, 0, [], 0, 0)).2.1, ((mget a0.1 r12).getD (0, 0, 0, 0, 0, false, false, 0, 0, [], 0, 0)).2.2.1, ((mget a0.1 r12).getD (0, 0, 0, 0, 0, false, false, 0, 0, [], 0, 0)).2.2.2.1, ((mget a0.1 r12).getD (0, 0, 0, 0, 0, false, false, 0, 0, [], 0, 0)).t4.1, ((mget a0.1 r12).getD (0, 0, 0, 0, 0, false, false, 0, 0, [], 0, 0)).t4.2.1, ((mget a0.1 r12).getD (0, 0, 0, 0, 0, false, false, 0, 0, [], 0, 0)).t4.2.2.1, ((mget a0.1 r12).getD (0, 0, 0, 0, 0, false, false, 0, 0, [], 0, 0)).t4.2.2.2.1, ((mget a0.1 r12).getD (0, 0, 0, 0, 0, false, false, 0, 0, [], 0, 0)).t4.t4.1, ((mget a0.1 r12).getD (0, 0, 0, 0, 0, false, false, 0, 0, [], 0, 0)).t4.t4.2.1, ((mget a0.1 r12).getD (0, 0, 0, 0, 0, false, false, 0, 0, [], 0, 0)).t4.t4.2.2.1, ((mget a0.1 r12).getD (0, 0, 0, 0, 0, false, false, 0, 0, [], 0, 0)).t4.t4.2.2.2), _, _, _, h, LR, rfl, rfl, (ho6.up hl15), hs19⟩
theorem fleet_Fleet_Apply_ok {a0 : List (Int × (Int × Int × Int × Int × Int × Bool × Bool × Int × Int × List (Int × Int) × Int × Int)) × List ((Int × Int) × List Int)} {a1 : List (TyM)} {ba0 : Nat} {v1 : Value} {g2 : Grp} {v3 : Value} {g4 : Grp} {v7 : Value} {r : Int × (List (Int × (Int × Int × Int × Int × Int × Bool × Bool × Int × Int × List (Int × Int) × Int × Int)) × List ((Int × Int) × List Int))} (h : fleet_Fleet_Apply a0 a1 r) (σ : Sto) (ho5 : Mp (Value.int .i64) (rK (kP (kI .i64) (kP (kI .i64) (kP (kI .i64) (kP (kI .i64) (kP (kI .i64) (kP kB (kP kB (kP (kI .i64) (kP (kI .i64) (kP (kSl (kP (kI .i64) (kI .i64))) (kP (kI .i64) (kI .i64))))))))))))) σ v1 a0.1 g2) (ho6 : Mp kPr (rSl (kI .i64)) σ v3 a0.2 g4) (hs8 : Sl (kP (kI .i64) (kP (kA .i64 6) (kP (kSl (kP (kI .i64) (kI .i64))) (kP (kSl (kI .i64)) (kP kS kS))))) σ v7 a1) :
    Does prog 9 [.Pb ba0, v7] σ [[(ba0, .cells [v1, v3].toArray 76 (0, 0))], g2, g4] (fun v τ gs => ∃ (v55 : Value) (g56 : Grp) (v57 : Value) (g58 : Grp), gs = [[(ba0, .cells [v55, v57].toArray 76 (0, 0))], g56, g58] ∧ .I r.1 = v ∧ Mp (Value.int .i64) (rK (kP (kI .i64) (kP (kI .i64) (kP (kI .i64) (kP (kI .i64) (kP (kI .i64) (kP kB (kP kB (kP (kI .i64) (kP (kI .i64) (kP (kSl (kP (kI .i64) (kI .i64))) (kP (kI .i64) (kI .i64))))))))))))) τ v55 r.2.1 g56 ∧ Mp kPr (rSl (kI .i64)) τ v57 r.2.2 g58) := by
 refine CO func9 ntmps9 rfl (fun cs fs => Z 20 ?_)
 refine st_cut (fun ρ τ9 gs => ∃ (s9 : K7) (v10 : Value) (g11 : Grp) (v13 : Value) (g14 : Grp), fleet_Fleet_Apply_j1 s9 r ∧ σ.Le τ9 ∧ ESub ρ [(4, .I 0), (5, .I s9.1)] ∧ gs = [[(ba0, .cells #[v10, v13] 76 (0, 0))], g11, g14] ∧ Mp (Value.int .i64) (rK (kP (kI .i64) (kP (kI .i64) (kP (kI .i64) (kP (kI .i64) (kP (kI .i64) (kP kB (kP kB (kP (kI .i64) (kP (kI .i64) (kP (kSl (kP (kI .i64) (kI .i64))) (kP (kI .i64) (kI .i64))))))))))))) τ9 v10 s9.2.1 g11 ∧ Mp kPr (rSl (kI .i64)) τ9 v13 s9.2.2 g14) ?_ (fun hk9 => ?_)
 ·rintro ρ9 τ9 gs9 ⟨s9, v10, g11, v13, g14, h, hl9, hρ, rfl, ho12, ho15⟩
  refine st_es hρ (Z 5 ?_)
  obtain rfl := Eq.symm h
  exact st_ret (gs' := [[(ba0, .cells #[v10, v13] 76 (0, 0))], g11, g14]) func9 rfl (List.Sublist.refl _) hl9 ⟨_, _, _, _, rfl, rfl, ho12, ho15⟩
 refine Z 3 ?_
 refine o_lenI rfl rfl rfl z_slT84 rfl hs8 (Z 2 ?_)
 obtain ⟨e16, hL16, hA16⟩ := h
 refine st_loop hL16 (fun (s16 : K9) ρ τ16 gs => σ.Le τ16 ∧ ∃ (v17 : Value) (g18 : Grp) (v20 : Value) (g21 : Grp), ESub ρ [(0, .Pb ba0), (4, .I 0), (5, .I s16.1), (10, v7), (11, .I (a1.length : Int)), (12, .I s16.2.1)] ∧ gs = [[(ba0, .cells #[v17, v20] 76 (0, 0))], g18, g21] ∧ Mp (Value.int .i64) (rK (kP (kI .i64) (kP (kI .i64) (kP (kI .i64) (kP (kI .i64) (kP (kI .i64) (kP kB (kP kB (kP (kI .i64) (kP (kI .i64) (kP (kSl (kP (kI .i64) (kI .i64))) (kP (kI .i64) (kI .i64))))))))))))) τ16 v17 s16.2.2.1 g18 ∧ Mp kPr (rSl (kI .i64)) τ16 v20 s16.2.2.2 g21) ⟨LR, _, _, _, _, rfl, rfl, ho5, ho6⟩ ?_
 rintro s16 o16 h he16 ρ16 τ16 gs16 ⟨hl16, v17, g18, v20, g21, hρ, rfl, ho19, ho22⟩ hn16
 refine st_es hρ (Z 5 ?_)
 refine I2 h (fun h => ?_) (fun h => ?_)
 ·refine Z 2 ?_
  refine st_cut (fun ρ τ23 gs => ∃ (s23 : K7) (v24 : Value) (g25 : Grp) (v27 : Value) (g28 : Grp), fleet_Fleet_Apply_j3 s16 s23 o16 ∧ τ16.Le τ23 ∧ ESub ρ [(0, .Pb ba0), (4, .I 0), (5, .I s23.1), (10, v7), (11, .I (a1.length : Int)), (12, .I s16.2.1)] ∧ gs = [[(ba0, .cells #[v24, v27] 76 (0, 0))], g25, g28] ∧ Mp (Value.int .i64) (rK (kP (kI .i64) (kP (kI .i64) (kP (kI .i64) (kP (kI .i64) (kP (kI .i64) (kP kB (kP kB (kP (kI .i64) (kP (kI .i64) (kP (kSl (kP (kI .i64) (kI .i64))) (kP (kI .i64) (kI .i64))))))))))))) τ23 v24 s23.2.1 g25 ∧ Mp kPr (rSl (kI .i64)) τ23 v27 s23.2.2 g28) ?_ (fun hk23 => ?_)
  ·rintro ρ23 τ23 gs23 ⟨s23, v24, g25, v27, g28, h, hl23, hρ, rfl, ho26, ho29⟩
   refine st_es hρ (Z 4 ?_)
   exact hn16 _ _ _ _ h ⟨(hl16.trans hl23), _, _, _, _, rfl, rfl, ho26, ho29⟩
  refine Z 3 ?_
  obtain ⟨q30, hf31, h⟩ := h
  refine o_index rfl rfl rfl z_slT84 rfl rfl (hs8.up hl16) rfl hf31 (fun b32 of33 vs hc36 hrep => ?_)
  obtain ⟨_, _, rfl, rfl, ⟨_, _, rfl, rfl, ⟨_, _, rfl, ⟨v34, rfl, hs37⟩, ⟨_, _, rfl, ⟨v35, rfl, hs38⟩, ⟨_, _, rfl, rfl, rfl⟩⟩⟩⟩⟩ := hrep
  refine o_loadIN (vs := (lM q30 v34 v35)) rfl rfl rfl z_agg33 rfl rfl (celn_part 0 rfl hc36) ?_
  refine o_alloc rfl rfl rfl z_zero33 (fun b39 => ?_)
  refine o_store (j := 0) (vs := (lM q30 v34 v35)) (cs' := (lM q30 v34 v35)) rfl rfl rfl z_size33 rfl rfl rfl (o4 (ones_cons rfl (ones_cons rfl (ones_cons rfl (ones_cons hs37.one' (ones_cons hs38.one' (ones_cons rfl (ones_cons rfl ones_nil)))))))) rfl rfl rfl (ZZ 5 [0] ?_)
  obtain ⟨r40, hr41, h⟩ := h
  refine SC z_en30 (msg_Check_ok hr41 τ16 hs37 hs38) ?_
  rintro _ τ42 _ hl43 ⟨rfl, rfl⟩
  refine Z 2 ?_
  refine I2 h (fun h => ?_) (fun h => ?_)
  ·refine st_exit rfl ?_
   refine st_ord [1, 1, 1] _ rfl ?_
   exact hk23 _ _ _ ⟨(s16.1, s16.2.2.1, s16.2.2.2), _, _, _, _, h, hl43, rfl, rfl, (ho19.up hl43), (ho22.up hl43)⟩
  ·refine ZZ 5 [0] ?_
   obtain ⟨r44, hr45, h⟩ := h
   refine st_ord [1, 1, 1, 0] _ rfl ?_
   refine st_call (foot := [[(ba0, .cells #[v17, v20] 76 (0, 0))], g18, g21]) rfl rfl rfl rfl rfl rfl (callV_fn z_en31 (fleet_Fleet_apply_ok hr45 τ42 (ho19.up hl43) (ho22.up hl43) (hs37.up hl43) (hs38.up hl43))) ?_
   rintro _ τ46 _ hl47 ⟨v48, g49, v50, g51, rfl, rfl, ho52, ho53⟩
   refine Z 7 ?_
   refine st_ord [0, 0, 0] _ rfl ?_
   exact hk23 _ _ _ ⟨((i64.wrap (s16.1 + 1)), r44.1, r44.2), _, _, _, _, h, (hl43.trans hl47), rfl, rfl, ho52, ho53⟩
 ·refine st_exit rfl ?_
  obtain rfl := he16 _ h
  replace h := hA16
  exact hk9 _ _ _ ⟨(s16.1, s16.2.2.1, s16.2.2.2), _, _, _, _, h, hl16, rfl, rfl, ho19, ho22⟩
theorem ref30_Cells_ok {a0 : List (TyR) × List (Int × Int × List Int)} {a1 a2 : Int} {v1 v2 : Value} {r : List Int} (h : ref30_Cells a0 a1 a2 r) (σ : Sto) (hs3 : Sl (kP (kI .i64) (kP (kA .i64 6) (kP (kSl (kA .i64 2)) (kP (kSl (kI .i64)) (kP kS kS))))) σ v1 a0.1) (hs4 : Sl (kP (kI .i64) (kP (kI .i64) (kSl (kI .i64)))) σ v2 a0.2) :
    Does prog 21 [.agg [v1, v2].toArray, .I a1, .I a2] σ [] (fun v τ gs => ∃ (v32 : Value), gs = [] ∧ v32 = v ∧ Sl (kI .i64) τ v32 r) := by
 refine CO func21 ntmps21 rfl (fun cs fs => Z 2 ?_)
 refine o_box (cs := [v1, v2]) rfl rfl rfl rfl rfl (fun b5 => Z 3 ?_)
 refine cutS σ (fun (s6 : Unit) => ref30_Cells_j1 s6 r) (fun s6 => [(6, .N0)]) (fun s6 => []) (fun s6 τ6 h hl6 => (Z 4 ?_)) (fun hk6 => ?_)
 ·obtain rfl := h.symm
  exact RT func21 rfl hl6 ⟨_, rfl, rfl, Sl.nil⟩
 refine Z 4 ?_
 obtain ⟨e7, hL7, hA7⟩ := h
 refine st_loop hL7 (fun (s7 : Int) ρ τ7 gs => σ.Le τ7 ∧ ESub ρ [(1, .I a1), (2, .I a2), (3, .Pb b5), (6, .N0), (7, .I s7)] ∧ gs = [[(b5, .cells #[v1, v2] 28 (0, 0))]]) ⟨LR, rfl, rfl⟩ ?_
 rintro s7 o7 h he7 ρ7 τ7 gs7 ⟨hl7, hρ, rfl⟩ hn7
 refine st_es hρ (ZZ 6 [0] ?_)
 refine o_lenI rfl rfl rfl z_slT26 rfl (hs4.up hl7) (Z 2 ?_)
 refine I2 h (fun h => ?_) (fun h => ?_)
 ·refine Z 4 ?_
  refine cutS τ7 (fun (s8 : Bool) => ref30_Cells_j3 a0 s7 s8 o7) (fun s8 => [(1, .I a1), (2, .I a2), (3, .Pb b5), (6, .N0), (7, .I s7), (32, .bool s8)]) (fun s8 => [[(b5, .cells #[v1, v2] 28 (0, 0))]]) (fun s8 τ8 h hl8 => ?_) (fun hk8 => ?_)
  ·refine I2 h (fun h => ?_) (fun h => ?_)
   ·refine ZZ 5 [0] ?_
    obtain ⟨q9, hf10, h⟩ := h
    refine o_index rfl rfl rfl z_slT26 rfl rfl (hs4.up (hl7.trans hl8)) rfl hf10 (fun b11 of12 vs hc14 hrep => ?_)
    obtain ⟨_, _, rfl, rfl, ⟨_, _, rfl, rfl, ⟨v13, rfl, hs15⟩⟩⟩ := hrep
    refine o_fieldAddr rfl rfl rfl z_field80_2 rfl ?_
    refine o_loadI (v := v13) rfl rfl rfl z_sc31 rfl (hc14 2 _ rfl) (Z 2 ?_)
    refine st_ord [] _ rfl ?_
    obtain rfl := he7 _ h
    replace h := hA7
    obtain rfl := h.symm
    exact RT func21 rfl (hl7.trans hl8) ⟨_, rfl, rfl, hs15⟩
   ·refine Z 7 ?_
    exact hn7 _ _ _ _ h ⟨(hl7.trans hl8), rfl, rfl⟩
  refine ZZ 4 [0] ?_
  obtain ⟨q16, hf17, h⟩ := h
  refine o_index rfl rfl rfl z_slT26 rfl rfl (hs4.up hl7) rfl hf17 (fun b18 of19 vs hc21 hrep => ?_)
  obtain ⟨_, _, rfl, rfl, ⟨_, _, rfl, rfl, ⟨v20, rfl, hs22⟩⟩⟩ := hrep
  refine o_fieldAddr rfl rfl rfl z_field80_0 rfl ?_
  refine o_loadI (v := .I q16.1) rfl rfl rfl z_sc3 rfl (hc21 0 _ rfl) (Z 2 ?_)
  refine M2 h (fun h => ?_) (fun h => ?_)
  ·refine ZZ 3 [0] ?_
   obtain ⟨q23, hf24, h⟩ := h
   refine o_index rfl rfl rfl z_slT26 rfl rfl (hs4.up hl7) rfl hf24 (fun b25 of26 vs hc28 hrep => ?_)
   obtain ⟨_, _, rfl, rfl, ⟨_, _, rfl, rfl, ⟨v27, rfl, hs29⟩⟩⟩ := hrep
   refine o_fieldAddr rfl rfl rfl z_field80_1 rfl ?_
   refine o_loadI (v := .I q23.2.1) rfl rfl rfl z_sc3 rfl (hc28 1 _ rfl) (Z 4 ?_)
   exact hk8 _ _ _ ⟨(decide (q23.2.1 = a2)), h, LR, rfl, rfl⟩
  ·refine Z 10 ?_
   exact hk8 _ _ _ ⟨false, h, LR, rfl, rfl⟩
 ·refine st_exit rfl ?_
  obtain rfl := he7 _ h
  replace h := hA7
  refine st_ord [] _ rfl ?_
  exact hk6 _ _ _ ⟨(), h, hl7, rfl, rfl⟩
theorem ref30_Release_ok {a0 : List (TyR) × List (Int × Int × List Int)} {a1 a2 : Int} {v1 v2 : Value} {r : (List (TyR) × List (Int × Int × List Int)) × Bool} (h : ref30_Release a0 a1 a2 r) (σ : Sto) (hs3 : Sl (kP (kI .i64) (kP (kA .i64 6) (kP (kSl (kA .i64 2)) (kP (kSl (kI .i64)) (kP kS kS))))) σ v1 a0.1) (hs4 : Sl (kP (kI .i64) (kP (kI .i64) (kSl (kI .i64)))) σ v2 a0.2) :
    Does prog 10 [.agg [v1, v2].toArray, .I a1, .I a2] σ [] (fun v τ gs => ∃ (v21 v22 : Value), gs = [] ∧ .tuple [.agg [v21, v22].toArray, .bool r.2].toArray = v ∧ Sl (kP (kI .i64) (kP (kA .i64 6) (kP (kSl (kA .i64 2)) (kP (kSl (kI .i64)) (kP kS kS))))) τ v21 r.1.1 ∧ Sl (kP (kI .i64) (kP (kI .i64) (kSl (kI .i64)))) τ v22 r.1.2) := by
 refine CO func10 ntmps10 rfl (fun cs fs => Z 2 ?_)
 refine o_box (cs := [v1, v2]) rfl rfl rfl rfl rfl (fun b5 => ?_)
 refine o_alloc rfl rfl rfl z_zero28 (fun b6 => ZZ 7 [1] ?_)
 obtain ⟨r7, hr8, h⟩ := h
 refine SC z_en21 (ref30_Cells_ok hr8 σ hs3 hs4) ?_
 rintro _ τ9 _ hl10 ⟨v11, rfl, rfl, hs12⟩
 refine o_lenI rfl rfl rfl z_slT31 rfl hs12 (ZZ 9 [1] ?_)
 obtain ⟨r13, hr14, h⟩ := h
 refine SC z_en29 (ref30_set_ok hr14 τ9 (hs3.up hl10) (hs4.up hl10) Sl.nil) ?_
 rintro _ τ15 _ hl16 ⟨v17, v18, rfl, rfl, hs19, hs20⟩
 refine o_move rfl rfl rfl rfl ?_
 refine o_store (j := 0) (vs := [v17, v18]) (cs' := [v17, v18]) rfl rfl rfl z_size28 rfl rfl rfl (ones_cons hs19.one' (ones_cons hs20.one' ones_nil)) rfl rfl rfl (Z 2 ?_)
 obtain rfl := h.symm
 exact RC [.agg #[v17, v18], .bool (decide (0 < (r7.length : Int)))] func10 ⟨cN 0 z_agg28, rfl, trivial⟩ (hl10.trans hl16) ⟨_, _, rfl, rfl, hs19, hs20⟩
theorem fleet_Fleet_Release_ok {a0 : List (Int × (Int × Int × Int × Int × Int × Bool × Bool × Int × Int × List (Int × Int) × Int × Int)) × List ((Int × Int) × List Int)} {a1 a2 : Int} {ba0 : Nat} {v1 : Value} {g2 : Grp} {v3 : Value} {g4 : Grp} {r : Bool × (List (Int × (Int × Int × Int × Int × Int × Bool × Bool × Int × Int × List (Int × Int) × Int × Int)) × List ((Int × Int) × List Int))} (h : fleet_Fleet_Release a0 a1 a2 r) (σ : Sto) (ho5 : Mp (Value.int .i64) (rK (kP (kI .i64) (kP (kI .i64) (kP (kI .i64) (kP (kI .i64) (kP (kI .i64) (kP kB (kP kB (kP (kI .i64) (kP (kI .i64) (kP (kSl (kP (kI .i64) (kI .i64))) (kP (kI .i64) (kI .i64))))))))))))) σ v1 a0.1 g2) (ho6 : Mp kPr (rSl (kI .i64)) σ v3 a0.2 g4) :
    Does prog 11 [.Pb ba0, .I a1, .I a2] σ [[(ba0, .cells [v1, v3].toArray 76 (0, 0))], g2, g4] (fun v τ gs => ∃ (v17 : Value) (g18 : Grp) (v19 : Value) (g20 : Grp), gs = [[(ba0, .cells [v17, v19].toArray 76 (0, 0))], g18, g20] ∧ .bool r.1 = v ∧ Mp (Value.int .i64) (rK (kP (kI .i64) (kP (kI .i64) (kP (kI .i64) (kP (kI .i64) (kP (kI .i64) (kP kB (kP kB (kP (kI .i64) (kP (kI .i64) (kP (kSl (kP (kI .i64) (kI .i64))) (kP (kI .i64) (kI .i64))))))))))))) τ v17 r.2.1 g18 ∧ Mp kPr (rSl (kI .i64)) τ v19 r.2.2 g20) := by
 refine CO func11 ntmps11 rfl (fun cs fs => ZZ 9 [] ?_)
 refine o_alloc rfl rfl rfl z_zero89 (fun b7 => ZZ 4 [0] ?_)
 let cc8 : Prop := false = false
 refine st_draw 12 (dl [.v (.Pb ba0), .v (.bool false), .v (.bool false), .g cc8 (.Pb ba0), .g cc8 (.Pb ba0), .g cc8 (.pointer (some ⟨ba0, 1, none⟩)), .g cc8 (v3), .g cc8 (.agg #[.I a1, .I a2]), .h cc8 fun τ v => ∃ (v9 : Value), (v9 : Value) = v ∧ Sl (kI .i64) τ v9 ((mget a0.2 (a1, a2)).getD []), .g cc8 (.I (((mget a0.2 (a1, a2)).getD []).length : Int)), .g cc8 (.bool (decide ((((mget a0.2 (a1, a2)).getD []).length : Int) = 0))), .v (.bool (false || (decide ((((mget a0.2 (a1, a2)).getD []).length : Int) = 0))))]) (fun _ _ => []) z_mix rfl (dl_mono ⟨fun _ _ _ hl ⟨v9, hv, hv10⟩ => ⟨v9, hv, hv10.up hl⟩, trivial⟩) (allB_cons (allB_cons (allB_cons (allB_cons (allB_cons (allB_cons (allB_cons (allB_cons (allB_cons (allB_cons (allB_cons (allB_cons allB_nil (p1 dA)) (p1 dA)) (p1 dA)) ?_) ?_) ?_) ?_) ?_) ?_) ?_) ?_) ?_) ?_
 ·intro ρ' τ pq rs hl hd hq hk
  obtain ⟨_, e2, rfl⟩ := hd 2 rfl
  by_cases hG : false = false
  ·have hC := hG
   refine o_move rfl (wants_of rfl e2 hG) rfl (oT hq 0) ?_
   exact st_addNil (hk _ _ LR ⟨fun _ => rfl, fun hn => absurd hC hn⟩)
  ·refine st_pass rfl rfl rfl e2 (beq_off hG) rfl ?_
   exact st_addNil (hk _ _ LR ⟨fun h => absurd h hG, fun _ => rfl⟩)
 ·intro ρ' τ pq rs hl hd hq hk
  obtain ⟨_, e2, rfl⟩ := hd 2 rfl
  obtain ⟨w3, e3, t3⟩ := hd 3 rfl
  by_cases hG : false = false
  ·have hC := hG
   obtain ⟨rfl⟩ := t3.1 hC
   refine o_nilCheck rfl (wants_of rfl e2 hG) rfl e3 ?_
   exact st_addNil (hk _ _ LR ⟨fun _ => rfl, fun hn => absurd hC hn⟩)
  ·refine st_pass rfl rfl rfl e2 (beq_off hG) rfl ?_
   exact st_addNil (hk _ _ LR ⟨fun h => absurd h hG, fun _ => rfl⟩)
 ·intro ρ' τ pq rs hl hd hq hk
  obtain ⟨_, e2, rfl⟩ := hd 2 rfl
  obtain ⟨w4, e4, t4⟩ := hd 4 rfl
  by_cases hG : false = false
  ·have hC := hG
   obtain ⟨rfl⟩ := t4.1 hC
   refine o_fieldAddr rfl (wants_of rfl e2 hG) rfl z_field76_1 e4 ?_
   exact st_addNil (hk _ _ LR ⟨fun _ => rfl, fun hn => absurd hC hn⟩)
  ·refine st_pass rfl rfl rfl e2 (beq_off hG) rfl ?_
   exact st_addNil (hk _ _ LR ⟨fun h => absurd h hG, fun _ => rfl⟩)
 ·intro ρ' τ pq rs hl hd hq hk
  obtain ⟨_, e2, rfl⟩ := hd 2 rfl
  obtain ⟨w5, e5, t5⟩ := hd 5 rfl
  by_cases hG : false = false
  ·have hC := hG
   obtain ⟨rfl⟩ := t5.1 hC
   refine o_load (j := 1) (v := v3) rfl (wants_of rfl e2 hG) rfl z_sc74 e5 rfl rfl ?_
   exact st_addNil (hk _ _ LR ⟨fun _ => rfl, fun hn => absurd hC hn⟩)
  ·refine st_pass rfl rfl rfl e2 (beq_off hG) rfl ?_
   exact st_addNil (hk _ _ LR ⟨fun h => absurd h hG, fun _ => rfl⟩)
 ·intro ρ' τ pq rs hl hd hq hk
  obtain ⟨_, e2, rfl⟩ := hd 2 rfl
  by_cases hG : false = false
  ·have hC := hG
   refine o_loadN (j := 0) (vs := [.I a1, .I a2]) rfl (wants_of rfl e2 hG) rfl z_agg89 (oT hq 7) rfl rfl ?_
   exact st_addNil (hk _ _ LR ⟨fun _ => rfl, fun hn => absurd hC hn⟩)
  ·refine st_pass rfl rfl rfl e2 (beq_off hG) rfl ?_
   exact st_addNil (hk _ _ LR ⟨fun h => absurd h hG, fun _ => rfl⟩)
 ·intro ρ' τ pq rs hl hd hq hk
  obtain ⟨_, e2, rfl⟩ := hd 2 rfl
  obtain ⟨w6, e6, t6⟩ := hd 6 rfl
  obtain ⟨w7, e7, t7⟩ := hd 7 rfl
  by_cases hG : false = false
  ·have hC := hG
   obtain ⟨rfl⟩ := t6.1 hC
   obtain ⟨rfl⟩ := t7.1 hC
   refine o_lookR (rv := (rSl (kI .i64))) (q0 := []) (j := 3) (a := (a1, a2)) rfl (wants_of rfl e2 hG) rfl z_map74 z_keyP89 z_zeroV31 Sl.nil e6 (ho6.up hl) rfl e7 (fun v9 hv10 => ?_)
   exact st_addNil (hk _ _ LR ⟨fun _ => ⟨v9, rfl, hv10⟩, fun hn => absurd hC hn⟩)
  ·refine st_pass rfl rfl rfl e2 (beq_off hG) rfl ?_
   exact st_addNil (hk _ _ LR ⟨fun h => absurd h hG, fun _ => rfl⟩)
 ·intro ρ' τ pq rs hl hd hq hk
  obtain ⟨_, e2, rfl⟩ := hd 2 rfl
  obtain ⟨w8, e8, t8⟩ := hd 8 rfl
  by_cases hG : false = false
  ·have hC := hG
   obtain ⟨v9, rfl, hv10⟩ := t8.1 hC
   refine o_lenI rfl (wants_of rfl e2 hG) rfl z_slT31 e8 hv10 ?_
   exact st_addNil (hk _ _ LR ⟨fun _ => rfl, fun hn => absurd hC hn⟩)
  ·refine st_pass rfl rfl rfl e2 (beq_off hG) rfl ?_
   exact st_addNil (hk _ _ LR ⟨fun h => absurd h hG, fun _ => rfl⟩)
 ·intro ρ' τ pq rs hl hd hq hk
  obtain ⟨_, e2, rfl⟩ := hd 2 rfl
  obtain ⟨w9, e9, t9⟩ := hd 9 rfl
  by_cases hG : false = false
  ·have hC := hG
   obtain ⟨rfl⟩ := t9.1 hC
   refine o_ibin (v := .bool (decide ((((mget a0.2 (a1, a2)).getD []).length : Int) = 0))) rfl (wants_of rfl e2 hG) rfl e9 rfl rfl ?_
   exact st_addNil (hk _ _ LR ⟨fun _ => rfl, fun hn => absurd hC hn⟩)
  ·refine st_pass rfl rfl rfl e2 (beq_off hG) rfl ?_
   exact st_addNil (hk _ _ LR ⟨fun h => absurd h hG, fun _ => rfl⟩)
 ·intro ρ' τ pq rs hl hd hq hk
  obtain ⟨_, e2, rfl⟩ := hd 2 rfl
  obtain ⟨w10, e10, t10⟩ := hd 10 rfl
  refine o_pickOr rfl rfl rfl e2 rfl (fun hp => e10.trans (congrArg some (Eq.symm (t10.1 hp)))) ?_
  exact st_addNil (hk _ _ LR rfl)
 intro ρ' τ11 vals hl11 hv hq
 refine st_ord [0, 0, 0, 0] _ rfl ?_
 refine st_env (ρ' := [(22, .bool (false || (decide ((((mget a0.2 (a1, a2)).getD []).length : Int) = 0)))), (0, .Pb ba0), (6, .bool false), (7, .Pb b7)]) ⟨(lv1 hv 11 rfl rfl), oT hq 0, oT hq 6, oT hq 7, trivial⟩ ?_
 refine st_end ?_
 refine I2 h (fun h => ?_) (fun h => ?_)
 ·refine Z 4 ?_
  refine st_ord [1, 1, 1] _ rfl ?_
  obtain rfl := Eq.symm h
  exact st_ret (gs' := [[(ba0, .cells #[v1, v3] 76 (0, 0))], g2, g4]) func11 rfl (List.Sublist.refl _) hl11 ⟨_, _, _, _, rfl, rfl, (ho5.up hl11), (ho6.up hl11)⟩
 ·refine Z 2 ?_
  refine st_d41 [[(b7, .cells #[.I a1, .I a2] 89 (0, 0))]] [[(ba0, .cells #[v1, v3] 76 (0, 0))], g2, g4] 6 2 [none, none, none, some (0, 0), none, some (0, 1)] [none, none, none, none, none, none] [[none, some 26, none]] [.v (.Pb ba0), .v (.Pb ba0), .v (.pointer (some ⟨ba0, 1, none⟩)), .v (v3), .v (.agg #[.I a1, .I a2]), .t fun _ _ => True] [[fun τ u F => F = [[(ba0, .cells #[v1, v3] 76 (0, 0))], g2, g4], fun τ u F => F = [[(ba0, .cells #[v1, v3] 76 (0, 0))], g2, g4], fun τ u F => ∃ (g14 : Grp), F = [[(ba0, .cells #[v1, v3] 76 (0, 0))], g2, g14] ∧ Mp kPr (rSl (kI .i64)) τ v3 (mdel a0.2 (a1, a2)) g14]] rfl z_mix rfl ⟨fun _ _ _ _ _ => trivial, trivial⟩ ⟨⟨fun _ _ _ _ hl h => h, ⟨fun _ _ _ _ hl h => h, ⟨fun _ _ _ _ hl h => (let ⟨g14, hF, ho15⟩ := h; ⟨g14, hF, ho15.up hl⟩), trivial⟩⟩⟩, trivial⟩ rfl rfl ?_ (allB_cons (allB_cons (allB_cons (allB_cons (allB_cons (allB_cons allB_nil (p4 dA)) (p4 dA)) (p4 dA)) ?_) ?_) ?_) ?_
  ·exact rfl
  ·intro ρ' τ u Fv pq rs hl hI hu hd hq hw hk
   obtain ⟨_, e2, rfl⟩ := hd 2 rfl _ rfl
   have hI0 := hI
   obtain rfl := hI
   refine o_load (j := 1) (v := v3) rfl rfl rfl z_sc74 e2 rfl rfl ?_
   exact hk _ _ [[(ba0, .cells #[v1, v3] 76 (0, 0))], g2, g4] LR rfl (by exact hI0)
  ·intro ρ' τ pq rs hl hd hq hw hk
   refine o_loadN (j := 0) (vs := [.I a1, .I a2]) rfl rfl rfl z_agg89 (oT hq 7) rfl rfl ?_
   exact hk _ _ LR rfl
  ·intro ρ' τ u Fv pq rs hl hI hu hd hq hw hk
   obtain ⟨_, e3, rfl⟩ := hd 3 rfl _ rfl
   obtain ⟨_, e4, rfl⟩ := hd 4 rfl _ rfl
   have hI0 := hI
   obtain rfl := hI
   refine o_delM (j := 3) (a := (a1, a2)) rfl rfl rfl z_map74 z_keyP89 e3 (ho6.up (hl11.trans hl)) rfl e4 (fun g12 ho13 => ?_)
   exact hk _ _ [[(ba0, .cells #[v1, v3] 76 (0, 0))], g2, g12] LR trivial (by exact ⟨g12, rfl, ho13⟩)
  intro ρ' τ16 vals u Fv hl16 hI hu hv hq
  obtain ⟨g14, rfl, ho15⟩ := hI
  refine st_env (ρ' := [(6, .bool false)]) ⟨oT hq 6, trivial⟩ (Z 5 ?_)
  refine st_ord [1, 1, 1] _ rfl ?_
  obtain rfl := Eq.symm h
  exact st_ret (gs' := [[(ba0, .cells #[v1, v3] 76 (0, 0))], g2, g14]) func11 rfl (List.Sublist.refl _) (hl11.trans hl16) ⟨_, _, _, _, rfl, rfl, (ho5.up (hl11.trans hl16)), ho15⟩
theorem fleet_Fleet_Copy_ok {a0 : List (Int × (Int × Int × Int × Int × Int × Bool × Bool × Int × Int × List (Int × Int) × Int × Int)) × List ((Int × Int) × List Int)} {ba0 : Nat} {v1 : Value} {g2 : Grp} {v3 : Value} {g4 : Grp} {r : List (Int × (Int × Int × Int × Int × Int × Bool × Bool × Int × Int × List (Int × Int) × Int × Int)) × List ((Int × Int) × List Int)} (h : fleet_Fleet_Copy a0 r) (σ : Sto) (ho5 : Mp (Value.int .i64) (rK (kP (kI .i64) (kP (kI .i64) (kP (kI .i64) (kP (kI .i64) (kP (kI .i64) (kP kB (kP kB (kP (kI .i64) (kP (kI .i64) (kP (kSl (kP (kI .i64) (kI .i64))) (kP (kI .i64) (kI .i64))))))))))))) σ v1 a0.1 g2) (ho6 : Mp kPr (rSl (kI .i64)) σ v3 a0.2 g4) :
    Does prog 12 [.Pb ba0] σ [[(ba0, .cells [v1, v3].toArray 76 (0, 0))], g2, g4] (fun v τ gs => ∃ (b7 : Nat) (v8 : Value) (g9 : Grp) (v10 : Value) (g11 : Grp), gs = [[(ba0, .cells [v1, v3].toArray 76 (0, 0))], g2, g4, [(b7, .cells [v8, v10].toArray 76 (0, 0))], g9, g11] ∧ .Pb b7 = v ∧ Mp (Value.int .i64) (rK (kP (kI .i64) (kP (kI .i64) (kP (kI .i64) (kP (kI .i64) (kP (kI .i64) (kP kB (kP kB (kP (kI .i64) (kP (kI .i64) (kP (kSl (kP (kI .i64) (kI .i64))) (kP (kI .i64) (kI .i64))))))))))))) τ v8 r.1 g9 ∧ Mp kPr (rSl (kI .i64)) τ v10 r.2 g11) := by
 obtain rfl := h
 exact copyF_does Tryz.copy12c ho5 ho6
theorem ref30_Robots_ok {a0 : List (TyR) × List (Int × Int × List Int)} {v1 v2 : Value} {r : List Int} (h : ref30_Robots a0 r) (σ : Sto) (hs3 : Sl (kP (kI .i64) (kP (kA .i64 6) (kP (kSl (kA .i64 2)) (kP (kSl (kI .i64)) (kP kS kS))))) σ v1 a0.1) (hs4 : Sl (kP (kI .i64) (kP (kI .i64) (kSl (kI .i64)))) σ v2 a0.2) :
    Does prog 16 [.agg [v1, v2].toArray] σ [] (fun v τ gs => ∃ (v104 : Value), gs = [] ∧ v104 = v ∧ Sl (kI .i64) τ v104 r) := by
 refine CO func16 ntmps16 rfl (fun cs fs => Z 2 ?_)
 refine o_box (cs := [v1, v2]) rfl rfl rfl rfl rfl (fun b5 => Z 7 ?_)
 refine st_cut (fun ρ τ6 gs => ∃ (s6 : List Int) (v7 : Value) (g8 : Grp), ref30_Robots_j1 s6 r ∧ σ.Le τ6 ∧ ESub ρ [(2, .N0), (3, v7)] ∧ gs = [g8] ∧ Ow (kI .i64) 3 τ6 v7 s6 g8) ?_ (fun hk6 => ?_)
 ·rintro ρ6 τ6 gs6 ⟨s6, v7, g8, h, hl6, hρ, rfl, ho9⟩
  refine st_es hρ (Z 5 ?_)
  refine st_freeze (fun τ10 hl11 hg12 => ?_)
  have hs13 := ho9.freeze hl11 hg12
  obtain rfl := h.symm
  exact RT func16 rfl (hl6.trans hl11) ⟨_, rfl, rfl, hs13⟩
 refine Z 4 ?_
 obtain ⟨e16, hL16, hA16⟩ := h
 refine st_addNil ?_
 refine st_ord [1, 0] _ rfl ?_
 refine st_loop hL16 (fun (s16 : K34) ρ τ16 gs => σ.Le τ16 ∧ ∃ (v17 : Value) (g18 : Grp), ESub ρ [(1, .Pb b5), (2, .N0), (3, v17), (4, .I s16.2)] ∧ gs = [[(b5, .cells #[v1, v2] 28 (0, 0))], g18] ∧ Ow (kI .i64) 3 τ16 v17 s16.1 g18) ⟨LR, _, _, rfl, rfl, Ow.nil⟩ ?_
 rintro s16 o16 h he16 ρ16 τ16 gs16 ⟨hl16, v17, g18, hρ, rfl, ho19⟩ hn16
 refine st_es hρ (ZZ 6 [0] ?_)
 refine o_lenI rfl rfl rfl z_slT25 rfl (hs3.up hl16) (Z 2 ?_)
 refine I2 h (fun h => ?_) (fun h => ?_)
 ·refine Z 2 ?_
  refine st_cut (fun ρ τ20 gs => ∃ (s20 : List Int) (v21 : Value) (g22 : Grp), ref30_Robots_j3 s16 s20 o16 ∧ τ16.Le τ20 ∧ ESub ρ [(1, .Pb b5), (2, .N0), (4, .I s16.2), (3, v21)] ∧ gs = [[(b5, .cells #[v1, v2] 28 (0, 0))], g22] ∧ Ow (kI .i64) 3 τ20 v21 s20 g22) ?_ (fun hk20 => ?_)
  ·rintro ρ20 τ20 gs20 ⟨s20, v21, g22, h, hl20, hρ, rfl, ho23⟩
   refine st_es hρ (Z 5 ?_)
   exact hn16 _ _ _ _ h ⟨(hl16.trans hl20), _, _, rfl, rfl, ho23⟩
  refine ZZ 6 [0] ?_
  obtain ⟨q24, hf25, h⟩ := h
  refine o_index rfl rfl rfl z_slT25 rfl rfl (hs3.up hl16) rfl hf25 (fun b26 of27 vs hc30 hrep => ?_)
  obtain ⟨_, _, rfl, rfl, ⟨_, _, rfl, rfl, ⟨_, _, rfl, ⟨v28, rfl, hs31⟩, ⟨_, _, rfl, ⟨v29, rfl, hs32⟩, ⟨_, _, rfl, rfl, rfl⟩⟩⟩⟩⟩ := hrep
  refine o_fieldAddr rfl rfl rfl z_field41_1 rfl ?_
  refine o_indexA rfl rfl rfl z_arr29 rfl rfl (by decide) (by decide) ?_
  refine o_loadI (v := .I (q24.2.1.getD 0 0)) rfl rfl rfl z_sc3 rfl (cel_arr (f := (Value.int .i64)) (zz := 0) (n := 6) (xs := q24.2.1) (p := 1) (q := 0) hc30 rfl (by omega) (by omega)) (Z 7 ?_)
  refine cutS τ16 (fun (s33 : Int) => ref30_Robots_j4 s16 q24 s33 o16) (fun s33 => [(1, .Pb b5), (2, .N0), (3, v17), (4, .I s16.2), (5, .I (q24.2.1.getD 0 0)), (6, .I s33)]) (fun s33 => [[(b5, .cells #[v1, v2] 28 (0, 0))], g18]) (fun s33 τ33 h hl33 => ?_) (fun hk33 => ?_)
  ·refine st_seq ?_
   refine cutS τ33 (fun (s34 : Bool) => ref30_Robots_j5 s16 q24 s33 s34 o16) (fun s34 => [(1, .Pb b5), (2, .N0), (3, v17), (4, .I s16.2), (5, .I (q24.2.1.getD 0 0)), (6, .I s33), (46, .bool s34)]) (fun s34 => [[(b5, .cells #[v1, v2] 28 (0, 0))], g18]) (fun s34 τ34 h hl34 => ?_) (fun hk34 => ?_)
   ·refine I2 h (fun h => ?_) (fun h => ?_)
    ·obtain ⟨hf45, hf46, hf52, hf53, hf67, hf68, hf72, hf73, hf74, hf80, hf81, h⟩ := h
     refine st_ord [1, 0] _ rfl ?_
     refine st_freeze (fun τ35 hl36 hg37 => ?_)
     have hs38 := ho19.freeze ((hl33.trans hl34).trans hl36) hg37
     refine st_d41 [[(b5, .cells #[v1, v2] 28 (0, 0))]] [] 12 4 [some (0, 0), none, none, none, some (0, 1), none, none, some (0, 2), none, none, none, some (0, 3)] [none, none, none, none, none, none, none, none, none, none, none, none] [[none, some 47, some 51, some 54, some 58]] [.t fun _ _ => True, .v (v17), .v (.I s33), .t fun τ v => ∃ (v47 : Value), (v47 : Value) = v ∧ Sl (kI .i64) τ v47 ((s16.1.drop (0 : Int).toNat).take ((s33 : Int) - 0).toNat), .t fun _ _ => True, .v (.I (q24.2.1.getD 0 0)), .t fun τ v => ∃ (v57 : Value), (v57 : Value) = v ∧ Sl (kI .i64) τ v57 [(q24.2.1.getD 0 0)], .t fun _ _ => True, .v (v17), .v (.I s33), .t fun τ v => ∃ (v75 : Value), (v75 : Value) = v ∧ Sl (kI .i64) τ v75 ((s16.1.drop s33.toNat).take (((s16.1.length : Int) : Int) - s33).toNat), .t fun _ _ => True] [[fun τ u F => F = [], fun τ u F => ∃ (v42 : Value) (g43 : Grp), F = [g43] ∧ v42 = u ∧ Ow (kI .i64) 3 τ v42 ([] : List Int) g43, fun τ u F => ∃ (v54 : Value) (g55 : Grp), F = [g55] ∧ v54 = u ∧ Ow (kI .i64) 3 τ v54 (([] : List Int) ++ ((s16.1.drop (0 : Int).toNat).take ((s33 : Int) - 0).toNat)) g55, fun τ u F => ∃ (v69 : Value) (g70 : Grp), F = [g70] ∧ v69 = u ∧ Ow (kI .i64) 3 τ v69 ((([] : List Int) ++ ((s16.1.drop (0 : Int).toNat).take ((s33 : Int) - 0).toNat)) ++ [(q24.2.1.getD 0 0)]) g70, fun τ u F => ∃ (v82 : Value) (g83 : Grp), F = [g83] ∧ v82 = u ∧ Ow (kI .i64) 3 τ v82 (((([] : List Int) ++ ((s16.1.drop (0 : Int).toNat).take ((s33 : Int) - 0).toNat)) ++ [(q24.2.1.getD 0 0)]) ++ ((s16.1.drop s33.toNat).take (((s16.1.length : Int) : Int) - s33).toNat)) g83]] rfl z_mix rfl ⟨fun _ _ _ _ _ => trivial, ⟨fun _ _ _ hl ⟨v47, hv, hs48⟩ => ⟨v47, hv, hs48.up hl⟩, ⟨fun _ _ _ _ _ => trivial, ⟨fun _ _ _ hl ⟨v57, hv, hs63⟩ => ⟨v57, hv, hs63.up hl⟩, ⟨fun _ _ _ _ _ => trivial, ⟨fun _ _ _ hl ⟨v75, hv, hs76⟩ => ⟨v75, hv, hs76.up hl⟩, ⟨fun _ _ _ _ _ => trivial, trivial⟩⟩⟩⟩⟩⟩⟩ ⟨⟨fun _ _ _ _ hl h => h, ⟨fun _ _ _ _ hl h => (let ⟨v42, g43, hF, hU, ho44⟩ := h; ⟨v42, g43, hF, hU, ho44.up hl⟩), ⟨fun _ _ _ _ hl h => (let ⟨v54, g55, hF, hU, ho56⟩ := h; ⟨v54, g55, hF, hU, ho56.up hl⟩), ⟨fun _ _ _ _ hl h => (let ⟨v69, g70, hF, hU, ho71⟩ := h; ⟨v69, g70, hF, hU, ho71.up hl⟩), ⟨fun _ _ _ _ hl h => (let ⟨v82, g83, hF, hU, ho84⟩ := h; ⟨v82, g83, hF, hU, ho84.up hl⟩), trivial⟩⟩⟩⟩⟩, trivial⟩ rfl rfl ?_ (allB_cons (allB_cons (allB_cons (allB_cons (allB_cons (allB_cons (allB_cons (allB_cons (allB_cons (allB_cons (allB_cons (allB_cons allB_nil ?_) (p4 dA)) (p4 dA)) ?_) ?_) (p4 dA)) ?_) ?_) (p4 dA)) (p4 dA)) ?_) ?_) ?_
     ·exact rfl
     ·intro ρ' τ u Fv pq rs hl hI hu hd hq hw hk
      have hI0 := hI
      obtain rfl := hI
      refine o_lit (dk := (kI .i64)) (xs := ([] : List Int)) (ps := []) (cs := []) rfl rfl rfl z_slT31 z_zero3 trivial rfl rfl rfl rfl Kd.Many.nil (fun v39 g40 ho41 => ?_)
      refine st_ord [1, 0, 0] _ rfl ?_
      exact hk _ _ [g40] LR trivial (by exact ⟨v39, g40, rfl, rfl, ho41⟩)
     ·intro ρ' τ pq rs hl hd hq hw hk
      obtain ⟨_, e1, rfl⟩ := hd 1 rfl _ rfl
      obtain ⟨_, e2, rfl⟩ := hd 2 rfl _ rfl
      refine o_slice (L := 0) (H := s33) rfl rfl rfl z_slT31 rfl e1 (hs38.up hl) rfl ⟨_, e2⟩ (by decide) hf45 hf46 trivial (by simp) (fun v47 hs48 => ?_)
      exact hk _ _ LR ⟨v47, rfl, hs48⟩
     ·intro ρ' τ u Fv pq rs hl hI hu hd hq hw hk
      obtain ⟨_, e3, v47, rfl, hs48⟩ := hd 3 rfl _ rfl
      obtain ⟨v42, g43, rfl, rfl, ho44⟩ := hI
      refine st_ord [1, 0, 0] _ rfl ?_
      refine o_append (dk := (kI .i64)) (xs := ([] : List Int)) (ys := ((s16.1.drop (0 : Int).toNat).take ((s33 : Int) - 0).toNat)) rfl rfl rfl rfl z_slT31 (hu (by decide) _ rfl) ho44 e3 (Sl.src hs48) hf52 hf53 (fun v49 g50 ho51 => ?_)
      refine st_ord [1, 0, 0] _ rfl ?_
      exact hk _ _ [g50] LR trivial (by exact ⟨v49, g50, rfl, rfl, ho51⟩)
     ·intro ρ' τ pq rs hl hd hq hw hk
      obtain ⟨_, e5, rfl⟩ := hd 5 rfl _ rfl
      refine o_litE (eI .i64) [(q24.2.1.getD 0 0)] rfl rfl rfl z_slT31 z_zero3 ⟨rfl, ⟨_, e5, rfl⟩, trivial⟩ rfl rfl rfl rfl (fun v57 g58 ho59 => ?_)
      refine st_freeze (fun τ60 hl61 hg62 => ?_)
      have hs63 := ho59.freeze hl61 hg62
      exact hk _ _ hl61 ⟨v57, rfl, hs63⟩
     ·intro ρ' τ u Fv pq rs hl hI hu hd hq hw hk
      obtain ⟨_, e6, v57, rfl, hs63⟩ := hd 6 rfl _ rfl
      obtain ⟨v54, g55, rfl, rfl, ho56⟩ := hI
      refine st_ord [1, 0, 0] _ rfl ?_
      refine o_append (dk := (kI .i64)) (xs := (([] : List Int) ++ ((s16.1.drop (0 : Int).toNat).take ((s33 : Int) - 0).toNat))) (ys := [(q24.2.1.getD 0 0)]) rfl rfl rfl rfl z_slT31 (hu (by decide) _ rfl) ho56 e6 (Sl.src hs63) hf67 hf68 (fun v64 g65 ho66 => ?_)
      refine st_ord [1, 0, 0] _ rfl ?_
      exact hk _ _ [g65] LR trivial (by exact ⟨v64, g65, rfl, rfl, ho66⟩)
     ·intro ρ' τ pq rs hl hd hq hw hk
      obtain ⟨_, e8, rfl⟩ := hd 8 rfl _ rfl
      obtain ⟨_, e9, rfl⟩ := hd 9 rfl _ rfl
      refine o_slice (L := s33) (H := (s16.1.length : Int)) rfl rfl rfl z_slT31 rfl e8 (hs38.up hl) ⟨_, e9⟩ rfl hf72 hf73 hf74 trivial (by simp) (fun v75 hs76 => ?_)
      exact hk _ _ LR ⟨v75, rfl, hs76⟩
     ·intro ρ' τ u Fv pq rs hl hI hu hd hq hw hk
      obtain ⟨_, e10, v75, rfl, hs76⟩ := hd 10 rfl _ rfl
      obtain ⟨v69, g70, rfl, rfl, ho71⟩ := hI
      refine st_ord [1, 0, 0] _ rfl ?_
      refine o_append (dk := (kI .i64)) (xs := ((([] : List Int) ++ ((s16.1.drop (0 : Int).toNat).take ((s33 : Int) - 0).toNat)) ++ [(q24.2.1.getD 0 0)])) (ys := ((s16.1.drop s33.toNat).take (((s16.1.length : Int) : Int) - s33).toNat)) rfl rfl rfl rfl z_slT31 (hu (by decide) _ rfl) ho71 e10 (Sl.src hs76) hf80 hf81 (fun v77 g78 ho79 => ?_)
      refine st_ord [1, 0, 0] _ rfl ?_
      exact hk _ _ [g78] LR trivial (by exact ⟨v77, g78, rfl, rfl, ho79⟩)
     intro ρ' τ85 vals u Fv hl85 hI hu hv hq
     obtain ⟨v82, g83, rfl, rfl, ho84⟩ := hI
     refine st_env (ρ' := [(1, .Pb b5), (2, .N0), (4, .I s16.2), (58, v82)]) ⟨oT hq 1, oT hq 2, oT hq 4, (by exact hu _ rfl), trivial⟩ (Z 3 ?_)
     exact hk20 _ _ _ ⟨(((([] : List Int) ++ ((s16.1.drop (0 : Int).toNat).take ((s33 : Int) - 0).toNat)) ++ [(q24.2.1.getD 0 0)]) ++ ((s16.1.drop s33.toNat).take (((s16.1.length : Int) : Int) - s33).toNat)), _, _, h, (((hl33.trans hl34).trans hl36).trans hl85), rfl, rfl, ho84⟩
    ·refine Z 2 ?_
     exact hk20 _ _ _ ⟨s16.1, _, _, h, (hl33.trans hl34), rfl, rfl, (ho19.up (hl33.trans hl34))⟩
   refine Z 3 ?_
   refine o_lenO rfl rfl rfl z_slT31 rfl (ho19.up hl33) ?_
   refine o_ibin (v := .bool (decide (s33 = (s16.1.length : Int)))) rfl rfl rfl rfl rfl rfl ?_
   refine M2 h (fun h => ?_) (fun h => ?_)
   ·refine Z 8 ?_
    exact hk34 _ _ _ ⟨true, h, LR, rfl, rfl⟩
   ·refine Z 2 ?_
    obtain ⟨q86, hf87, h⟩ := h
    refine o_indexOw rfl rfl rfl z_slT31 rfl rfl (ho19.up hl33) rfl hf87 (fun b88 hb89 => ?_)
    obtain ⟨vs90, hrep91, hat92⟩ := Ow.at (ho19.up hl33) hb89 hf87
    obtain rfl := hrep91
    refine o_loadOw (off := 0) (j := 1) (v := .I q86) rfl rfl rfl z_sc3 rfl hat92 rfl rfl (Z 4 ?_)
    exact hk34 _ _ _ ⟨(!(decide (q86 = (q24.2.1.getD 0 0)))), h, LR, rfl, rfl⟩
  obtain ⟨e93, hL93, hA93⟩ := h
  refine st_loop hL93 (fun (s93 : Int) ρ τ93 gs => τ16.Le τ93 ∧ ESub ρ [(1, .Pb b5), (2, .N0), (3, v17), (4, .I s16.2), (5, .I (q24.2.1.getD 0 0)), (6, .I s93)] ∧ gs = [[(b5, .cells #[v1, v2] 28 (0, 0))], g18]) ⟨LR, rfl, rfl⟩ ?_
  rintro s93 o93 h he93 ρ93 τ93 gs93 ⟨hl93, hρ, rfl⟩ hn93
  refine st_es hρ (Z 2 ?_)
  refine cutS τ93 (fun (s94 : Bool) => ref30_Robots_j7 s93 s94 o93) (fun s94 => [(1, .Pb b5), (2, .N0), (3, v17), (4, .I s16.2), (5, .I (q24.2.1.getD 0 0)), (6, .I s93), (32, .bool s94)]) (fun s94 => [[(b5, .cells #[v1, v2] 28 (0, 0))], g18]) (fun s94 τ94 h hl94 => ?_) (fun hk94 => ?_)
  ·refine I2 h (fun h => ?_) (fun h => ?_)
   ·refine Z 8 ?_
    exact hn93 _ _ _ _ h ⟨(hl93.trans hl94), rfl, rfl⟩
   ·refine st_exit rfl ?_
    obtain rfl := he93 _ h
    replace h := hA93
    exact hk33 _ _ _ ⟨s93, h, (hl93.trans hl94), rfl, rfl⟩
  refine Z 3 ?_
  refine o_lenO rfl rfl rfl z_slT31 rfl (ho19.up hl93) ?_
  refine o_ibin (v := .bool (decide (s93 < (s16.1.length : Int)))) rfl rfl rfl rfl rfl rfl ?_
  refine M2 h (fun h => ?_) (fun h => ?_)
  ·refine Z 2 ?_
   obtain ⟨q95, hf96, h⟩ := h
   refine o_indexOw rfl rfl rfl z_slT31 rfl rfl (ho19.up hl93) rfl hf96 (fun b97 hb98 => ?_)
   obtain ⟨vs99, hrep100, hat101⟩ := Ow.at (ho19.up hl93) hb98 hf96
   obtain rfl := hrep100
   refine o_loadOw (off := 0) (j := 1) (v := .I q95) rfl rfl rfl z_sc3 rfl hat101 rfl rfl (Z 4 ?_)
   exact hk94 _ _ _ ⟨(decide (q95 < (q24.2.1.getD 0 0))), h, LR, rfl, rfl⟩
  ·refine Z 8 ?_
   exact hk94 _ _ _ ⟨false, h, LR, rfl, rfl⟩
 ·refine st_exit rfl ?_
  obtain rfl := he16 _ h
  replace h := hA16
  refine st_ord [1] _ rfl ?_
  exact hk6 _ _ _ ⟨s16.1, _, _, h, hl16, rfl, rfl, ho19⟩
theorem fleet_Fleet_Robots_1_ok {c0 : List (Int × (Int × Int × Int × Int × Int × Bool × Bool × Int × Int × List (Int × Int) × Int × Int)) × List ((Int × Int) × List Int)} {bc0 bp0 : Nat} {v1 : Value} {g2 : Grp} {v3 : Value} {g4 : Grp} {σ0 : Sto} (hc0_0 : Cel σ0 ⟨bc0, 0, none⟩ (.Pb bp0)) (ho5 : Mp (Value.int .i64) (rK (kP (kI .i64) (kP (kI .i64) (kP (kI .i64) (kP (kI .i64) (kP (kI .i64) (kP kB (kP kB (kP (kI .i64) (kP (kI .i64) (kP (kSl (kP (kI .i64) (kI .i64))) (kP (kI .i64) (kI .i64))))))))))))) σ0 v1 c0.1 g2) (ho6 : Mp kPr (rSl (kI .i64)) σ0 v3 c0.2 g4) :
    IterS prog (fun _ x vx => vx = [.I x]) (.func (.func 45) #[] [.Pb bc0].toArray) σ0 ((([(bp0, .cells [v1, v3].toArray 76 (0, 0))] ++ g2) ++ g4)) (fleet_Fleet_Robots_1 c0) := by
 intro S Y I y hyc hyo hIm hY s s' hR σ gR hle hIg
 obtain ⟨r, hr0⟩ : ∃ r, r = (s', ()) := ⟨_, rfl⟩
 rw [← hr0] at hR
 have h := hR
 obtain ⟨g, hG⟩ : ∃ g, g = (([(bp0, .cells #[v1, v3] 76 (0, 0))] ++ g2) ++ g4) ++ gR := ⟨_, rfl⟩
 rw [← hG] at hIg ⊢
 refine callV_of (caps := [.Pb bc0]) z_en45 ?_
 refine CO func45 ntmps45 rfl (fun cs fs => ?_)
 refine st_perm (gs' := [[(bp0, .cells #[v1, v3] 76 (0, 0))], g2, g4, gR]) (by subst hG; simp) (Z 4 ?_)
 refine o_loadI (v := .Pb bp0) rfl rfl rfl z_sc23 rfl (Cel.up hc0_0 hle) (Z 8 ?_)
 refine o_loadI (v := .Pb bp0) rfl rfl rfl z_sc23 rfl (Cel.up hc0_0 hle) (ZZ 3 [0] ?_)
 refine SC z_en47 (keys_does Tryz.keys47 (ho5.up hle)) ?_
 rintro _ τ7 _ hl8 ⟨b9, rfl, rfl, hc10⟩
 obtain ⟨hf13, hf14, h⟩ := h
 refine st_ord [1, 0, 0, 0] _ rfl ?_
 refine st_call (foot := [g2]) rfl rfl rfl rfl rfl rfl (callV_fn z_en46 (sorted_does Tryz.sorted46 Tryz.keys47 Tryz.sorts46 Tryz.enter67 Tryz.enter68 hc10 (ho5.up (hle.trans hl8)) hf13 hf14)) ?_
 rintro _ τ11 _ hl12 ⟨v15, g16, rfl, rfl, ho17⟩
 replace ho17 : Ow (kI .i64) 3 τ11 v15 (skeys c0.1) g16 := ho17
 refine o_lenO rfl rfl rfl z_slT31 rfl ho17 (Z 2 ?_)
 refine st_ord [2, 1, 1, 1, 0] _ rfl ?_
 refine st_perm (gs' := [g, g16]) (by subst hG; simp) ?_
 obtain ⟨e18, hL18, hA18⟩ := h
 refine st_ord [1, 0] _ rfl ?_
 refine st_loop hL18 (fun (s18 : S × Int) ρ τ18 gs => τ11.Le τ18 ∧ ∃ (g19 : Grp), ESub ρ [(0, y), (12, v15), (13, .I ((skeys c0.1).length : Int)), (14, .I s18.2)] ∧ gs = [g16, g19] ∧ I s18.1 τ18 g19) ⟨LR, g, rfl, rfl, (hIm _ _ _ _ (hl8.trans hl12) hIg)⟩ ?_
 rintro s18 o18 h he18 ρ18 τ18 gs18 ⟨hl18, g19, hρ, rfl, hI20⟩ hn18
 refine st_es hρ (Z 5 ?_)
 refine I2 h (fun h => ?_) (fun h => ?_)
 ·refine Z 5 ?_
  obtain ⟨q21, hf22, h⟩ := h
  refine o_indexOw rfl rfl rfl z_slT31 rfl rfl (ho17.up hl18) rfl hf22 (fun b23 hb24 => ?_)
  obtain ⟨vs25, hrep26, hat27⟩ := Ow.at (ho17.up hl18) hb24 hf22
  obtain rfl := hrep26
  refine o_loadOw (off := 0) (j := 0) (v := .I q21) rfl rfl rfl z_sc3 rfl hat27 rfl rfl (Z 6 ?_)
  obtain ⟨y28, u29, hy30, h⟩ := h
  refine st_ord [1, 0] _ rfl ?_
  refine st_call (foot := [g19]) rfl rfl rfl rfl rfl rfl (hY q21 s18.1 _ _ _ _ _ (hle.trans ((hl8.trans hl12).trans hl18)) hy30 rfl hI20) ?_
  rintro _ τ31 _ hl32 ⟨rfl, g33, rfl, hI34⟩
  refine Z 2 ?_
  refine I2 h (fun h => ?_) (fun h => ?_)
  ·refine Z 2 ?_
   refine st_ord [0] _ rfl ?_
   obtain rfl := he18 _ h
   replace h := hA18
   obtain rfl := Eq.symm h
   cases hr0
   exact st_fin (gs' := [g33]) func45 rfl (by simp) (((hl8.trans hl12).trans hl18).trans hl32) ⟨g33, rfl, hI34⟩
  ·refine Z 6 ?_
   refine st_ord [1, 0] _ rfl ?_
   exact hn18 _ _ _ _ h ⟨(hl18.trans hl32), g33, rfl, rfl, hI34⟩
 ·refine Z 2 ?_
  refine st_ord [1] _ rfl ?_
  obtain rfl := he18 _ h
  replace h := hA18
  obtain rfl := Eq.symm h
  cases hr0
  exact st_fin (gs' := [g19]) func45 rfl (by simp) ((hl8.trans hl12).trans hl18) ⟨g19, rfl, hI20⟩
theorem fleet_Fleet_Robots_ok {a0 : List (Int × (Int × Int × Int × Int × Int × Bool × Bool × Int × Int × List (Int × Int) × Int × Int)) × List ((Int × Int) × List Int)} {ba0 : Nat} {v1 : Value} {g2 : Grp} {v3 : Value} {g4 : Grp} {r : (((List (Int × (Int × Int × Int × Int × Int × Bool × Bool × Int × Int × List (Int × Int) × Int × Int)) × List ((Int × Int) × List Int)) → (S : Type) → (Int → S → Bool × S → Prop) → S → S × Unit → Prop))} (h : fleet_Fleet_Robots a0 r) (σ : Sto) (ho5 : Mp (Value.int .i64) (rK (kP (kI .i64) (kP (kI .i64) (kP (kI .i64) (kP (kI .i64) (kP (kI .i64) (kP kB (kP kB (kP (kI .i64) (kP (kI .i64) (kP (kSl (kP (kI .i64) (kI .i64))) (kP (kI .i64) (kI .i64))))))))))))) σ v1 a0.1 g2) (ho6 : Mp kPr (rSl (kI .i64)) σ v3 a0.2 g4) :
    Does prog 25 [.Pb ba0] σ [[(ba0, .cells [v1, v3].toArray 76 (0, 0))], g2, g4] (fun v τ gs => ∃ (f18 : Nat) (q19 : Array Value), gs = [[(ba0, .cells [v1, v3].toArray 76 (0, 0))], g2, g4] ∧ .func (.func f18) #[] q19 = v ∧ ∀ (x22 : K0) (v23 : Value) (g24 : Grp) (v25 : Value) (g26 : Grp) (σ21 : Sto), τ.Le σ21 → Mp (Value.int .i64) (rK (kP (kI .i64) (kP (kI .i64) (kP (kI .i64) (kP (kI .i64) (kP (kI .i64) (kP kB (kP kB (kP (kI .i64) (kP (kI .i64) (kP (kSl (kP (kI .i64) (kI .i64))) (kP (kI .i64) (kI .i64))))))))))))) σ21 v23 x22.1 g24 → Mp kPr (rSl (kI .i64)) σ21 v25 x22.2 g26 → IterS prog (fun _ x vx => vx = [.I x]) (.func (.func f18) #[] q19) σ21 (([(ba0, .cells [v23, v25].toArray 76 (0, 0))] ++ g24) ++ g26) (r x22)) := by
 refine CO func25 ntmps25 rfl (fun cs fs => Z 2 ?_)
 refine o_boxC rfl rfl rfl rfl rfl rfl (fun b7 => Z 4 ?_)
 refine st_freeze (fun τ8 hl9 hg10 => Z 3 ?_)
 obtain rfl := Eq.symm h
 exact st_ret (gs' := [[(ba0, .cells #[v1, v3] 76 (0, 0))], g2, g4]) func25 rfl (List.Sublist.refl _) hl9 ⟨_, _, rfl, rfl, (fun _ _ _ _ _ _ hl ho16 ho17 => fleet_Fleet_Robots_1_ok ((cel_of hg10 rfl).up hl) ho16 ho17)⟩
theorem fleet_Fleet_Robot_ok {a0 : List (Int × (Int × Int × Int × Int × Int × Bool × Bool × Int × Int × List (Int × Int) × Int × Int)) × List ((Int × Int) × List Int)} {a1 : Int} {ba0 : Nat} {v1 : Value} {g2 : Grp} {v3 : Value} {g4 : Grp} {r : (Int × Int × Int × Int × Int × Bool × Bool × Int × Int × List (Int × Int) × Int × Int) × Bool} (h : fleet_Fleet_Robot a0 a1 r) (σ : Sto) (ho5 : Mp (Value.int .i64) (rK (kP (kI .i64) (kP (kI .i64) (kP (kI .i64) (kP (kI .i64) (kP (kI .i64) (kP kB (kP kB (kP (kI .i64) (kP (kI .i64) (kP (kSl (kP (kI .i64) (kI .i64))) (kP (kI .i64) (kI .i64))))))))))))) σ v1 a0.1 g2) (ho6 : Mp kPr (rSl (kI .i64)) σ v3 a0.2 g4) :
    Does prog 15 [.Pb ba0, .I a1] σ [[(ba0, .cells [v1, v3].toArray 76 (0, 0))], g2, g4] (fun v τ gs => ∃ (v19 : Value), gs = [[(ba0, .cells [v1, v3].toArray 76 (0, 0))], g2, g4] ∧ .tuple [.agg [.I r.1.1, .I r.1.2.1, .I r.1.2.2.1, .I r.1.2.2.2.1, .I r.1.t4.1, .bool r.1.t4.2.1, .bool r.1.t4.2.2.1, .I r.1.t4.2.2.2.1, .I r.1.t4.t4.1, v19, .I r.1.t4.t4.2.2.1, .I r.1.t4.t4.2.2.2].toArray, .bool r.2].toArray = v ∧ Sl (kP (kI .i64) (kI .i64)) τ v19 r.1.t4.t4.2.1) := by
 refine CO func15 ntmps15 rfl (fun cs fs => Z 2 ?_)
 refine o_alloc rfl rfl rfl z_zero49 (fun b7 => ZZ 17 [1] ?_)
 refine o_lookR2 (rv := (rK (kP (kI .i64) (kP (kI .i64) (kP (kI .i64) (kP (kI .i64) (kP (kI .i64) (kP kB (kP kB (kP (kI .i64) (kP (kI .i64) (kP (kSl (kP (kI .i64) (kI .i64))) (kP (kI .i64) (kI .i64)))))))))))))) (q0 := (0, 0, 0, 0, 0, false, false, 0, 0, [], 0, 0)) (j := 2) (a := a1) rfl rfl rfl z_map73 (keyI underlying3) z_zeroV49 ⟨[.I 0, .I 0, .I 0, .I 0, .I 0, .bool false, .bool false, .I 0, .I 0, .N0, .I 0, .I 0], ⟨[.I 0], _, rfl, rfl, ⟨[.I 0], _, rfl, rfl, ⟨[.I 0], _, rfl, rfl, ⟨[.I 0], _, rfl, rfl, ⟨[.I 0], _, rfl, rfl, ⟨[.bool false], _, rfl, rfl, ⟨[.bool false], _, rfl, rfl, ⟨[.I 0], _, rfl, rfl, ⟨[.I 0], _, rfl, rfl, ⟨[.N0], _, rfl, ⟨_, rfl, Sl.nil⟩, ⟨[.I 0], _, rfl, rfl, rfl⟩⟩⟩⟩⟩⟩⟩⟩⟩⟩⟩, rfl⟩ rfl ho5 rfl rfl (fun v8 hv9 => ?_)
 obtain ⟨_, ⟨_, _, rfl, rfl, ⟨_, _, rfl, rfl, ⟨_, _, rfl, rfl, ⟨_, _, rfl, rfl, ⟨_, _, rfl, rfl, ⟨_, _, rfl, rfl, ⟨_, _, rfl, rfl, ⟨_, _, rfl, rfl, ⟨_, _, rfl, rfl, ⟨_, _, rfl, ⟨v10, rfl, hs11⟩, ⟨_, _, rfl, rfl, rfl⟩⟩⟩⟩⟩⟩⟩⟩⟩⟩⟩, rfl⟩ := hv9
 refine Z 3 ?_
 refine o_alloc rfl rfl rfl z_zero49 (fun b12 => ?_)
 refine o_store (j := 0) (vs := [.I (((mget a0.1 a1).getD (0, 0, 0, 0, 0, false, false, 0, 0, [], 0, 0)).1), .I (((mget a0.1 a1).getD (0, 0, 0, 0, 0, false, false, 0, 0, [], 0, 0)).2.1), .I (((mget a0.1 a1).getD (0, 0, 0, 0, 0, false, false, 0, 0, [], 0, 0)).2.2.1), .I (((mget a0.1 a1).getD (0, 0, 0, 0, 0, false, false, 0, 0, [], 0, 0)).2.2.2.1), .I (((mget a0.1 a1).getD (0, 0, 0, 0, 0, false, false, 0, 0, [], 0, 0)).t4.1), .bool (((mget a0.1 a1).getD (0, 0, 0, 0, 0, false, false, 0, 0, [], 0, 0)).t4.2.1), .bool (((mget a0.1 a1).getD (0, 0, 0, 0, 0, false, false, 0, 0, [], 0, 0)).t4.2.2.1), .I (((mget a0.1 a1).getD (0, 0, 0, 0, 0, false, false, 0, 0, [], 0, 0)).t4.2.2.2.1), .I (((mget a0.1 a1).getD (0, 0, 0, 0, 0, false, false, 0, 0, [], 0, 0)).t4.t4.1), v10, .I (((mget a0.1 a1).getD (0, 0, 0, 0, 0, false, false, 0, 0, [], 0, 0)).t4.t4.2.2.1), .I (((mget a0.1 a1).getD (0, 0, 0, 0, 0, false, false, 0, 0, [], 0, 0)).t4.t4.2.2.2)]) (cs' := [.I (((mget a0.1 a1).getD (0, 0, 0, 0, 0, false, false, 0, 0, [], 0, 0)).1), .I (((mget a0.1 a1).getD (0, 0, 0, 0, 0, false, false, 0, 0, [], 0, 0)).2.1), .I (((mget a0.1 a1).getD (0, 0, 0, 0, 0, false, false, 0, 0, [], 0, 0)).2.2.1), .I (((mget a0.1 a1).getD (0, 0, 0, 0, 0, false, false, 0, 0, [], 0, 0)).2.2.2.1), .I (((mget a0.1 a1).getD (0, 0, 0, 0, 0, false, false, 0, 0, [], 0, 0)).t4.1), .bool (((mget a0.1 a1).getD (0, 0, 0, 0, 0, false, false, 0, 0, [], 0, 0)).t4.2.1), .bool (((mget a0.1 a1).getD (0, 0, 0, 0, 0, false, false, 0, 0, [], 0, 0)).t4.2.2.1), .I (((mget a0.1 a1).getD (0, 0, 0, 0, 0, false, false, 0, 0, [], 0, 0)).t4.2.2.2.1), .I (((mget a0.1 a1).getD (0, 0, 0, 0, 0, false, false, 0, 0, [], 0, 0)).t4.t4.1), v10, .I (((mget a0.1 a1).getD (0, 0, 0, 0, 0, false, false, 0, 0, [], 0, 0)).t4.t4.2.2.1), .I (((mget a0.1 a1).getD (0, 0, 0, 0, 0, false, false, 0, 0, [], 0, 0)).t4.t4.2.2.2)]) rfl rfl rfl z_size49 rfl rfl rfl (o4 (o4 (ones_cons rfl (ones_cons hs11.one' (ones_cons rfl (ones_cons rfl ones_nil)))))) rfl rfl rfl (ZZ 6 [0] ?_)
 obtain ⟨r13, hr14, h⟩ := h
 refine SC z_en41 (slices_Clone_msg_Point_msg_Point_ok hr14 σ hs11) ?_
 rintro _ τ15 _ hl16 ⟨v17, rfl, rfl, hs18⟩
 refine o_fieldAddr rfl rfl rfl z_field49_9 rfl ?_
 refine o_store (j := 0) (vs := [v17]) (cs' := [.I (((mget a0.1 a1).getD (0, 0, 0, 0, 0, false, false, 0, 0, [], 0, 0)).1), .I (((mget a0.1 a1).getD (0, 0, 0, 0, 0, false, false, 0, 0, [], 0, 0)).2.1), .I (((mget a0.1 a1).getD (0, 0, 0, 0, 0, false, false, 0, 0, [], 0, 0)).2.2.1), .I (((mget a0.1 a1).getD (0, 0, 0, 0, 0, false, false, 0, 0, [], 0, 0)).2.2.2.1), .I (((mget a0.1 a1).getD (0, 0, 0, 0, 0, false, false, 0, 0, [], 0, 0)).t4.1), .bool (((mget a0.1 a1).getD (0, 0, 0, 0, 0, false, false, 0, 0, [], 0, 0)).t4.2.1), .bool (((mget a0.1 a1).getD (0, 0, 0, 0, 0, false, false, 0, 0, [], 0, 0)).t4.2.2.1), .I (((mget a0.1 a1).getD (0, 0, 0, 0, 0, false, false, 0, 0, [], 0, 0)).t4.2.2.2.1), .I (((mget a0.1 a1).getD (0, 0, 0, 0, 0, false, false, 0, 0, [], 0, 0)).t4.t4.1), v17, .I (((mget a0.1 a1).getD (0, 0, 0, 0, 0, false, false, 0, 0, [], 0, 0)).t4.t4.2.2.1), .I (((mget a0.1 a1).getD (0, 0, 0, 0, 0, false, false, 0, 0, [], 0, 0)).t4.t4.2.2.2)]) rfl rfl rfl z_size30 rfl rfl (oneL_sl hs18) (ones_cons hs18.one' ones_nil) rfl rfl rfl (ZZ 5 [0] ?_)
 refine o_store (j := 1) (vs := [.I (((mget a0.1 a1).getD (0, 0, 0, 0, 0, false, false, 0, 0, [], 0, 0)).1), .I (((mget a0.1 a1).getD (0, 0, 0, 0, 0, false, false, 0, 0, [], 0, 0)).2.1), .I (((mget a0.1 a1).getD (0, 0, 0, 0, 0, false, false, 0, 0, [], 0, 0)).2.2.1), .I (((mget a0.1 a1).getD (0, 0, 0, 0, 0, false, false, 0, 0, [], 0, 0)).2.2.2.1), .I (((mget a0.1 a1).getD (0, 0, 0, 0, 0, false, false, 0, 0, [], 0, 0)).t4.1), .bool (((mget a0.1 a1).getD (0, 0, 0, 0, 0, false, false, 0, 0, [], 0, 0)).t4.2.1), .bool (((mget a0.1 a1).getD (0, 0, 0, 0, 0, false, false, 0, 0, [], 0, 0)).t4.2.2.1), .I (((mget a0.1 a1).getD (0, 0, 0, 0, 0, false, false, 0, 0, [], 0, 0)).t4.2.2.2.1), .I (((mget a0.1 a1).getD (0, 0, 0, 0, 0, false, false, 0, 0, [], 0, 0)).t4.t4.1), v17, .I (((mget a0.1 a1).getD (0, 0, 0, 0, 0, false, false, 0, 0, [], 0, 0)).t4.t4.2.2.1), .I (((mget a0.1 a1).getD (0, 0, 0, 0, 0, false, false, 0, 0, [], 0, 0)).t4.t4.2.2.2)]) (cs' := [.I (((mget a0.1 a1).getD (0, 0, 0, 0, 0, false, false, 0, 0, [], 0, 0)).1), .I (((mget a0.1 a1).getD (0, 0, 0, 0, 0, false, false, 0, 0, [], 0, 0)).2.1), .I (((mget a0.1 a1).getD (0, 0, 0, 0, 0, false, false, 0, 0, [], 0, 0)).2.2.1), .I (((mget a0.1 a1).getD (0, 0, 0, 0, 0, false, false, 0, 0, [], 0, 0)).2.2.2.1), .I (((mget a0.1 a1).getD (0, 0, 0, 0, 0, false, false, 0, 0, [], 0, 0)).t4.1), .bool (((mget a0.1 a1).getD (0, 0, 0, 0, 0, false, false, 0, 0, [], 0, 0)).t4.2.1), .bool (((mget a0.1 a1).getD (0, 0, 0, 0, 0, false, false, 0, 0, [], 0, 0)).t4.2.2.1), .I (((mget a0.1 a1).getD (0, 0, 0, 0, 0, false, false, 0, 0, [], 0, 0)).t4.2.2.2.1), .I (((mget a0.1 a1).getD (0, 0, 0, 0, 0, false, false, 0, 0, [], 0, 0)).t4.t4.1), v17, .I (((mget a0.1 a1).getD (0, 0, 0, 0, 0, false, false, 0, 0, [], 0, 0)).t4.t4.2.2.1), .I (((mget a0.1 a1).getD (0, 0, 0, 0, 0, false, false, 0, 0, [], 0, 0)).t4.t4.2.2.2)]) rfl rfl rfl z_size49 rfl rfl rfl (o4 (o4 (ones_cons rfl (ones_cons hs18.one' (ones_cons rfl (ones_cons rfl ones_nil)))))) rfl rfl rfl (Z 2 ?_)
 refine st_ord [2, 2, 2, 0, 0] _ rfl ?_
 obtain rfl := Eq.symm h
 exact st_retC (gs' := [[(ba0, .cells #[v1, v3] 76 (0, 0))], g2, g4]) [.agg #[.I (((mget a0.1 a1).getD (0, 0, 0, 0, 0, false, false, 0, 0, [], 0, 0)).1), .I (((mget a0.1 a1).getD (0, 0, 0, 0, 0, false, false, 0, 0, [], 0, 0)).2.1), .I (((mget a0.1 a1).getD (0, 0, 0, 0, 0, false, false, 0, 0, [], 0, 0)).2.2.1), .I (((mget a0.1 a1).getD (0, 0, 0, 0, 0, false, false, 0, 0, [], 0, 0)).2.2.2.1), .I (((mget a0.1 a1).getD (0, 0, 0, 0, 0, false, false, 0, 0, [], 0, 0)).t4.1), .bool (((mget a0.1 a1).getD (0, 0, 0, 0, 0, false, false, 0, 0, [], 0, 0)).t4.2.1), .bool (((mget a0.1 a1).getD (0, 0, 0, 0, 0, false, false, 0, 0, [], 0, 0)).t4.2.2.1), .I (((mget a0.1 a1).getD (0, 0, 0, 0, 0, false, false, 0, 0, [], 0, 0)).t4.2.2.2.1), .I (((mget a0.1 a1).getD (0, 0, 0, 0, 0, false, false, 0, 0, [], 0, 0)).t4.t4.1), v17, .I (((mget a0.1 a1).getD (0, 0, 0, 0, 0, false, false, 0, 0, [], 0, 0)).t4.t4.2.2.1), .I (((mget a0.1 a1).getD (0, 0, 0, 0, 0, false, false, 0, 0, [], 0, 0)).t4.t4.2.2.2)], .bool ((mget a0.1 a1).isSome)] func15 ⟨cN 4 z_agg49, rfl, trivial⟩ (by simp) hl16 ⟨_, rfl, rfl, hs18⟩
theorem ref30_Robot_ok {a0 : List (TyR) × List (Int × Int × List Int)} {a1 : Int} {v1 v2 : Value} {r : (Int × Int × Int × Int × Int × Bool × Bool × Int × Int × List (List Int) × Int × Int)} (h : ref30_Robot a0 a1 r) (σ : Sto) (hs3 : Sl (kP (kI .i64) (kP (kA .i64 6) (kP (kSl (kA .i64 2)) (kP (kSl (kI .i64)) (kP kS kS))))) σ v1 a0.1) (hs4 : Sl (kP (kI .i64) (kP (kI .i64) (kSl (kI .i64)))) σ v2 a0.2) :
    Does prog 18 [.agg [v1, v2].toArray, .I a1] σ [] (fun v τ gs => ∃ (v32 : Value), gs = [] ∧ .agg [.I r.1, .I r.2.1, .I r.2.2.1, .I r.2.2.2.1, .I r.t4.1, .bool r.t4.2.1, .bool r.t4.2.2.1, .I r.t4.2.2.2.1, .I r.t4.t4.1, v32, .I r.t4.t4.2.2.1, .I r.t4.t4.2.2.2].toArray = v ∧ Sl (kA .i64 2) τ v32 r.t4.t4.2.1) := by
 refine CO func18 ntmps18 rfl (fun cs fs => Z 2 ?_)
 refine o_box (cs := [v1, v2]) rfl rfl rfl rfl rfl (fun b5 => ?_)
 refine o_alloc rfl rfl rfl z_zero55 (fun b6 => Z 3 ?_)
 refine o_alloc rfl rfl rfl z_zero55 (fun b7 => Z 2 ?_)
 refine st_cut (fun ρ τ8 gs => ∃ (s8 : K6) (v9 : Value), ref30_Robot_j1 s8 r ∧ σ.Le τ8 ∧ ESub ρ [(4, .Pb b6), (5, .Pb b7)] ∧ gs = [[(b6, .cells #[.I 0, .I 0, .I 0, .I 0, .I 0, .bool false, .bool false, .I 0, .I 0, .N0, .I 0, .I 0] 55 (0, 0))], [(b7, .cells #[.I s8.1, .I s8.2.1, .I s8.2.2.1, .I s8.2.2.2.1, .I s8.t4.1, .bool s8.t4.2.1, .bool s8.t4.2.2.1, .I s8.t4.2.2.2.1, .I s8.t4.t4.1, v9, .I s8.t4.t4.2.2.1, .I s8.t4.t4.2.2.2] 55 (0, 0))]] ∧ Sl (kA .i64 2) τ8 v9 s8.t4.t4.2.1) ?_ (fun hk8 => ?_)
 ·rintro ρ8 τ8 gs8 ⟨s8, v9, h, hl8, hρ, rfl, hs10⟩
  refine st_es hρ (ZZ 3 [1] ?_)
  refine o_store (j := 0) (vs := [.I s8.1, .I s8.2.1, .I s8.2.2.1, .I s8.2.2.2.1, .I s8.t4.1, .bool s8.t4.2.1, .bool s8.t4.2.2.1, .I s8.t4.2.2.2.1, .I s8.t4.t4.1, v9, .I s8.t4.t4.2.2.1, .I s8.t4.t4.2.2.2]) (cs' := [.I s8.1, .I s8.2.1, .I s8.2.2.1, .I s8.2.2.2.1, .I s8.t4.1, .bool s8.t4.2.1, .bool s8.t4.2.2.1, .I s8.t4.2.2.2.1, .I s8.t4.t4.1, v9, .I s8.t4.t4.2.2.1, .I s8.t4.t4.2.2.2]) rfl rfl rfl z_size55 rfl rfl rfl (o4 (o4 (ones_cons rfl (ones_cons hs10.one' (ones_cons rfl (ones_cons rfl ones_nil)))))) rfl rfl rfl ?_
  refine st_end ?_
  obtain rfl := h.symm
  exact RC [.agg #[.I s8.1, .I s8.2.1, .I s8.2.2.1, .I s8.2.2.2.1, .I s8.t4.1, .bool s8.t4.2.1, .bool s8.t4.2.2.1, .I s8.t4.2.2.2.1, .I s8.t4.t4.1, v9, .I s8.t4.t4.2.2.1, .I s8.t4.t4.2.2.2]] func18 ⟨cN 0 z_agg55, trivial⟩ hl8 ⟨_, rfl, rfl, hs10⟩
 refine Z 4 ?_
 obtain ⟨e11, hL11, hA11⟩ := h
 refine st_ord [2, 1, 0] _ rfl ?_
 refine st_loop hL11 (fun (s11 : K24) ρ τ11 gs => σ.Le τ11 ∧ ∃ (v12 : Value), ESub ρ [(1, .I a1), (2, .Pb b5), (4, .Pb b6), (5, .Pb b7), (6, .I s11.1)] ∧ gs = [[(b5, .cells #[v1, v2] 28 (0, 0))], [(b6, .cells #[.I 0, .I 0, .I 0, .I 0, .I 0, .bool false, .bool false, .I 0, .I 0, .N0, .I 0, .I 0] 55 (0, 0))], [(b7, .cells #[.I s11.2.1, .I s11.2.2.1, .I s11.2.2.2.1, .I s11.t4.1, .I s11.t4.2.1, .bool s11.t4.2.2.1, .bool s11.t4.2.2.2.1, .I s11.t4.t4.1, .I s11.t4.t4.2.1, v12, .I s11.t4.t4.2.2.2.1, .I s11.t4.t4.t4] 55 (0, 0))]] ∧ Sl (kA .i64 2) τ11 v12 s11.t4.t4.2.2.1) ⟨LR, _, rfl, rfl, Sl.nil⟩ ?_
 rintro s11 o11 h he11 ρ11 τ11 gs11 ⟨hl11, v12, hρ, rfl, hs13⟩ hn11
 refine st_es hρ (ZZ 6 [0] ?_)
 refine o_lenI rfl rfl rfl z_slT25 rfl (hs3.up hl11) (Z 2 ?_)
 refine I2 h (fun h => ?_) (fun h => ?_)
 ·refine Z 2 ?_
  refine st_cut (fun ρ τ14 gs => ∃ (s14 : K6) (v15 : Value), ref30_Robot_j3 s11 s14 o11 ∧ τ11.Le τ14 ∧ ESub ρ [(1, .I a1), (2, .Pb b5), (4, .Pb b6), (5, .Pb b7), (6, .I s11.1)] ∧ gs = [[(b5, .cells #[v1, v2] 28 (0, 0))], [(b6, .cells #[.I 0, .I 0, .I 0, .I 0, .I 0, .bool false, .bool false, .I 0, .I 0, .N0, .I 0, .I 0] 55 (0, 0))], [(b7, .cells #[.I s14.1, .I s14.2.1, .I s14.2.2.1, .I s14.2.2.2.1, .I s14.t4.1, .bool s14.t4.2.1, .bool s14.t4.2.2.1, .I s14.t4.2.2.2.1, .I s14.t4.t4.1, v15, .I s14.t4.t4.2.2.1, .I s14.t4.t4.2.2.2] 55 (0, 0))]] ∧ Sl (kA .i64 2) τ14 v15 s14.t4.t4.2.1) ?_ (fun hk14 => ?_)
  ·rintro ρ14 τ14 gs14 ⟨s14, v15, h, hl14, hρ, rfl, hs16⟩
   refine st_es hρ (Z 5 ?_)
   exact hn11 _ _ _ _ h ⟨(hl11.trans hl14), _, rfl, rfl, hs16⟩
  refine ZZ 6 [0] ?_
  obtain ⟨q17, hf18, h⟩ := h
  refine o_index rfl rfl rfl z_slT25 rfl rfl (hs3.up hl11) rfl hf18 (fun b19 of20 vs hc23 hrep => ?_)
  obtain ⟨_, _, rfl, rfl, ⟨_, _, rfl, rfl, ⟨_, _, rfl, ⟨v21, rfl, hs24⟩, ⟨_, _, rfl, ⟨v22, rfl, hs25⟩, ⟨_, _, rfl, rfl, rfl⟩⟩⟩⟩⟩ := hrep
  refine o_loadIN (vs := (lM q17 v21 v22)) rfl rfl rfl z_agg41 rfl rfl (celn_part 0 rfl hc23) ?_
  refine o_alloc rfl rfl rfl z_zero41 (fun b26 => ?_)
  refine o_store (j := 0) (vs := (lM q17 v21 v22)) (cs' := (lM q17 v21 v22)) rfl rfl rfl z_size41 rfl rfl rfl (o4 (ones_cons rfl (ones_cons rfl (ones_cons rfl (ones_cons hs24.one' (ones_cons hs25.one' (ones_cons rfl (ones_cons rfl ones_nil)))))))) rfl rfl rfl (Z 5 ?_)
  refine o_indexA rfl rfl rfl z_arr29 rfl rfl (by decide) (by decide) (ZZ 4 [0] ?_)
  refine I2 h (fun h => ?_) (fun h => ?_)
  ·refine st_exit rfl ?_
   refine st_ord [1, 1, 1] _ rfl ?_
   exact hk14 _ _ _ ⟨(s11.2.1, s11.2.2.1, s11.2.2.2.1, s11.t4.1, s11.t4.2.1, s11.t4.2.2.1, s11.t4.2.2.2.1, s11.t4.t4.1, s11.t4.t4.2.1, s11.t4.t4.2.2.1, s11.t4.t4.2.2.2.1, s11.t4.t4.t4), _, h, LR, rfl, rfl, hs13⟩
  ·refine ZZ 12 [0] ?_
   refine I2 h (fun h => ?_) (fun h => ?_)
   ·refine st_d41 [[(b26, .cells (lM q17 v21 v22).toArray 41 (0, 0))], [(b5, .cells #[v1, v2] 28 (0, 0))], [(b6, .cells #[.I 0, .I 0, .I 0, .I 0, .I 0, .bool false, .bool false, .I 0, .I 0, .N0, .I 0, .I 0] 55 (0, 0))]] [[(b7, .cells #[.I s11.2.1, .I s11.2.2.1, .I s11.2.2.2.1, .I s11.t4.1, .I s11.t4.2.1, .bool s11.t4.2.2.1, .bool s11.t4.2.2.2.1, .I s11.t4.t4.1, .I s11.t4.t4.2.1, v12, .I s11.t4.t4.2.2.2.1, .I s11.t4.t4.t4] 55 (0, 0))]] 8 3 [none, none, none, some (0, 0), none, some (0, 1), none, some (0, 2)] [none, none, none, none, none, none, none, none] [[none, none, none, none]] [.v (.pointer (some ⟨b26, 7, none⟩)), .v (v21), .v (.pointer (some ⟨b7, 6, none⟩)), .t fun _ _ => True, .v (.pointer (some ⟨b7, 7, none⟩)), .t fun _ _ => True, .v (.pointer (some ⟨b7, 8, none⟩)), .t fun _ _ => True] [[fun τ u F => F = [[(b7, .cells #[.I s11.2.1, .I s11.2.2.1, .I s11.2.2.2.1, .I s11.t4.1, .I s11.t4.2.1, .bool s11.t4.2.2.1, .bool s11.t4.2.2.2.1, .I s11.t4.t4.1, .I s11.t4.t4.2.1, v12, .I s11.t4.t4.2.2.2.1, .I s11.t4.t4.t4] 55 (0, 0))]], fun τ u F => F = [[(b7, .cells #[.I s11.2.1, .I s11.2.2.1, .I s11.2.2.2.1, .I s11.t4.1, .I s11.t4.2.1, .bool s11.t4.2.2.1, .bool false, .I s11.t4.t4.1, .I s11.t4.t4.2.1, v12, .I s11.t4.t4.2.2.2.1, .I s11.t4.t4.t4] 55 (0, 0))]], fun τ u F => F = [[(b7, .cells #[.I s11.2.1, .I s11.2.2.1, .I s11.2.2.2.1, .I s11.t4.1, .I s11.t4.2.1, .bool s11.t4.2.2.1, .bool false, .I 0, .I s11.t4.t4.2.1, v12, .I s11.t4.t4.2.2.2.1, .I s11.t4.t4.t4] 55 (0, 0))]], fun τ u F => F = [[(b7, .cells #[.I s11.2.1, .I s11.2.2.1, .I s11.2.2.2.1, .I s11.t4.1, .I s11.t4.2.1, .bool s11.t4.2.2.1, .bool false, .I 0, .I 0, v12, .I s11.t4.t4.2.2.2.1, .I s11.t4.t4.t4] 55 (0, 0))]]]] rfl z_mix rfl ⟨fun _ _ _ _ _ => trivial, ⟨fun _ _ _ _ _ => trivial, ⟨fun _ _ _ _ _ => trivial, trivial⟩⟩⟩ ⟨⟨fun _ _ _ _ hl h => h, ⟨fun _ _ _ _ hl h => h, ⟨fun _ _ _ _ hl h => h, ⟨fun _ _ _ _ hl h => h, trivial⟩⟩⟩⟩, trivial⟩ rfl rfl ?_ (allB_cons (allB_cons (allB_cons (allB_cons (allB_cons (allB_cons (allB_cons (allB_cons allB_nil (p4 dA)) ?_) (p4 dA)) ?_) (p4 dA)) ?_) (p4 dA)) ?_) ?_
    ·exact rfl
    ·intro ρ' τ pq rs hl hd hq hw hk
     obtain ⟨_, e0, rfl⟩ := hd 0 rfl _ rfl
     refine o_load (j := 0) (v := v21) rfl rfl rfl z_sc39 e0 rfl rfl ?_
     exact hk _ _ LR rfl
    ·intro ρ' τ u Fv pq rs hl hI hu hd hq hw hk
     obtain ⟨_, e2, rfl⟩ := hd 2 rfl _ rfl
     have hI0 := hI
     obtain rfl := hI
     refine o_store (j := 3) (vs := [.bool false]) (cs' := [.I s11.2.1, .I s11.2.2.1, .I s11.2.2.2.1, .I s11.t4.1, .I s11.t4.2.1, .bool s11.t4.2.2.1, .bool false, .I s11.t4.t4.1, .I s11.t4.t4.2.1, v12, .I s11.t4.t4.2.2.2.1, .I s11.t4.t4.t4]) rfl rfl rfl z_size4 e2 rfl rfl (ones_cons rfl ones_nil) rfl rfl rfl ?_
     exact hk _ _ [[(b7, .cells #[.I s11.2.1, .I s11.2.2.1, .I s11.2.2.2.1, .I s11.t4.1, .I s11.t4.2.1, .bool s11.t4.2.2.1, .bool false, .I s11.t4.t4.1, .I s11.t4.t4.2.1, v12, .I s11.t4.t4.2.2.2.1, .I s11.t4.t4.t4] 55 (0, 0))]] LR trivial (by exact rfl)
    ·intro ρ' τ u Fv pq rs hl hI hu hd hq hw hk
     obtain ⟨_, e4, rfl⟩ := hd 4 rfl _ rfl
     have hI0 := hI
     obtain rfl := hI
     refine o_store (j := 3) (vs := [.I 0]) (cs' := [.I s11.2.1, .I s11.2.2.1, .I s11.2.2.2.1, .I s11.t4.1, .I s11.t4.2.1, .bool s11.t4.2.2.1, .bool false, .I 0, .I s11.t4.t4.2.1, v12, .I s11.t4.t4.2.2.2.1, .I s11.t4.t4.t4]) rfl rfl rfl z_size3 e4 rfl rfl (ones_cons rfl ones_nil) rfl rfl rfl ?_
     exact hk _ _ [[(b7, .cells #[.I s11.2.1, .I s11.2.2.1, .I s11.2.2.2.1, .I s11.t4.1, .I s11.t4.2.1, .bool s11.t4.2.2.1, .bool false, .I 0, .I s11.t4.t4.2.1, v12, .I s11.t4.t4.2.2.2.1, .I s11.t4.t4.t4] 55 (0, 0))]] LR trivial (by exact rfl)
    ·intro ρ' τ u Fv pq rs hl hI hu hd hq hw hk
     obtain ⟨_, e6, rfl⟩ := hd 6 rfl _ rfl
     have hI0 := hI
     obtain rfl := hI
     refine o_store (j := 3) (vs := [.I 0]) (cs' := [.I s11.2.1, .I s11.2.2.1, .I s11.2.2.2.1, .I s11.t4.1, .I s11.t4.2.1, .bool s11.t4.2.2.1, .bool false, .I 0, .I 0, v12, .I s11.t4.t4.2.2.2.1, .I s11.t4.t4.t4]) rfl rfl rfl z_size3 e6 rfl rfl (ones_cons rfl ones_nil) rfl rfl rfl ?_
     exact hk _ _ [[(b7, .cells #[.I s11.2.1, .I s11.2.2.1, .I s11.2.2.2.1, .I s11.t4.1, .I s11.t4.2.1, .bool s11.t4.2.2.1, .bool false, .I 0, .I 0, v12, .I s11.t4.t4.2.2.2.1, .I s11.t4.t4.t4] 55 (0, 0))]] LR trivial (by exact rfl)
    intro ρ' τ27 vals u Fv hl27 hI hu hv hq
    obtain rfl := hI
    refine st_env (ρ' := [(30, v21), (1, .I a1), (2, .Pb b5), (4, .Pb b6), (5, .Pb b7), (6, .I s11.1)]) ⟨(lv4 hv 1 rfl rfl rfl), oT hq 1, oT hq 2, oT hq 4, oT hq 5, oT hq 6, trivial⟩ ?_
    refine o_fieldAddr rfl rfl rfl z_field55_9 rfl ?_
    refine o_store (j := 3) (vs := [v21]) (cs' := [.I s11.2.1, .I s11.2.2.1, .I s11.2.2.2.1, .I s11.t4.1, .I s11.t4.2.1, .bool s11.t4.2.2.1, .bool false, .I 0, .I 0, v21, .I s11.t4.t4.2.2.2.1, .I s11.t4.t4.t4]) rfl rfl rfl z_size39 rfl rfl (oneL_sl (hs24.up hl27)) (ones_cons (hs24.up hl27).one' ones_nil) rfl rfl rfl (Z 3 ?_)
    refine st_ord [1, 1, 1] _ rfl ?_
    exact hk14 _ _ _ ⟨(s11.2.1, s11.2.2.1, s11.2.2.2.1, s11.t4.1, s11.t4.2.1, s11.t4.2.2.1, false, 0, 0, q17.2.2.1, s11.t4.t4.2.2.2.1, s11.t4.t4.t4), _, h, hl27, rfl, rfl, (hs24.up hl27)⟩
   ·refine Z 5 ?_
    refine I2 h (fun h => ?_) (fun h => ?_)
    ·refine st_d41 [[(b26, .cells (lM q17 v21 v22).toArray 41 (0, 0))], [(b5, .cells #[v1, v2] 28 (0, 0))], [(b6, .cells #[.I 0, .I 0, .I 0, .I 0, .I 0, .bool false, .bool false, .I 0, .I 0, .N0, .I 0, .I 0] 55 (0, 0))]] [[(b7, .cells #[.I s11.2.1, .I s11.2.2.1, .I s11.2.2.2.1, .I s11.t4.1, .I s11.t4.2.1, .bool s11.t4.2.2.1, .bool s11.t4.2.2.2.1, .I s11.t4.t4.1, .I s11.t4.t4.2.1, v12, .I s11.t4.t4.2.2.2.1, .I s11.t4.t4.t4] 55 (0, 0))]] 10 2 [none, none, none, none, none, none, none, some (0, 0), none, some (0, 1)] [none, none, none, none, none, none, none, none, none, none] [[none, none, none]] [.v (.pointer (some ⟨b26, 1, none⟩)), .v (.pointer (some ⟨b26, 2, none⟩)), .v (.I (q17.2.1.getD 1 0)), .v (.pointer (some ⟨b26, 1, none⟩)), .v (.pointer (some ⟨b26, 3, none⟩)), .v (.I (q17.2.1.getD 2 0)), .v (.pointer (some ⟨b7, 6, none⟩)), .t fun _ _ => True, .v (.pointer (some ⟨b7, 7, none⟩)), .t fun _ _ => True] [[fun τ u F => F = [[(b7, .cells #[.I s11.2.1, .I s11.2.2.1, .I s11.2.2.2.1, .I s11.t4.1, .I s11.t4.2.1, .bool s11.t4.2.2.1, .bool s11.t4.2.2.2.1, .I s11.t4.t4.1, .I s11.t4.t4.2.1, v12, .I s11.t4.t4.2.2.2.1, .I s11.t4.t4.t4] 55 (0, 0))]], fun τ u F => F = [[(b7, .cells #[.I s11.2.1, .I s11.2.2.1, .I s11.2.2.2.1, .I s11.t4.1, .I s11.t4.2.1, .bool s11.t4.2.2.1, .bool true, .I s11.t4.t4.1, .I s11.t4.t4.2.1, v12, .I s11.t4.t4.2.2.2.1, .I s11.t4.t4.t4] 55 (0, 0))]], fun τ u F => F = [[(b7, .cells #[.I s11.2.1, .I s11.2.2.1, .I s11.2.2.2.1, .I s11.t4.1, .I s11.t4.2.1, .bool s11.t4.2.2.1, .bool true, .I (q17.2.1.getD 1 0), .I s11.t4.t4.2.1, v12, .I s11.t4.t4.2.2.2.1, .I s11.t4.t4.t4] 55 (0, 0))]]]] rfl z_mix rfl ⟨fun _ _ _ _ _ => trivial, ⟨fun _ _ _ _ _ => trivial, trivial⟩⟩ ⟨⟨fun _ _ _ _ hl h => h, ⟨fun _ _ _ _ hl h => h, ⟨fun _ _ _ _ hl h => h, trivial⟩⟩⟩, trivial⟩ rfl rfl ?_ (allB_cons (allB_cons (allB_cons (allB_cons (allB_cons (allB_cons (allB_cons (allB_cons (allB_cons (allB_cons allB_nil (p4 dA)) ?_) ?_) (p4 dA)) ?_) ?_) (p4 dA)) ?_) (p4 dA)) ?_) ?_
     ·exact rfl
     ·intro ρ' τ pq rs hl hd hq hw hk
      obtain ⟨_, e0, rfl⟩ := hd 0 rfl _ rfl
      refine o_indexA rfl rfl rfl z_arr29 e0 rfl (by decide) (by decide) ?_
      exact hk _ _ LR rfl
     ·intro ρ' τ pq rs hl hd hq hw hk
      obtain ⟨_, e1, rfl⟩ := hd 1 rfl _ rfl
      refine o_load (j := 0) (v := .I (q17.2.1.getD 1 0)) rfl rfl rfl z_sc3 e1 rfl rfl ?_
      exact hk _ _ LR rfl
     ·intro ρ' τ pq rs hl hd hq hw hk
      obtain ⟨_, e3, rfl⟩ := hd 3 rfl _ rfl
      refine o_indexA rfl rfl rfl z_arr29 e3 rfl (by decide) (by decide) ?_
      exact hk _ _ LR rfl
     ·intro ρ' τ pq rs hl hd hq hw hk
      obtain ⟨_, e4, rfl⟩ := hd 4 rfl _ rfl
      refine o_load (j := 0) (v := .I (q17.2.1.getD 2 0)) rfl rfl rfl z_sc3 e4 rfl rfl ?_
      exact hk _ _ LR rfl
     ·intro ρ' τ u Fv pq rs hl hI hu hd hq hw hk
      obtain ⟨_, e6, rfl⟩ := hd 6 rfl _ rfl
      have hI0 := hI
      obtain rfl := hI
      refine o_store (j := 3) (vs := [.bool true]) (cs' := [.I s11.2.1, .I s11.2.2.1, .I s11.2.2.2.1, .I s11.t4.1, .I s11.t4.2.1, .bool s11.t4.2.2.1, .bool true, .I s11.t4.t4.1, .I s11.t4.t4.2.1, v12, .I s11.t4.t4.2.2.2.1, .I s11.t4.t4.t4]) rfl rfl rfl z_size4 e6 rfl rfl (ones_cons rfl ones_nil) rfl rfl rfl ?_
      exact hk _ _ [[(b7, .cells #[.I s11.2.1, .I s11.2.2.1, .I s11.2.2.2.1, .I s11.t4.1, .I s11.t4.2.1, .bool s11.t4.2.2.1, .bool true, .I s11.t4.t4.1, .I s11.t4.t4.2.1, v12, .I s11.t4.t4.2.2.2.1, .I s11.t4.t4.t4] 55 (0, 0))]] LR trivial (by exact rfl)
     ·intro ρ' τ u Fv pq rs hl hI hu hd hq hw hk
      obtain ⟨_, e2, rfl⟩ := hd 2 rfl _ rfl
      obtain ⟨_, e8, rfl⟩ := hd 8 rfl _ rfl
      have hI0 := hI
      obtain rfl := hI
      refine o_store (j := 3) (vs := [.I (q17.2.1.getD 1 0)]) (cs' := [.I s11.2.1, .I s11.2.2.1, .I s11.2.2.2.1, .I s11.t4.1, .I s11.t4.2.1, .bool s11.t4.2.2.1, .bool true, .I (q17.2.1.getD 1 0), .I s11.t4.t4.2.1, v12, .I s11.t4.t4.2.2.2.1, .I s11.t4.t4.t4]) rfl rfl rfl z_size3 e8 e2 rfl (ones_cons rfl ones_nil) rfl rfl rfl ?_
      exact hk _ _ [[(b7, .cells #[.I s11.2.1, .I s11.2.2.1, .I s11.2.2.2.1, .I s11.t4.1, .I s11.t4.2.1, .bool s11.t4.2.2.1, .bool true, .I (q17.2.1.getD 1 0), .I s11.t4.t4.2.1, v12, .I s11.t4.t4.2.2.2.1, .I s11.t4.t4.t4] 55 (0, 0))]] LR trivial (by exact rfl)
     intro ρ' τ28 vals u Fv hl28 hI hu hv hq
     obtain rfl := hI
     refine st_env (ρ' := [(42, .I (q17.2.1.getD 2 0)), (1, .I a1), (2, .Pb b5), (4, .Pb b6), (5, .Pb b7), (6, .I s11.1)]) ⟨(lv4 hv 5 rfl rfl rfl), oT hq 1, oT hq 2, oT hq 4, oT hq 5, oT hq 6, trivial⟩ (ZZ 7 [3, 3] ?_)
     refine st_ord [1, 1, 1] _ rfl ?_
     exact hk14 _ _ _ ⟨(s11.2.1, s11.2.2.1, s11.2.2.2.1, s11.t4.1, s11.t4.2.1, s11.t4.2.2.1, true, (q17.2.1.getD 1 0), (q17.2.1.getD 2 0), [], s11.t4.t4.2.2.2.1, s11.t4.t4.t4), _, h, hl28, rfl, rfl, Sl.nil⟩
    ·refine Z 5 ?_
     refine I2 h (fun h => ?_) (fun h => ?_)
     ·refine st_d41 [[(b26, .cells (lM q17 v21 v22).toArray 41 (0, 0))], [(b5, .cells #[v1, v2] 28 (0, 0))], [(b6, .cells #[.I 0, .I 0, .I 0, .I 0, .I 0, .bool false, .bool false, .I 0, .I 0, .N0, .I 0, .I 0] 55 (0, 0))]] [[(b7, .cells #[.I s11.2.1, .I s11.2.2.1, .I s11.2.2.2.1, .I s11.t4.1, .I s11.t4.2.1, .bool s11.t4.2.2.1, .bool s11.t4.2.2.2.1, .I s11.t4.t4.1, .I s11.t4.t4.2.1, v12, .I s11.t4.t4.2.2.2.1, .I s11.t4.t4.t4] 55 (0, 0))]] 23 4 [none, none, none, none, none, none, none, none, none, none, none, none, none, none, none, none, some (0, 0), none, some (0, 1), none, some (0, 2), none, some (0, 3)] [none, none, none, none, none, none, none, none, none, none, none, none, none, none, none, none, none, none, none, none, none, none, none] [[none, none, none, none, none]] [.v (.pointer (some ⟨b26, 1, none⟩)), .v (.pointer (some ⟨b26, 2, none⟩)), .v (.I (q17.2.1.getD 1 0)), .v (.pointer (some ⟨b26, 1, none⟩)), .v (.pointer (some ⟨b26, 3, none⟩)), .v (.I (q17.2.1.getD 2 0)), .v (.pointer (some ⟨b26, 1, none⟩)), .v (.pointer (some ⟨b26, 4, none⟩)), .v (.I (q17.2.1.getD 3 0)), .v (.pointer (some ⟨b26, 1, none⟩)), .v (.pointer (some ⟨b26, 5, none⟩)), .v (.I (q17.2.1.getD 4 0)), .v (.pointer (some ⟨b26, 1, none⟩)), .v (.pointer (some ⟨b26, 6, none⟩)), .v (.I (q17.2.1.getD 5 0)), .v (.Pb b7), .t fun _ _ => True, .v (.pointer (some ⟨b7, 1, none⟩)), .t fun _ _ => True, .v (.pointer (some ⟨b7, 2, none⟩)), .t fun _ _ => True, .v (.pointer (some ⟨b7, 3, none⟩)), .t fun _ _ => True] [[fun τ u F => F = [[(b7, .cells #[.I s11.2.1, .I s11.2.2.1, .I s11.2.2.2.1, .I s11.t4.1, .I s11.t4.2.1, .bool s11.t4.2.2.1, .bool s11.t4.2.2.2.1, .I s11.t4.t4.1, .I s11.t4.t4.2.1, v12, .I s11.t4.t4.2.2.2.1, .I s11.t4.t4.t4] 55 (0, 0))]], fun τ u F => F = [[(b7, .cells #[.I (q17.2.1.getD 1 0), .I s11.2.2.1, .I s11.2.2.2.1, .I s11.t4.1, .I s11.t4.2.1, .bool s11.t4.2.2.1, .bool s11.t4.2.2.2.1, .I s11.t4.t4.1, .I s11.t4.t4.2.1, v12, .I s11.t4.t4.2.2.2.1, .I s11.t4.t4.t4] 55 (0, 0))]], fun τ u F => F = [[(b7, .cells #[.I (q17.2.1.getD 1 0), .I (q17.2.1.getD 2 0), .I s11.2.2.2.1, .I s11.t4.1, .I s11.t4.2.1, .bool s11.t4.2.2.1, .bool s11.t4.2.2.2.1, .I s11.t4.t4.1, .I s11.t4.t4.2.1, v12, .I s11.t4.t4.2.2.2.1, .I s11.t4.t4.t4] 55 (0, 0))]], fun τ u F => F = [[(b7, .cells #[.I (q17.2.1.getD 1 0), .I (q17.2.1.getD 2 0), .I (q17.2.1.getD 3 0), .I s11.t4.1, .I s11.t4.2.1, .bool s11.t4.2.2.1, .bool s11.t4.2.2.2.1, .I s11.t4.t4.1, .I s11.t4.t4.2.1, v12, .I s11.t4.t4.2.2.2.1, .I s11.t4.t4.t4] 55 (0, 0))]], fun τ u F => F = [[(b7, .cells #[.I (q17.2.1.getD 1 0), .I (q17.2.1.getD 2 0), .I (q17.2.1.getD 3 0), .I (q17.2.1.getD 4 0), .I s11.t4.2.1, .bool s11.t4.2.2.1, .bool s11.t4.2.2.2.1, .I s11.t4.t4.1, .I s11.t4.t4.2.1, v12, .I s11.t4.t4.2.2.2.1, .I s11.t4.t4.t4] 55 (0, 0))]]]] rfl z_mix rfl (by exact ⟨fun _ _ _ _ _ => trivial, ⟨fun _ _ _ _ _ => trivial, ⟨fun _ _ _ _ _ => trivial, ⟨fun _ _ _ _ _ => trivial, trivial⟩⟩⟩⟩) ⟨⟨fun _ _ _ _ hl h => h, ⟨fun _ _ _ _ hl h => h, ⟨fun _ _ _ _ hl h => h, ⟨fun _ _ _ _ hl h => h, ⟨fun _ _ _ _ hl h => h, trivial⟩⟩⟩⟩⟩, trivial⟩ rfl rfl ?_ (allB_cons (allB_cons (allB_cons (allB_cons (allB_cons (allB_cons (allB_cons (allB_cons (allB_cons (allB_cons (allB_cons (allB_cons (allB_cons (allB_cons (allB_cons (allB_cons (allB_cons (allB_cons (allB_cons (allB_cons (allB_cons (allB_cons (allB_cons allB_nil (p4 dA)) ?_) ?_) (p4 dA)) ?_) ?_) (p4 dA)) ?_) ?_) (p4 dA)) ?_) ?_) (p4 dA)) ?_) ?_) (p4 dA)) ?_) (p4 dA)) ?_) (p4 dA)) ?_) (p4 dA)) ?_) ?_
      ·exact rfl
      ·intro ρ' τ pq rs hl hd hq hw hk
       obtain ⟨_, e0, rfl⟩ := hd 0 rfl _ rfl
       refine o_indexA rfl rfl rfl z_arr29 e0 rfl (by decide) (by decide) ?_
       exact hk _ _ LR rfl
      ·intro ρ' τ pq rs hl hd hq hw hk
       obtain ⟨_, e1, rfl⟩ := hd 1 rfl _ rfl
       refine o_load (j := 0) (v := .I (q17.2.1.getD 1 0)) rfl rfl rfl z_sc3 e1 rfl rfl ?_
       exact hk _ _ LR rfl
      ·intro ρ' τ pq rs hl hd hq hw hk
       obtain ⟨_, e3, rfl⟩ := hd 3 rfl _ rfl
       refine o_indexA rfl rfl rfl z_arr29 e3 rfl (by decide) (by decide) ?_
       exact hk _ _ LR rfl
      ·intro ρ' τ pq rs hl hd hq hw hk
       obtain ⟨_, e4, rfl⟩ := hd 4 rfl _ rfl
       refine o_load (j := 0) (v := .I (q17.2.1.getD 2 0)) rfl rfl rfl z_sc3 e4 rfl rfl ?_
       exact hk _ _ LR rfl
      ·intro ρ' τ pq rs hl hd hq hw hk
       obtain ⟨_, e6, rfl⟩ := hd 6 rfl _ rfl
       refine o_indexA rfl rfl rfl z_arr29 e6 rfl (by decide) (by decide) ?_
       exact hk _ _ LR rfl
      ·intro ρ' τ pq rs hl hd hq hw hk
       obtain ⟨_, e7, rfl⟩ := hd 7 rfl _ rfl
       refine o_load (j := 0) (v := .I (q17.2.1.getD 3 0)) rfl rfl rfl z_sc3 e7 rfl rfl ?_
       exact hk _ _ LR rfl
      ·intro ρ' τ pq rs hl hd hq hw hk
       obtain ⟨_, e9, rfl⟩ := hd 9 rfl _ rfl
       refine o_indexA rfl rfl rfl z_arr29 e9 rfl (by decide) (by decide) ?_
       exact hk _ _ LR rfl
      ·intro ρ' τ pq rs hl hd hq hw hk
       obtain ⟨_, e10, rfl⟩ := hd 10 rfl _ rfl
       refine o_load (j := 0) (v := .I (q17.2.1.getD 4 0)) rfl rfl rfl z_sc3 e10 rfl rfl ?_
       exact hk _ _ LR rfl
      ·intro ρ' τ pq rs hl hd hq hw hk
       obtain ⟨_, e12, rfl⟩ := hd 12 rfl _ rfl
       refine o_indexA rfl rfl rfl z_arr29 e12 rfl (by decide) (by decide) ?_
       exact hk _ _ LR rfl
      ·intro ρ' τ pq rs hl hd hq hw hk
       obtain ⟨_, e13, rfl⟩ := hd 13 rfl _ rfl
       refine o_load (j := 0) (v := .I (q17.2.1.getD 5 0)) rfl rfl rfl z_sc3 e13 rfl rfl ?_
       exact hk _ _ LR rfl
      ·intro ρ' τ u Fv pq rs hl hI hu hd hq hw hk
       obtain ⟨_, e2, rfl⟩ := hd 2 rfl _ rfl
       obtain ⟨_, e15, rfl⟩ := hd 15 rfl _ rfl
       have hI0 := hI
       obtain rfl := hI
       refine o_store (j := 3) (vs := [.I (q17.2.1.getD 1 0)]) (cs' := [.I (q17.2.1.getD 1 0), .I s11.2.2.1, .I s11.2.2.2.1, .I s11.t4.1, .I s11.t4.2.1, .bool s11.t4.2.2.1, .bool s11.t4.2.2.2.1, .I s11.t4.t4.1, .I s11.t4.t4.2.1, v12, .I s11.t4.t4.2.2.2.1, .I s11.t4.t4.t4]) rfl rfl rfl z_size3 e15 e2 rfl (ones_cons rfl ones_nil) rfl rfl rfl ?_
       exact hk _ _ [[(b7, .cells #[.I (q17.2.1.getD 1 0), .I s11.2.2.1, .I s11.2.2.2.1, .I s11.t4.1, .I s11.t4.2.1, .bool s11.t4.2.2.1, .bool s11.t4.2.2.2.1, .I s11.t4.t4.1, .I s11.t4.t4.2.1, v12, .I s11.t4.t4.2.2.2.1, .I s11.t4.t4.t4] 55 (0, 0))]] LR trivial (by exact rfl)
      ·intro ρ' τ u Fv pq rs hl hI hu hd hq hw hk
       obtain ⟨_, e5, rfl⟩ := hd 5 rfl _ rfl
       obtain ⟨_, e17, rfl⟩ := hd 17 rfl _ rfl
       have hI0 := hI
       obtain rfl := hI
       refine o_store (j := 3) (vs := [.I (q17.2.1.getD 2 0)]) (cs' := [.I (q17.2.1.getD 1 0), .I (q17.2.1.getD 2 0), .I s11.2.2.2.1, .I s11.t4.1, .I s11.t4.2.1, .bool s11.t4.2.2.1, .bool s11.t4.2.2.2.1, .I s11.t4.t4.1, .I s11.t4.t4.2.1, v12, .I s11.t4.t4.2.2.2.1, .I s11.t4.t4.t4]) rfl rfl rfl z_size3 e17 e5 rfl (ones_cons rfl ones_nil) rfl rfl rfl ?_
       exact hk _ _ [[(b7, .cells #[.I (q17.2.1.getD 1 0), .I (q17.2.1.getD 2 0), .I s11.2.2.2.1, .I s11.t4.1, .I s11.t4.2.1, .bool s11.t4.2.2.1, .bool s11.t4.2.2.2.1, .I s11.t4.t4.1, .I s11.t4.t4.2.1, v12, .I s11.t4.t4.2.2.2.1, .I s11.t4.t4.t4] 55 (0, 0))]] LR trivial (by exact rfl)
      ·intro ρ' τ u Fv pq rs hl hI hu hd hq hw hk
       obtain ⟨_, e8, rfl⟩ := hd 8 rfl _ rfl
       obtain ⟨_, e19, rfl⟩ := hd 19 rfl _ rfl
       have hI0 := hI
       obtain rfl := hI
       refine o_store (j := 3) (vs := [.I (q17.2.1.getD 3 0)]) (cs' := [.I (q17.2.1.getD 1 0), .I (q17.2.1.getD 2 0), .I (q17.2.1.getD 3 0), .I s11.t4.1, .I s11.t4.2.1, .bool s11.t4.2.2.1, .bool s11.t4.2.2.2.1, .I s11.t4.t4.1, .I s11.t4.t4.2.1, v12, .I s11.t4.t4.2.2.2.1, .I s11.t4.t4.t4]) rfl rfl rfl z_size3 e19 e8 rfl (ones_cons rfl ones_nil) rfl rfl rfl ?_
       exact hk _ _ [[(b7, .cells #[.I (q17.2.1.getD 1 0), .I (q17.2.1.getD 2 0), .I (q17.2.1.getD 3 0), .I s11.t4.1, .I s11.t4.2.1, .bool s11.t4.2.2.1, .bool s11.t4.2.2.2.1, .I s11.t4.t4.1, .I s11.t4.t4.2.1, v12, .I s11.t4.t4.2.2.2.1, .I s11.t4.t4.t4] 55 (0, 0))]] LR trivial (by exact rfl)
      ·intro ρ' τ u Fv pq rs hl hI hu hd hq hw hk
       obtain ⟨_, e11, rfl⟩ := hd 11 rfl _ rfl
       obtain ⟨_, e21, rfl⟩ := hd 21 rfl _ rfl
       have hI0 := hI
       obtain rfl := hI
       refine o_store (j := 3) (vs := [.I (q17.2.1.getD 4 0)]) (cs' := [.I (q17.2.1.getD 1 0), .I (q17.2.1.getD 2 0), .I (q17.2.1.getD 3 0), .I (q17.2.1.getD 4 0), .I s11.t4.2.1, .bool s11.t4.2.2.1, .bool s11.t4.2.2.2.1, .I s11.t4.t4.1, .I s11.t4.t4.2.1, v12, .I s11.t4.t4.2.2.2.1, .I s11.t4.t4.t4]) rfl rfl rfl z_size3 e21 e11 rfl (ones_cons rfl ones_nil) rfl rfl rfl ?_
       exact hk _ _ [[(b7, .cells #[.I (q17.2.1.getD 1 0), .I (q17.2.1.getD 2 0), .I (q17.2.1.getD 3 0), .I (q17.2.1.getD 4 0), .I s11.t4.2.1, .bool s11.t4.2.2.1, .bool s11.t4.2.2.2.1, .I s11.t4.t4.1, .I s11.t4.t4.2.1, v12, .I s11.t4.t4.2.2.2.1, .I s11.t4.t4.t4] 55 (0, 0))]] LR trivial (by exact rfl)
      intro ρ' τ29 vals u Fv hl29 hI hu hv hq
      obtain rfl := hI
      refine st_env (ρ' := [(63, .I (q17.2.1.getD 5 0)), (1, .I a1), (2, .Pb b5), (4, .Pb b6), (5, .Pb b7), (6, .I s11.1)]) ⟨(lv4 hv 14 rfl rfl rfl), oT hq 1, oT hq 2, oT hq 4, oT hq 5, oT hq 6, trivial⟩ (ZZ 7 [3, 3] ?_)
      refine st_ord [1, 1, 1] _ rfl ?_
      exact hk14 _ _ _ ⟨((q17.2.1.getD 1 0), (q17.2.1.getD 2 0), (q17.2.1.getD 3 0), (q17.2.1.getD 4 0), (q17.2.1.getD 5 0), true, s11.t4.2.2.2.1, s11.t4.t4.1, s11.t4.t4.2.1, s11.t4.t4.2.2.1, s11.t4.t4.2.2.2.1, s11.t4.t4.t4), _, h, hl29, rfl, rfl, (hs13.up hl29)⟩
     ·refine Z 5 ?_
      refine I2 h (fun h => ?_) (fun h => ?_)
      ·refine st_d41 [[(b26, .cells (lM q17 v21 v22).toArray 41 (0, 0))], [(b5, .cells #[v1, v2] 28 (0, 0))], [(b6, .cells #[.I 0, .I 0, .I 0, .I 0, .I 0, .bool false, .bool false, .I 0, .I 0, .N0, .I 0, .I 0] 55 (0, 0))]] [[(b7, .cells #[.I s11.2.1, .I s11.2.2.1, .I s11.2.2.2.1, .I s11.t4.1, .I s11.t4.2.1, .bool s11.t4.2.2.1, .bool s11.t4.2.2.2.1, .I s11.t4.t4.1, .I s11.t4.t4.2.1, v12, .I s11.t4.t4.2.2.2.1, .I s11.t4.t4.t4] 55 (0, 0))]] 11 2 [none, some (0, 0), none, none, none, none, none, none, none, none, some (0, 1)] [none, none, none, none, none, none, none, none, none, none, none] [[none, some 73, none]] [.v (.pointer (some ⟨b7, 10, none⟩)), .v (.I s11.t4.t4.2.2.2.1), .v (.pointer (some ⟨b26, 1, none⟩)), .v (.pointer (some ⟨b26, 5, none⟩)), .v (.I (q17.2.1.getD 4 0)), .v (.I (i64.wrap (s11.t4.t4.2.2.2.1 + (q17.2.1.getD 4 0)))), .v (.pointer (some ⟨b26, 1, none⟩)), .v (.pointer (some ⟨b26, 2, none⟩)), .v (.I (q17.2.1.getD 1 0)), .v (.pointer (some ⟨b7, 10, none⟩)), .t fun _ _ => True] [[fun τ u F => F = [[(b7, .cells #[.I s11.2.1, .I s11.2.2.1, .I s11.2.2.2.1, .I s11.t4.1, .I s11.t4.2.1, .bool s11.t4.2.2.1, .bool s11.t4.2.2.2.1, .I s11.t4.t4.1, .I s11.t4.t4.2.1, v12, .I s11.t4.t4.2.2.2.1, .I s11.t4.t4.t4] 55 (0, 0))]], fun τ u F => F = [[(b7, .cells #[.I s11.2.1, .I s11.2.2.1, .I s11.2.2.2.1, .I s11.t4.1, .I s11.t4.2.1, .bool s11.t4.2.2.1, .bool s11.t4.2.2.2.1, .I s11.t4.t4.1, .I s11.t4.t4.2.1, v12, .I s11.t4.t4.2.2.2.1, .I s11.t4.t4.t4] 55 (0, 0))]], fun τ u F => F = [[(b7, .cells #[.I s11.2.1, .I s11.2.2.1, .I s11.2.2.2.1, .I s11.t4.1, .I s11.t4.2.1, .bool s11.t4.2.2.1, .bool s11.t4.2.2.2.1, .I s11.t4.t4.1, .I s11.t4.t4.2.1, v12, .I (i64.wrap (s11.t4.t4.2.2.2.1 + (q17.2.1.getD 4 0))), .I s11.t4.t4.t4] 55 (0, 0))]]]] rfl z_mix rfl ⟨fun _ _ _ _ _ => trivial, trivial⟩ ⟨⟨fun _ _ _ _ hl h => h, ⟨fun _ _ _ _ hl h => h, ⟨fun _ _ _ _ hl h => h, trivial⟩⟩⟩, trivial⟩ rfl rfl ?_ (allB_cons (allB_cons (allB_cons (allB_cons (allB_cons (allB_cons (allB_cons (allB_cons (allB_cons (allB_cons (allB_cons allB_nil (p4 dA)) ?_) (p4 dA)) ?_) ?_) (p4 dA)) (p4 dA)) ?_) ?_) (p4 dA)) ?_) ?_
       ·exact rfl
       ·intro ρ' τ u Fv pq rs hl hI hu hd hq hw hk
        obtain ⟨_, e0, rfl⟩ := hd 0 rfl _ rfl
        have hI0 := hI
        obtain rfl := hI
        refine o_load (j := 3) (v := .I s11.t4.t4.2.2.2.1) rfl rfl rfl z_sc3 e0 rfl rfl ?_
        exact hk _ _ [[(b7, .cells #[.I s11.2.1, .I s11.2.2.1, .I s11.2.2.2.1, .I s11.t4.1, .I s11.t4.2.1, .bool s11.t4.2.2.1, .bool s11.t4.2.2.2.1, .I s11.t4.t4.1, .I s11.t4.t4.2.1, v12, .I s11.t4.t4.2.2.2.1, .I s11.t4.t4.t4] 55 (0, 0))]] LR rfl (by exact hI0)
       ·intro ρ' τ pq rs hl hd hq hw hk
        obtain ⟨_, e2, rfl⟩ := hd 2 rfl _ rfl
        refine o_indexA rfl rfl rfl z_arr29 e2 rfl (by decide) (by decide) ?_
        exact hk _ _ LR rfl
       ·intro ρ' τ pq rs hl hd hq hw hk
        obtain ⟨_, e3, rfl⟩ := hd 3 rfl _ rfl
        refine o_load (j := 0) (v := .I (q17.2.1.getD 4 0)) rfl rfl rfl z_sc3 e3 rfl rfl ?_
        exact hk _ _ LR rfl
       ·intro ρ' τ pq rs hl hd hq hw hk
        obtain ⟨_, e6, rfl⟩ := hd 6 rfl _ rfl
        refine o_indexA rfl rfl rfl z_arr29 e6 rfl (by decide) (by decide) ?_
        exact hk _ _ LR rfl
       ·intro ρ' τ pq rs hl hd hq hw hk
        obtain ⟨_, e7, rfl⟩ := hd 7 rfl _ rfl
        refine o_load (j := 0) (v := .I (q17.2.1.getD 1 0)) rfl rfl rfl z_sc3 e7 rfl rfl ?_
        exact hk _ _ LR rfl
       ·intro ρ' τ u Fv pq rs hl hI hu hd hq hw hk
        obtain ⟨_, e5, rfl⟩ := hd 5 rfl _ rfl
        obtain ⟨_, e9, rfl⟩ := hd 9 rfl _ rfl
        have hI0 := hI
        obtain rfl := hI
        refine o_store (j := 3) (vs := [.I (i64.wrap (s11.t4.t4.2.2.2.1 + (q17.2.1.getD 4 0)))]) (cs' := [.I s11.2.1, .I s11.2.2.1, .I s11.2.2.2.1, .I s11.t4.1, .I s11.t4.2.1, .bool s11.t4.2.2.1, .bool s11.t4.2.2.2.1, .I s11.t4.t4.1, .I s11.t4.t4.2.1, v12, .I (i64.wrap (s11.t4.t4.2.2.2.1 + (q17.2.1.getD 4 0))), .I s11.t4.t4.t4]) rfl rfl rfl z_size3 e9 e5 rfl (ones_cons rfl ones_nil) rfl rfl rfl ?_
        exact hk _ _ [[(b7, .cells #[.I s11.2.1, .I s11.2.2.1, .I s11.2.2.2.1, .I s11.t4.1, .I s11.t4.2.1, .bool s11.t4.2.2.1, .bool s11.t4.2.2.2.1, .I s11.t4.t4.1, .I s11.t4.t4.2.1, v12, .I (i64.wrap (s11.t4.t4.2.2.2.1 + (q17.2.1.getD 4 0))), .I s11.t4.t4.t4] 55 (0, 0))]] LR trivial (by exact rfl)
       intro ρ' τ30 vals u Fv hl30 hI hu hv hq
       obtain rfl := hI
       refine st_env (ρ' := [(80, .I (q17.2.1.getD 1 0)), (1, .I a1), (2, .Pb b5), (4, .Pb b6), (5, .Pb b7), (6, .I s11.1)]) ⟨(lv4 hv 8 rfl rfl rfl), oT hq 1, oT hq 2, oT hq 4, oT hq 5, oT hq 6, trivial⟩ (ZZ 5 [3] ?_)
       refine st_ord [1, 1, 1] _ rfl ?_
       exact hk14 _ _ _ ⟨(s11.2.1, s11.2.2.1, s11.2.2.2.1, s11.t4.1, s11.t4.2.1, s11.t4.2.2.1, s11.t4.2.2.2.1, s11.t4.t4.1, s11.t4.t4.2.1, s11.t4.t4.2.2.1, (i64.wrap (s11.t4.t4.2.2.2.1 + (q17.2.1.getD 4 0))), (q17.2.1.getD 1 0)), _, h, hl30, rfl, rfl, (hs13.up hl30)⟩
      ·refine Z 3 ?_
       refine st_ord [1, 1, 1] _ rfl ?_
       exact hk14 _ _ _ ⟨(s11.2.1, s11.2.2.1, s11.2.2.2.1, s11.t4.1, s11.t4.2.1, s11.t4.2.2.1, s11.t4.2.2.2.1, s11.t4.t4.1, s11.t4.t4.2.1, s11.t4.t4.2.2.1, s11.t4.t4.2.2.2.1, s11.t4.t4.t4), _, h, LR, rfl, rfl, hs13⟩
 ·refine st_exit rfl ?_
  obtain rfl := he11 _ h
  replace h := hA11
  refine st_ord [1, 1] _ rfl ?_
  exact hk8 _ _ _ ⟨(s11.2.1, s11.2.2.1, s11.2.2.2.1, s11.t4.1, s11.t4.2.1, s11.t4.2.2.1, s11.t4.2.2.2.1, s11.t4.t4.1, s11.t4.t4.2.1, s11.t4.t4.2.2.1, s11.t4.t4.2.2.2.1, s11.t4.t4.t4), _, h, hl11, rfl, rfl, hs13⟩
theorem law30_robot_ok {a0 : Int × Int × Int × Int × Int × Bool × Bool × Int × Int × List (Int × Int) × Int × Int} {a1 : Int × Int × Int × Int × Int × Bool × Bool × Int × Int × List (List Int) × Int × Int} {v1 v3 : Value} {r : Bool} (h : law30_robot a0 a1 r) (σ : Sto) (hs2 : Sl (kP (kI .i64) (kI .i64)) σ v1 a0.t4.t4.2.1) (hs4 : Sl (kA .i64 2) σ v3 a1.t4.t4.2.1) :
    Does prog 17 [.agg [.I a0.1, .I a0.2.1, .I a0.2.2.1, .I a0.2.2.2.1, .I a0.t4.1, .bool a0.t4.2.1, .bool a0.t4.2.2.1, .I a0.t4.2.2.2.1, .I a0.t4.t4.1, v1, .I a0.t4.t4.2.2.1, .I a0.t4.t4.2.2.2].toArray, .agg [.I a1.1, .I a1.2.1, .I a1.2.2.1, .I a1.2.2.2.1, .I a1.t4.1, .bool a1.t4.2.1, .bool a1.t4.2.2.1, .I a1.t4.2.2.2.1, .I a1.t4.t4.1, v3, .I a1.t4.t4.2.2.1, .I a1.t4.t4.2.2.2].toArray] σ [] (fun v τ gs => gs = [] ∧ .bool r = v) := by
 refine CO func17 ntmps17 rfl (fun cs fs => Z 2 ?_)
 refine o_box (cs := [.I a0.1, .I a0.2.1, .I a0.2.2.1, .I a0.2.2.2.1, .I a0.t4.1, .bool a0.t4.2.1, .bool a0.t4.2.2.1, .I a0.t4.2.2.2.1, .I a0.t4.t4.1, v1, .I a0.t4.t4.2.2.1, .I a0.t4.t4.2.2.2]) rfl rfl rfl rfl rfl (fun b5 => ?_)
 refine o_box (cs := [.I a1.1, .I a1.2.1, .I a1.2.2.1, .I a1.2.2.2.1, .I a1.t4.1, .bool a1.t4.2.1, .bool a1.t4.2.2.1, .I a1.t4.2.2.2.1, .I a1.t4.t4.1, v3, .I a1.t4.t4.2.2.1, .I a1.t4.t4.2.2.2]) rfl rfl rfl rfl rfl (fun b6 => ZZ 7 [1] ?_)
 refine o_lenI rfl rfl rfl z_slT30 rfl hs2 (ZZ 2 [0] ?_)
 refine o_lenI rfl rfl rfl z_slT39 rfl hs4 (Z 2 ?_)
 refine I2 h (fun h => ?_) (fun h => ?_)
 ·refine Z 4 ?_
  obtain rfl := h.symm
  exact RT func17 rfl LR ⟨rfl, rfl⟩
 ·refine Z 2 ?_
  refine cutS σ (fun (s7 : Unit) => law30_robot_j1 a0 a1 s7 r) (fun s7 => [(2, .Pb b5), (3, .Pb b6), (4, .bool false)]) (fun s7 => [[(b5, .cells #[.I a0.1, .I a0.2.1, .I a0.2.2.1, .I a0.2.2.2.1, .I a0.t4.1, .bool a0.t4.2.1, .bool a0.t4.2.2.1, .I a0.t4.2.2.2.1, .I a0.t4.t4.1, v1, .I a0.t4.t4.2.2.1, .I a0.t4.t4.2.2.2] 49 (0, 0))], [(b6, .cells #[.I a1.1, .I a1.2.1, .I a1.2.2.1, .I a1.2.2.2.1, .I a1.t4.1, .bool a1.t4.2.1, .bool a1.t4.2.2.1, .I a1.t4.2.2.2.1, .I a1.t4.t4.1, v3, .I a1.t4.t4.2.2.1, .I a1.t4.t4.2.2.2] 55 (0, 0))]]) (fun s7 τ7 h hl7 => ?_) (fun hk7 => ?_)
  ·refine st_seq ?_
   refine cutS τ7 (fun (s8 : Bool) => law30_robot_j2 s8 r) (fun s8 => [(4, .bool s8)]) (fun s8 => []) (fun s8 τ8 h hl8 => ?_) (fun hk8 => ?_)
   ·obtain rfl := h.symm
    exact RT func17 rfl (hl7.trans hl8) ⟨rfl, rfl⟩
   refine ZZ 6 [0, 1] ?_
   refine M2 h (fun h => ?_) (fun h => ?_)
   ·refine ZZ 6 [0, 1] ?_
    refine M2 h (fun h => ?_) (fun h => ?_)
    ·refine ZZ 6 [0, 1] ?_
     refine M2 h (fun h => ?_) (fun h => ?_)
     ·refine ZZ 6 [0, 1] ?_
      refine M2 h (fun h => ?_) (fun h => ?_)
      ·refine ZZ 6 [0, 1] ?_
       refine M2 h (fun h => ?_) (fun h => ?_)
       ·refine ZZ 6 [0, 1] ?_
        refine M2 h (fun h => ?_) (fun h => ?_)
        ·refine ZZ 6 [0, 1] ?_
         refine M2 h (fun h => ?_) (fun h => ?_)
         ·refine ZZ 6 [0, 1] ?_
          refine M2 h (fun h => ?_) (fun h => ?_)
          ·refine ZZ 6 [0, 1] ?_
           refine M2 h (fun h => ?_) (fun h => ?_)
           ·refine ZZ 6 [0, 1] ?_
            refine M2 h (fun h => ?_) (fun h => ?_)
            ·refine ZZ 8 [0, 1] ?_
             refine st_ord [] _ rfl ?_
             exact hk8 _ _ _ ⟨(decide (a0.t4.t4.2.2.2 = a1.t4.t4.2.2.2)), h, LR, rfl, rfl⟩
            ·refine Z 8 ?_
             refine st_ord [] _ rfl ?_
             exact hk8 _ _ _ ⟨false, h, LR, rfl, rfl⟩
           ·refine Z 15 ?_
            refine st_ord [] _ rfl ?_
            exact hk8 _ _ _ ⟨false, h, LR, rfl, rfl⟩
          ·refine Z 22 ?_
           refine st_ord [] _ rfl ?_
           exact hk8 _ _ _ ⟨false, h, LR, rfl, rfl⟩
         ·refine Z 29 ?_
          refine st_ord [] _ rfl ?_
          exact hk8 _ _ _ ⟨false, h, LR, rfl, rfl⟩
        ·refine Z 36 ?_
         refine st_ord [] _ rfl ?_
         exact hk8 _ _ _ ⟨false, h, LR, rfl, rfl⟩
       ·refine Z 43 ?_
        refine st_ord [] _ rfl ?_
        exact hk8 _ _ _ ⟨false, h, LR, rfl, rfl⟩
      ·refine Z 50 ?_
       refine st_ord [] _ rfl ?_
       exact hk8 _ _ _ ⟨false, h, LR, rfl, rfl⟩
     ·refine Z 57 ?_
      refine st_ord [] _ rfl ?_
      exact hk8 _ _ _ ⟨false, h, LR, rfl, rfl⟩
    ·refine Z 64 ?_
     refine st_ord [] _ rfl ?_
     exact hk8 _ _ _ ⟨false, h, LR, rfl, rfl⟩
   ·refine Z 71 ?_
    refine st_ord [] _ rfl ?_
    exact hk8 _ _ _ ⟨false, h, LR, rfl, rfl⟩
  refine Z 4 ?_
  obtain ⟨e9, hL9, hA9⟩ := h
  refine st_ord [1, 0] _ rfl ?_
  refine st_loop hL9 (fun (s9 : Int) ρ τ9 gs => σ.Le τ9 ∧ ESub ρ [(2, .Pb b5), (3, .Pb b6), (4, .bool false), (5, .I s9)] ∧ gs = [[(b5, .cells #[.I a0.1, .I a0.2.1, .I a0.2.2.1, .I a0.2.2.2.1, .I a0.t4.1, .bool a0.t4.2.1, .bool a0.t4.2.2.1, .I a0.t4.2.2.2.1, .I a0.t4.t4.1, v1, .I a0.t4.t4.2.2.1, .I a0.t4.t4.2.2.2] 49 (0, 0))], [(b6, .cells #[.I a1.1, .I a1.2.1, .I a1.2.2.1, .I a1.2.2.2.1, .I a1.t4.1, .bool a1.t4.2.1, .bool a1.t4.2.2.1, .I a1.t4.2.2.2.1, .I a1.t4.t4.1, v3, .I a1.t4.t4.2.2.1, .I a1.t4.t4.2.2.2] 55 (0, 0))]]) ⟨LR, rfl, rfl⟩ ?_
  rintro s9 o9 h he9 ρ9 τ9 gs9 ⟨hl9, hρ, rfl⟩ hn9
  refine st_es hρ (ZZ 6 [0] ?_)
  refine o_lenI rfl rfl rfl z_slT30 rfl (hs2.up hl9) (Z 2 ?_)
  refine I2 h (fun h => ?_) (fun h => ?_)
  ·refine Z 4 ?_
   obtain ⟨q10, hf11, q15, hf16, q21, hf22, q26, hf27, h⟩ := h
   let cc20 : Prop := (!(decide (q10.1 = (q15.getD 0 0)))) = false
   refine st_draw 28 (dl [.v (.pointer (some ⟨b5, 9, none⟩)), .v (v1), .v (.I s9), .t fun τ v => ∃ (b12 of13 : Nat) (vsb12 : K4), (.pointer (some ⟨b12, of13, none⟩) : Value) = v ∧ CelN τ ⟨b12, of13, none⟩ vsb12 ∧ (kP (kI .i64) (kI .i64)).rep τ vsb12 q10, .t fun τ v => ∃ (b12 of13 : Nat) (vsb12 : K4), (.pointer (some ⟨b12, of13, none⟩) : Value) = v ∧ CelN τ ⟨b12, of13, none⟩ vsb12 ∧ (kP (kI .i64) (kI .i64)).rep τ vsb12 q10, .v (.I q10.1), .v (.pointer (some ⟨b6, 9, none⟩)), .v (v3), .v (.I s9), .t fun τ v => ∃ (b17 of18 : Nat) (vsb17 : K4), (.pointer (some ⟨b17, of18, none⟩) : Value) = v ∧ CelN τ ⟨b17, of18, none⟩ vsb17 ∧ (kA .i64 2).rep τ vsb17 q15, .t fun τ v => ∃ (b17 of18 : Nat) (vsb17 : K4), (.pointer (some ⟨b17, of18 + (0 : Int).toNat * 1, none⟩) : Value) = v ∧ CelN τ ⟨b17, of18, none⟩ vsb17 ∧ (kA .i64 2).rep τ vsb17 q15, .v (.I (q15.getD 0 0)), .v (.bool (!(decide (q10.1 = (q15.getD 0 0))))), .v (.bool (!(decide (q10.1 = (q15.getD 0 0))))), .g cc20 (.pointer (some ⟨b5, 9, none⟩)), .g cc20 (v1), .g cc20 (.I s9), .h cc20 fun τ v => ∃ (b23 of24 : Nat) (vsb23 : K4), (.pointer (some ⟨b23, of24, none⟩) : Value) = v ∧ CelN τ ⟨b23, of24, none⟩ vsb23 ∧ (kP (kI .i64) (kI .i64)).rep τ vsb23 q21, .h cc20 fun τ v => ∃ (b23 of24 : Nat) (vsb23 : K4), (.pointer (some ⟨b23, of24 + 1, none⟩) : Value) = v ∧ CelN τ ⟨b23, of24, none⟩ vsb23 ∧ (kP (kI .i64) (kI .i64)).rep τ vsb23 q21, .g cc20 (.I q21.2), .g cc20 (.pointer (some ⟨b6, 9, none⟩)), .g cc20 (v3), .g cc20 (.I s9), .h cc20 fun τ v => ∃ (b28 of29 : Nat) (vsb28 : K4), (.pointer (some ⟨b28, of29, none⟩) : Value) = v ∧ CelN τ ⟨b28, of29, none⟩ vsb28 ∧ (kA .i64 2).rep τ vsb28 q26, .h cc20 fun τ v => ∃ (b28 of29 : Nat) (vsb28 : K4), (.pointer (some ⟨b28, of29 + (1 : Int).toNat * 1, none⟩) : Value) = v ∧ CelN τ ⟨b28, of29, none⟩ vsb28 ∧ (kA .i64 2).rep τ vsb28 q26, .g cc20 (.I (q26.getD 1 0)), .g cc20 (.bool (!(decide (q21.2 = (q26.getD 1 0))))), .v (.bool ((!(decide (q10.1 = (q15.getD 0 0)))) || (!(decide (q21.2 = (q26.getD 1 0))))))]) (fun _ _ => []) z_mix rfl (dl_mono (by exact ⟨fun _ _ _ hl ⟨b12, of13, vsb12, hv, hc14, hrepb12⟩ => ⟨b12, of13, vsb12, hv, hc14.up hl, Kd.mono _ hl hrepb12⟩, ⟨fun _ _ _ hl ⟨b12, of13, vsb12, hv, hc14, hrepb12⟩ => ⟨b12, of13, vsb12, hv, hc14.up hl, Kd.mono _ hl hrepb12⟩, ⟨fun _ _ _ hl ⟨b17, of18, vsb17, hv, hc19, hrepb17⟩ => ⟨b17, of18, vsb17, hv, hc19.up hl, Kd.mono _ hl hrepb17⟩, ⟨fun _ _ _ hl ⟨b17, of18, vsb17, hv, hc19, hrepb17⟩ => ⟨b17, of18, vsb17, hv, hc19.up hl, Kd.mono _ hl hrepb17⟩, ⟨fun _ _ _ hl ⟨b23, of24, vsb23, hv, hc25, hrepb23⟩ => ⟨b23, of24, vsb23, hv, hc25.up hl, Kd.mono _ hl hrepb23⟩, ⟨fun _ _ _ hl ⟨b23, of24, vsb23, hv, hc25, hrepb23⟩ => ⟨b23, of24, vsb23, hv, hc25.up hl, Kd.mono _ hl hrepb23⟩, ⟨fun _ _ _ hl ⟨b28, of29, vsb28, hv, hc30, hrepb28⟩ => ⟨b28, of29, vsb28, hv, hc30.up hl, Kd.mono _ hl hrepb28⟩, ⟨fun _ _ _ hl ⟨b28, of29, vsb28, hv, hc30, hrepb28⟩ => ⟨b28, of29, vsb28, hv, hc30.up hl, Kd.mono _ hl hrepb28⟩, trivial⟩⟩⟩⟩⟩⟩⟩⟩)) (allB_cons (allB_cons (allB_cons (allB_cons (allB_cons (allB_cons (allB_cons (allB_cons (allB_cons (allB_cons (allB_cons (allB_cons (allB_cons (allB_cons (allB_cons (allB_cons (allB_cons (allB_cons (allB_cons (allB_cons (allB_cons (allB_cons (allB_cons (allB_cons (allB_cons (allB_cons (allB_cons (allB_cons allB_nil (p1 dA)) ?_) (p1 dA)) ?_) ?_) ?_) (p1 dA)) ?_) (p1 dA)) ?_) ?_) ?_) (p1 dA)) (p1 dA)) (p1 (dG []))) ?_) (p1 (dG []))) ?_) ?_) ?_) (p1 (dG []))) ?_) (p1 (dG []))) ?_) ?_) ?_) (p1 (dG [19, 25]))) (p1 dO)) ?_
   ·intro ρ' τ pq rs hl hd hq hk
    obtain ⟨_, e0, rfl⟩ := hd 0 rfl
    refine o_load (j := 0) (v := v1) rfl rfl rfl z_sc30 e0 rfl rfl ?_
    exact st_addNil (hk _ _ LR rfl)
   ·intro ρ' τ pq rs hl hd hq hk
    obtain ⟨_, e1, rfl⟩ := hd 1 rfl
    obtain ⟨_, e2, rfl⟩ := hd 2 rfl
    refine o_index rfl rfl rfl z_slT30 rfl e1 (hs2.up (hl9.trans hl)) e2 hf11 (fun b12 of13 vsb12 hc14 hrepb12 => ?_)
    exact st_addNil (hk _ _ LR ⟨b12, of13, _, rfl, hc14, hrepb12⟩)
   ·intro ρ' τ pq rs hl hd hq hk
    obtain ⟨_, e3, b12, of13, vsb12, rfl, hc14, hrepb12⟩ := hd 3 rfl
    have hrepb12 := hrepb12
    obtain ⟨_, _, rfl, rfl, rfl⟩ := hrepb12
    refine o_fieldAddr rfl rfl rfl z_field82_0 e3 ?_
    exact st_addNil (hk _ _ LR ⟨b12, of13, _, rfl, hc14, hrepb12⟩)
   ·intro ρ' τ pq rs hl hd hq hk
    obtain ⟨_, e4, b12, of13, vsb12, rfl, hc14, hrepb12⟩ := hd 4 rfl
    have hrepb12 := hrepb12
    obtain ⟨_, _, rfl, rfl, rfl⟩ := hrepb12
    refine o_loadI (v := .I q10.1) rfl rfl rfl z_sc3 e4 (hc14 0 _ rfl) ?_
    exact st_addNil (hk _ _ LR rfl)
   ·intro ρ' τ pq rs hl hd hq hk
    obtain ⟨_, e6, rfl⟩ := hd 6 rfl
    refine o_load (j := 1) (v := v3) rfl rfl rfl z_sc39 e6 rfl rfl ?_
    exact st_addNil (hk _ _ LR rfl)
   ·intro ρ' τ pq rs hl hd hq hk
    obtain ⟨_, e7, rfl⟩ := hd 7 rfl
    obtain ⟨_, e8, rfl⟩ := hd 8 rfl
    refine o_index rfl rfl rfl z_slT39 rfl e7 (hs4.up (hl9.trans hl)) e8 hf16 (fun b17 of18 vsb17 hc19 hrepb17 => ?_)
    exact st_addNil (hk _ _ LR ⟨b17, of18, _, rfl, hc19, hrepb17⟩)
   ·intro ρ' τ pq rs hl hd hq hk
    obtain ⟨_, e9, b17, of18, vsb17, rfl, hc19, hrepb17⟩ := hd 9 rfl
    have hrepb17 := hrepb17
    obtain rfl := hrepb17
    refine o_indexA rfl rfl rfl z_arr83 e9 rfl (by decide) (by decide) ?_
    exact st_addNil (hk _ _ LR ⟨b17, of18, _, rfl, hc19, hrepb17⟩)
   ·intro ρ' τ pq rs hl hd hq hk
    obtain ⟨_, e10, b17, of18, vsb17, rfl, hc19, hrepb17⟩ := hd 10 rfl
    have hrepb17 := hrepb17
    obtain rfl := hrepb17
    refine o_loadI (v := .I (q15.getD 0 0)) rfl rfl rfl z_sc3 e10 (cel_arr (f := (Value.int .i64)) (zz := 0) (n := 2) (xs := q15) (p := 0) (q := 0) hc19 rfl (by omega) (by omega)) ?_
    exact st_addNil (hk _ _ LR rfl)
   ·intro ρ' τ pq rs hl hd hq hk
    obtain ⟨_, e13, rfl⟩ := hd 13 rfl
    obtain ⟨w14, e14, t14⟩ := hd 14 rfl
    by_cases hG : (!(decide (q10.1 = (q15.getD 0 0)))) = false
    ·have hC := hG
     obtain ⟨rfl⟩ := t14.1 hC
     refine o_load (j := 0) (v := v1) rfl (wants_of rfl e13 hG) rfl z_sc30 e14 rfl rfl ?_
     exact st_addNil (hk _ _ LR ⟨fun _ => rfl, fun hn => absurd hC hn⟩)
    ·refine st_pass rfl rfl rfl e13 (beq_off hG) rfl ?_
     exact st_addNil (hk _ _ LR ⟨fun h => absurd h hG, fun _ => rfl⟩)
   ·intro ρ' τ pq rs hl hd hq hk
    obtain ⟨_, e13, rfl⟩ := hd 13 rfl
    obtain ⟨w15, e15, t15⟩ := hd 15 rfl
    obtain ⟨w16, e16, t16⟩ := hd 16 rfl
    by_cases hG : (!(decide (q10.1 = (q15.getD 0 0)))) = false
    ·have hC := hG
     replace hf22 := hf22 hC
     obtain ⟨rfl⟩ := t15.1 hC
     obtain ⟨rfl⟩ := t16.1 hC
     refine o_index rfl (wants_of rfl e13 hG) rfl z_slT30 rfl e15 (hs2.up (hl9.trans hl)) e16 hf22 (fun b23 of24 vsb23 hc25 hrepb23 => ?_)
     exact st_addNil (hk _ _ LR ⟨fun _ => ⟨b23, of24, _, rfl, hc25, hrepb23⟩, fun hn => absurd hC hn⟩)
    ·refine st_pass rfl rfl rfl e13 (beq_off hG) rfl ?_
     exact st_addNil (hk _ _ LR ⟨fun h => absurd h hG, fun _ => rfl⟩)
   ·intro ρ' τ pq rs hl hd hq hk
    obtain ⟨_, e13, rfl⟩ := hd 13 rfl
    obtain ⟨w17, e17, t17⟩ := hd 17 rfl
    by_cases hG : (!(decide (q10.1 = (q15.getD 0 0)))) = false
    ·have hC := hG
     obtain ⟨b23, of24, vsb23, rfl, hc25, hrepb23⟩ := t17.1 hC
     have hrepb23 := hrepb23
     obtain ⟨_, _, rfl, rfl, rfl⟩ := hrepb23
     refine o_fieldAddr rfl (wants_of rfl e13 hG) rfl z_field82_1 e17 ?_
     exact st_addNil (hk _ _ LR ⟨fun _ => ⟨b23, of24, _, rfl, hc25, hrepb23⟩, fun hn => absurd hC hn⟩)
    ·refine st_pass rfl rfl rfl e13 (beq_off hG) rfl ?_
     exact st_addNil (hk _ _ LR ⟨fun h => absurd h hG, fun _ => rfl⟩)
   ·intro ρ' τ pq rs hl hd hq hk
    obtain ⟨_, e13, rfl⟩ := hd 13 rfl
    obtain ⟨w18, e18, t18⟩ := hd 18 rfl
    by_cases hG : (!(decide (q10.1 = (q15.getD 0 0)))) = false
    ·have hC := hG
     obtain ⟨b23, of24, vsb23, rfl, hc25, hrepb23⟩ := t18.1 hC
     have hrepb23 := hrepb23
     obtain ⟨_, _, rfl, rfl, rfl⟩ := hrepb23
     refine o_loadI (v := .I q21.2) rfl (wants_of rfl e13 hG) rfl z_sc3 e18 (hc25 1 _ rfl) ?_
     exact st_addNil (hk _ _ LR ⟨fun _ => rfl, fun hn => absurd hC hn⟩)
    ·refine st_pass rfl rfl rfl e13 (beq_off hG) rfl ?_
     exact st_addNil (hk _ _ LR ⟨fun h => absurd h hG, fun _ => rfl⟩)
   ·intro ρ' τ pq rs hl hd hq hk
    obtain ⟨_, e13, rfl⟩ := hd 13 rfl
    obtain ⟨w20, e20, t20⟩ := hd 20 rfl
    by_cases hG : (!(decide (q10.1 = (q15.getD 0 0)))) = false
    ·have hC := hG
     obtain ⟨rfl⟩ := t20.1 hC
     refine o_load (j := 1) (v := v3) rfl (wants_of rfl e13 hG) rfl z_sc39 e20 rfl rfl ?_
     exact st_addNil (hk _ _ LR ⟨fun _ => rfl, fun hn => absurd hC hn⟩)
    ·refine st_pass rfl rfl rfl e13 (beq_off hG) rfl ?_
     exact st_addNil (hk _ _ LR ⟨fun h => absurd h hG, fun _ => rfl⟩)
   ·intro ρ' τ pq rs hl hd hq hk
    obtain ⟨_, e13, rfl⟩ := hd 13 rfl
    obtain ⟨w21, e21, t21⟩ := hd 21 rfl
    obtain ⟨w22, e22, t22⟩ := hd 22 rfl
    by_cases hG : (!(decide (q10.1 = (q15.getD 0 0)))) = false
    ·have hC := hG
     replace hf27 := hf27 hC
     obtain ⟨rfl⟩ := t21.1 hC
     obtain ⟨rfl⟩ := t22.1 hC
     refine o_index rfl (wants_of rfl e13 hG) rfl z_slT39 rfl e21 (hs4.up (hl9.trans hl)) e22 hf27 (fun b28 of29 vsb28 hc30 hrepb28 => ?_)
     exact st_addNil (hk _ _ LR ⟨fun _ => ⟨b28, of29, _, rfl, hc30, hrepb28⟩, fun hn => absurd hC hn⟩)
    ·refine st_pass rfl rfl rfl e13 (beq_off hG) rfl ?_
     exact st_addNil (hk _ _ LR ⟨fun h => absurd h hG, fun _ => rfl⟩)
   ·intro ρ' τ pq rs hl hd hq hk
    obtain ⟨_, e13, rfl⟩ := hd 13 rfl
    obtain ⟨w23, e23, t23⟩ := hd 23 rfl
    by_cases hG : (!(decide (q10.1 = (q15.getD 0 0)))) = false
    ·have hC := hG
     obtain ⟨b28, of29, vsb28, rfl, hc30, hrepb28⟩ := t23.1 hC
     have hrepb28 := hrepb28
     obtain rfl := hrepb28
     refine o_indexA rfl (wants_of rfl e13 hG) rfl z_arr83 e23 rfl (by decide) (by decide) ?_
     exact st_addNil (hk _ _ LR ⟨fun _ => ⟨b28, of29, _, rfl, hc30, hrepb28⟩, fun hn => absurd hC hn⟩)
    ·refine st_pass rfl rfl rfl e13 (beq_off hG) rfl ?_
     exact st_addNil (hk _ _ LR ⟨fun h => absurd h hG, fun _ => rfl⟩)
   ·intro ρ' τ pq rs hl hd hq hk
    obtain ⟨_, e13, rfl⟩ := hd 13 rfl
    obtain ⟨w24, e24, t24⟩ := hd 24 rfl
    by_cases hG : (!(decide (q10.1 = (q15.getD 0 0)))) = false
    ·have hC := hG
     obtain ⟨b28, of29, vsb28, rfl, hc30, hrepb28⟩ := t24.1 hC
     have hrepb28 := hrepb28
     obtain rfl := hrepb28
     refine o_loadI (v := .I (q26.getD 1 0)) rfl (wants_of rfl e13 hG) rfl z_sc3 e24 (cel_arr (f := (Value.int .i64)) (zz := 0) (n := 2) (xs := q26) (p := 0) (q := 1) hc30 rfl (by omega) (by omega)) ?_
     exact st_addNil (hk _ _ LR ⟨fun _ => rfl, fun hn => absurd hC hn⟩)
    ·refine st_pass rfl rfl rfl e13 (beq_off hG) rfl ?_
     exact st_addNil (hk _ _ LR ⟨fun h => absurd h hG, fun _ => rfl⟩)
   intro ρ' τ31 vals hl31 hv hq
   refine st_ord [0, 0] _ rfl ?_
   refine st_env (ρ' := [(47, .bool ((!(decide (q10.1 = (q15.getD 0 0)))) || (!(decide (q21.2 = (q26.getD 1 0)))))), (2, .Pb b5), (3, .Pb b6), (4, .bool false), (5, .I s9)]) ⟨(lv1 hv 27 rfl rfl), oT hq 2, oT hq 3, oT hq 4, oT hq 5, trivial⟩ ?_
   refine st_end ?_
   refine I2 h (fun h => ?_) (fun h => ?_)
   ·refine Z 4 ?_
    refine st_ord [] _ rfl ?_
    obtain rfl := he9 _ h
    replace h := hA9
    obtain rfl := h.symm
    exact RT func17 rfl (hl9.trans hl31) ⟨rfl, rfl⟩
   ·refine Z 7 ?_
    exact hn9 _ _ _ _ h ⟨(hl9.trans hl31), rfl, rfl⟩
  ·refine st_exit rfl ?_
   obtain rfl := he9 _ h
   replace h := hA9
   exact hk7 _ _ _ ⟨(), h, hl9, rfl, rfl⟩
theorem ref30_has_ok {a0 : List Int} {a1 : Int} {v1 : Value} {r : Bool} (h : ref30_has a0 a1 r) (σ : Sto) (hs2 : Sl (kI .i64) σ v1 a0) :
    Does prog 44 [v1, .I a1] σ [] (fun v τ gs => gs = [] ∧ .bool r = v) := by
 refine CO func44 ntmps44 rfl (fun cs fs => Z 5 ?_)
 refine cutS σ (fun (s3 : Unit) => ref30_has_j1 s3 r) (fun s3 => [(4, .bool false)]) (fun s3 => []) (fun s3 τ3 h hl3 => (Z 4 ?_)) (fun hk3 => ?_)
 ·obtain rfl := h.symm
  exact RT func44 rfl hl3 ⟨rfl, rfl⟩
 refine Z 4 ?_
 obtain ⟨e4, hL4, hA4⟩ := h
 refine st_loop hL4 (fun (s4 : Int) ρ τ4 gs => σ.Le τ4 ∧ ESub ρ [(0, v1), (1, .I a1), (4, .bool false), (5, .I s4)] ∧ gs = []) ⟨LR, rfl, rfl⟩ ?_
 rintro s4 o4 h he4 ρ4 τ4 gs4 ⟨hl4, hρ, rfl⟩ hn4
 refine st_es hρ (Z 5 ?_)
 refine o_lenI rfl rfl rfl z_slT31 rfl (hs2.up hl4) (Z 2 ?_)
 refine I2 h (fun h => ?_) (fun h => ?_)
 ·refine Z 7 ?_
  obtain ⟨q5, hf6, h⟩ := h
  refine o_index rfl rfl rfl z_slT31 rfl rfl (hs2.up hl4) rfl hf6 (fun b7 of8 vs hc9 hrep => ?_)
  obtain rfl := hrep
  refine o_loadI (v := .I q5) rfl rfl rfl z_sc3 rfl (hc9 0 _ rfl) (Z 3 ?_)
  refine I2 h (fun h => ?_) (fun h => ?_)
  ·refine Z 4 ?_
   obtain rfl := he4 _ h
   replace h := hA4
   obtain rfl := h.symm
   exact RT func44 rfl hl4 ⟨rfl, rfl⟩
  ·refine Z 7 ?_
   exact hn4 _ _ _ _ h ⟨hl4, rfl, rfl⟩
 ·refine st_exit rfl ?_
  obtain rfl := he4 _ h
  replace h := hA4
  exact hk3 _ _ _ ⟨(), h, hl4, rfl, rfl⟩
theorem ref30_Owners_ok {a0 : List (TyR) × List (Int × Int × List Int)} {a1 a2 : Int} {v1 v2 : Value} {r : List Int} (h : ref30_Owners a0 a1 a2 r) (σ : Sto) (hs3 : Sl (kP (kI .i64) (kP (kA .i64 6) (kP (kSl (kA .i64 2)) (kP (kSl (kI .i64)) (kP kS kS))))) σ v1 a0.1) (hs4 : Sl (kP (kI .i64) (kP (kI .i64) (kSl (kI .i64)))) σ v2 a0.2) :
    Does prog 23 [.agg [v1, v2].toArray, .I a1, .I a2] σ [] (fun v τ gs => ∃ (v60 : Value), gs = [] ∧ v60 = v ∧ Sl (kI .i64) τ v60 r) := by
 refine CO func23 ntmps23 rfl (fun cs fs => Z 2 ?_)
 refine o_box (cs := [v1, v2]) rfl rfl rfl rfl rfl (fun b5 => ZZ 9 [0] ?_)
 obtain ⟨r6, hr7, h⟩ := h
 refine SC z_en16 (ref30_Robots_ok hr7 σ hs3 hs4) ?_
 rintro _ τ8 _ hl9 ⟨v10, rfl, rfl, hs11⟩
 refine Z 3 ?_
 refine st_cut (fun ρ τ12 gs => ∃ (s12 : List Int) (v13 : Value) (g14 : Grp), ref30_Owners_j1 s12 r ∧ τ8.Le τ12 ∧ ESub ρ [(6, .N0), (7, v13)] ∧ gs = [g14] ∧ Ow (kI .i64) 3 τ12 v13 s12 g14) ?_ (fun hk12 => ?_)
 ·rintro ρ12 τ12 gs12 ⟨s12, v13, g14, h, hl12, hρ, rfl, ho15⟩
  refine st_es hρ (Z 5 ?_)
  refine st_freeze (fun τ16 hl17 hg18 => ?_)
  have hs19 := ho15.freeze hl17 hg18
  obtain rfl := h.symm
  exact RT func23 rfl ((hl9.trans hl12).trans hl17) ⟨_, rfl, rfl, hs19⟩
 refine Z 4 ?_
 obtain ⟨e22, hL22, hA22⟩ := h
 refine st_addNil ?_
 refine st_ord [1, 0] _ rfl ?_
 refine st_loop hL22 (fun (s22 : K34) ρ τ22 gs => τ8.Le τ22 ∧ ∃ (v23 : Value) (g24 : Grp), ESub ρ [(1, .I a1), (2, .I a2), (3, .Pb b5), (6, .N0), (7, v23), (8, v10), (9, .I s22.2)] ∧ gs = [[(b5, .cells #[v1, v2] 28 (0, 0))], g24] ∧ Ow (kI .i64) 3 τ22 v23 s22.1 g24) ⟨LR, _, _, rfl, rfl, Ow.nil⟩ ?_
 rintro s22 o22 h he22 ρ22 τ22 gs22 ⟨hl22, v23, g24, hρ, rfl, ho25⟩ hn22
 refine st_es hρ (Z 5 ?_)
 refine o_lenI rfl rfl rfl z_slT31 rfl (hs11.up hl22) (Z 2 ?_)
 refine I2 h (fun h => ?_) (fun h => ?_)
 ·refine Z 2 ?_
  refine st_cut (fun ρ τ26 gs => ∃ (s26 : List Int) (v27 : Value) (g28 : Grp), ref30_Owners_j3 s22 s26 o22 ∧ τ22.Le τ26 ∧ ESub ρ [(1, .I a1), (2, .I a2), (3, .Pb b5), (6, .N0), (7, v27), (8, v10), (9, .I s22.2)] ∧ gs = [[(b5, .cells #[v1, v2] 28 (0, 0))], g28] ∧ Ow (kI .i64) 3 τ26 v27 s26 g28) ?_ (fun hk26 => ?_)
  ·rintro ρ26 τ26 gs26 ⟨s26, v27, g28, h, hl26, hρ, rfl, ho29⟩
   refine st_es hρ (Z 5 ?_)
   exact hn22 _ _ _ _ h ⟨(hl22.trans hl26), _, _, rfl, rfl, ho29⟩
  refine Z 2 ?_
  obtain ⟨q30, hf31, r35, hr36, r41, hr42, h⟩ := h
  refine st_draw 9 (dl [.v (.agg #[v1, v2]), .v (v10), .v (.I s22.2), .t fun τ v => ∃ (b32 of33 : Nat) (vsb32 : K4), (.pointer (some ⟨b32, of33, none⟩) : Value) = v ∧ CelN τ ⟨b32, of33, none⟩ vsb32 ∧ (kI .i64).rep τ vsb32 q30, .v (.I q30), .v (.I a1), .t fun τ v => ∃ (v39 : Value), (v39 : Value) = v ∧ Sl (kI .i64) τ v39 r35, .v (.I a2), .v (.bool r41)]) (fun _ _ => []) z_mix rfl (dl_mono ⟨fun _ _ _ hl ⟨b32, of33, vsb32, hv, hc34, hrepb32⟩ => ⟨b32, of33, vsb32, hv, hc34.up hl, Kd.mono _ hl hrepb32⟩, ⟨fun _ _ _ hl ⟨v39, hv, hs40⟩ => ⟨v39, hv, hs40.up hl⟩, trivial⟩⟩) (allB_cons (allB_cons (allB_cons (allB_cons (allB_cons (allB_cons (allB_cons (allB_cons (allB_cons allB_nil ?_) (p1 dA)) (p1 dA)) ?_) ?_) (p1 dA)) ?_) (p1 dA)) ?_) ?_
  ·intro ρ' τ pq rs hl hd hq hk
   refine o_loadN (j := 0) (vs := [v1, v2]) rfl rfl rfl z_agg28 (oT hq 3) rfl rfl ?_
   exact st_addNil (hk _ _ LR rfl)
  ·intro ρ' τ pq rs hl hd hq hk
   obtain ⟨_, e1, rfl⟩ := hd 1 rfl
   obtain ⟨_, e2, rfl⟩ := hd 2 rfl
   refine o_index rfl rfl rfl z_slT31 rfl e1 (hs11.up (hl22.trans hl)) e2 hf31 (fun b32 of33 vsb32 hc34 hrepb32 => ?_)
   exact st_addNil (hk _ _ LR ⟨b32, of33, _, rfl, hc34, hrepb32⟩)
  ·intro ρ' τ pq rs hl hd hq hk
   obtain ⟨_, e3, b32, of33, vsb32, rfl, hc34, hrepb32⟩ := hd 3 rfl
   have hrepb32 := hrepb32
   obtain rfl := hrepb32
   refine o_loadI (v := .I q30) rfl rfl rfl z_sc3 e3 (hc34 0 _ rfl) ?_
   exact st_addNil (hk _ _ LR rfl)
  ·intro ρ' τ pq rs hl hd hq hk
   obtain ⟨_, e0, rfl⟩ := hd 0 rfl
   obtain ⟨_, e4, rfl⟩ := hd 4 rfl
   obtain ⟨_, e5, rfl⟩ := hd 5 rfl
   refine st_call (foot := []) rfl rfl rfl rfl (evs_cons e0 (evs_cons e4 (evs_cons e5 rfl))) rfl (callV_fn z_en21 (ref30_Cells_ok hr36 τ (hs3.up ((hl9.trans hl22).trans hl)) (hs4.up ((hl9.trans hl22).trans hl)))) ?_
   rintro _ τ37 _ hl38 ⟨v39, rfl, rfl, hs40⟩
   exact st_addNil (hk _ _ hl38 ⟨v39, rfl, hs40⟩)
  ·intro ρ' τ pq rs hl hd hq hk
   obtain ⟨_, e6, v39, rfl, hs40⟩ := hd 6 rfl
   obtain ⟨_, e7, rfl⟩ := hd 7 rfl
   refine st_call (foot := []) rfl rfl rfl rfl (evs_cons e6 (evs_cons e7 rfl)) rfl (callV_fn z_en44 (ref30_has_ok hr42 τ hs40)) ?_
   rintro _ τ43 _ hl44 ⟨rfl, rfl⟩
   exact st_addNil (hk _ _ hl44 rfl)
  intro ρ' τ45 vals hl45 hv hq
  refine st_ord [0, 0] _ rfl ?_
  refine st_env (ρ' := [(26, .bool r41), (1, .I a1), (2, .I a2), (3, .Pb b5), (6, .N0), (7, v23), (8, v10), (9, .I s22.2)]) ⟨(lv1 hv 8 rfl rfl), oT hq 1, oT hq 2, oT hq 3, oT hq 6, oT hq 7, oT hq 8, oT hq 9, trivial⟩ ?_
  refine st_end ?_
  refine I2 h (fun h => ?_) (fun h => ?_)
  ·refine Z 4 ?_
   obtain ⟨q46, hf47, h⟩ := h
   refine o_index rfl rfl rfl z_slT31 rfl rfl (hs11.up (hl22.trans hl45)) rfl hf47 (fun b48 of49 vs hc50 hrep => ?_)
   obtain rfl := hrep
   refine o_loadI (v := .I q46) rfl rfl rfl z_sc3 rfl (hc50 0 _ rfl) ?_
   refine o_litE (eI .i64) [q46] rfl rfl rfl z_slT31 z_zero3 ⟨rfl, ⟨_, rfl, rfl⟩, trivial⟩ rfl rfl rfl rfl (fun v51 g52 ho53 => ?_)
   obtain ⟨hf57, hf58, h⟩ := h
   refine st_ord [2, 0, 0] _ rfl ?_
   refine o_append (dk := (kI .i64)) (xs := s22.1) (ys := [q46]) rfl rfl rfl rfl z_slT31 rfl (ho25.up hl45) rfl (Ow.src (j := 1) ho53 rfl) hf57 hf58 (fun v54 g55 ho56 => Z 3 ?_)
   refine st_ord [2, 0] _ rfl ?_
   exact hk26 _ _ _ ⟨(s22.1 ++ [q46]), _, _, h, hl45, rfl, rfl, ho56⟩
  ·refine Z 2 ?_
   exact hk26 _ _ _ ⟨s22.1, _, _, h, hl45, rfl, rfl, (ho25.up hl45)⟩
 ·refine st_exit rfl ?_
  obtain rfl := he22 _ h
  replace h := hA22
  refine st_ord [1] _ rfl ?_
  exact hk12 _ _ _ ⟨s22.1, _, _, h, hl22, rfl, rfl, ho25⟩
end Go.Rel
