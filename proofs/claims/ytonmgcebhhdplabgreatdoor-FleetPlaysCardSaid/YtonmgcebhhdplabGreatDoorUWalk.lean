import Derived.Test.YtonmgcebhhdplabGreatDoorURel
import Derived.Test.YtonmgcebhhdplabGreatDoorUFacts
import Derived.Test.YtonmgcebhhdplabGreatDoorUWalk2
import Derived.Test.YtonmgcebhhdplabGreatDoorEngO
/-! The walks. -/
set_option linter.unusedVariables false
set_option linter.unusedSimpArgs false
set_option maxRecDepth 4000
set_option maxHeartbeats 4000000
namespace Go.Rel
open Go Go.Eng Go.Proofs Go.Proofs.Tryz
open Go.IntKind (i64 u8 u16 u32 u64)
theorem maps_EqualFunc_map_int_fleet_Robot_map_int_fleet_Robot_int_fleet_Robot_fleet_Robot__fleet_same_ok {a0 : List (Int × (Int × Int × Int × Int × Int × Bool × Bool × Int × Int × List (Int × Int) × Int × Int))} {a1 : List (Int × (Int × Int × Int × Int × Int × Bool × Bool × Int × Int × List (Int × Int) × Int × Int))} {va0 : Value} {ga0 : Grp} {va1 : Value} {ga1 : Grp} {r : Bool} (h : maps_EqualFunc_map_int_fleet_Robot_map_int_fleet_Robot_int_fleet_Robot_fleet_Robot__fleet_same a0 a1 r) (σ : Sto) (ho1 : Mp (Value.int .i64) (rK (kP (kI .i64) (kP (kI .i64) (kP (kI .i64) (kP (kI .i64) (kP (kI .i64) (kP kB (kP kB (kP (kI .i64) (kP (kI .i64) (kP (kSl (kP (kI .i64) (kI .i64))) (kP (kI .i64) (kI .i64))))))))))))) σ va0 a0 ga0) (ho2 : Mp (Value.int .i64) (rK (kP (kI .i64) (kP (kI .i64) (kP (kI .i64) (kP (kI .i64) (kP (kI .i64) (kP kB (kP kB (kP (kI .i64) (kP (kI .i64) (kP (kSl (kP (kI .i64) (kI .i64))) (kP (kI .i64) (kI .i64))))))))))))) σ va1 a1 ga1) :
    Does prog 37 [va0, va1, .func (.func 38) #[] [].toArray] σ [ga0, ga1] (fun v τ gs => gs = [ga0, ga1] ∧ .bool r = v) := by
 refine CO func37 ntmps37 rfl (fun cs fs => Z 8 ?_)
 refine o_lenM (j := 0) rfl rfl rfl z_map73 rfl ho1 rfl ?_
 refine o_move rfl rfl rfl rfl ?_
 refine o_lenM (j := 1) rfl rfl rfl z_map73 rfl ho2 rfl (Z 2 ?_)
 refine st_cond rfl (fun hc => ?_) (fun hc => ?_)
 ·replace h := (if_pos hc).mp h
  refine Z 4 ?_
  obtain rfl := Eq.symm h
  exact st_ret (gs' := [ga0, ga1]) func37 rfl (List.Sublist.refl _) LR ⟨rfl, rfl⟩
 ·replace h := (if_neg (ne_t hc)).mp h
  refine Z 2 ?_
  refine cutS σ (fun (s3 : Unit) => maps_EqualFunc_map_int_fleet_Robot_map_int_fleet_Robot_int_fleet_Robot_fleet_Robot__fleet_same_j1 s3 r) (fun s3 => [(6, .bool false)]) (fun s3 => [ga0, ga1]) (fun s3 τ3 h hl3 => (Z 4 ?_)) (fun hk3 => ?_)
  ·obtain rfl := Eq.symm h
   exact st_ret (gs' := [ga0, ga1]) func37 rfl (List.Sublist.refl _) hl3 ⟨rfl, rfl⟩
  refine Z 3 ?_
  refine o_range (jm := 0) rfl rfl rfl z_map73 rfl ho1 rfl (fun v4 g5 hm6 => ?_)
  refine st_end ?_
  have hL7 := h
  refine st_ord [2, 1, 0] _ rfl ?_
  refine st_loopD hL7 (fun (s7 : K11) ρ τ7 gs => σ.Le τ7 ∧ ∃ (g8 : Grp), ESub ρ [(1, va1), (2, .func (.func 38) #[] #[]), (6, .bool false), (17, v4)] ∧ gs = [ga1, ga0, g8] ∧ MIt (Value.int .i64) (rK (kP (kI .i64) (kP (kI .i64) (kP (kI .i64) (kP (kI .i64) (kP (kI .i64) (kP kB (kP kB (kP (kI .i64) (kP (kI .i64) (kP (kSl (kP (kI .i64) (kI .i64))) (kP (kI .i64) (kI .i64))))))))))))) τ7 v4 va0 s7 g8 ga0) ⟨LR, _, rfl, rfl, hm6⟩ ?_
  rintro s7 hD7 ρ7 τ7 gs7 ⟨hl7, g8, hρ, rfl, hm9⟩
  refine st_es hρ (Z 2 ?_)
  refine o_next (j := 2) (jm := 1) rfl rfl rfl (fun a b h => by cases h; rfl) rfl hm9 rfl rfl (fun hc => ?_) (fun p10 g11 v12 hp13 hv14 hm15 he16 => ?_)
  ·obtain ⟨o7, h, he7, hn7⟩ := hD7 none hc
   replace h := h.1 rfl
   refine Z 5 ?_
   replace h := he7 _ h
   refine st_ord [1, 0] _ rfl ?_
   exact hk3 _ _ _ ⟨(), h, hl7, rfl, rfl⟩
  ·obtain ⟨o7, h, he7, hn7⟩ := hD7 (some p10) hp13
   replace h := h.2 _ rfl
   obtain ⟨_, ⟨_, _, rfl, rfl, ⟨_, _, rfl, rfl, ⟨_, _, rfl, rfl, ⟨_, _, rfl, rfl, ⟨_, _, rfl, rfl, ⟨_, _, rfl, rfl, ⟨_, _, rfl, rfl, ⟨_, _, rfl, rfl, ⟨_, _, rfl, rfl, ⟨_, _, rfl, ⟨v17, rfl, hs18⟩, ⟨_, _, rfl, rfl, rfl⟩⟩⟩⟩⟩⟩⟩⟩⟩⟩⟩, rfl⟩ := hv14
   refine Z 8 ?_
   refine o_entry (j := 2) (jm := 1) (p := p10) rfl rfl rfl rfl he16 rfl rfl (fun v19 hv20 => ?_)
   obtain ⟨_, ⟨_, _, rfl, rfl, ⟨_, _, rfl, rfl, ⟨_, _, rfl, rfl, ⟨_, _, rfl, rfl, ⟨_, _, rfl, rfl, ⟨_, _, rfl, rfl, ⟨_, _, rfl, rfl, ⟨_, _, rfl, rfl, ⟨_, _, rfl, rfl, ⟨_, _, rfl, ⟨v21, rfl, hs22⟩, ⟨_, _, rfl, rfl, rfl⟩⟩⟩⟩⟩⟩⟩⟩⟩⟩⟩, rfl⟩ := hv20
   refine Z 2 ?_
   refine o_alloc rfl rfl rfl z_zero49 (fun b23 => ?_)
   refine o_assign rfl rfl rfl rfl ?_
   refine o_store (j := 0) (vs := [.I p10.2.1, .I p10.2.2.1, .I p10.2.2.2.1, .I p10.t4.1, .I p10.t4.2.1, .bool p10.t4.2.2.1, .bool p10.t4.2.2.2.1, .I p10.t4.t4.1, .I p10.t4.t4.2.1, v21, .I p10.t4.t4.2.2.2.1, .I p10.t4.t4.t4]) (cs' := [.I p10.2.1, .I p10.2.2.1, .I p10.2.2.2.1, .I p10.t4.1, .I p10.t4.2.1, .bool p10.t4.2.2.1, .bool p10.t4.2.2.2.1, .I p10.t4.t4.1, .I p10.t4.t4.2.1, v21, .I p10.t4.t4.2.2.2.1, .I p10.t4.t4.t4]) rfl rfl rfl z_size49 rfl rfl rfl (o4 (o4 (ones_cons rfl (ones_cons hs22.one' (ones_cons rfl (ones_cons rfl ones_nil)))))) rfl rfl rfl (Z 5 ?_)
   refine o_lookR2 (rv := (rK (kP (kI .i64) (kP (kI .i64) (kP (kI .i64) (kP (kI .i64) (kP (kI .i64) (kP kB (kP kB (kP (kI .i64) (kP (kI .i64) (kP (kSl (kP (kI .i64) (kI .i64))) (kP (kI .i64) (kI .i64)))))))))))))) (q0 := (0, 0, 0, 0, 0, false, false, 0, 0, [], 0, 0)) (j := 1) (a := p10.1) rfl rfl rfl z_map73 (keyI underlying3) z_zeroV49 ⟨[.I 0, .I 0, .I 0, .I 0, .I 0, .bool false, .bool false, .I 0, .I 0, .N0, .I 0, .I 0], ⟨[.I 0], _, rfl, rfl, ⟨[.I 0], _, rfl, rfl, ⟨[.I 0], _, rfl, rfl, ⟨[.I 0], _, rfl, rfl, ⟨[.I 0], _, rfl, rfl, ⟨[.bool false], _, rfl, rfl, ⟨[.bool false], _, rfl, rfl, ⟨[.I 0], _, rfl, rfl, ⟨[.I 0], _, rfl, rfl, ⟨[.N0], _, rfl, ⟨_, rfl, Sl.nil⟩, ⟨[.I 0], _, rfl, rfl, rfl⟩⟩⟩⟩⟩⟩⟩⟩⟩⟩⟩, rfl⟩ rfl (ho2.up hl7) rfl rfl (fun v24 hv25 => ?_)
   obtain ⟨_, ⟨_, _, rfl, rfl, ⟨_, _, rfl, rfl, ⟨_, _, rfl, rfl, ⟨_, _, rfl, rfl, ⟨_, _, rfl, rfl, ⟨_, _, rfl, rfl, ⟨_, _, rfl, rfl, ⟨_, _, rfl, rfl, ⟨_, _, rfl, rfl, ⟨_, _, rfl, ⟨v26, rfl, hs27⟩, ⟨_, _, rfl, rfl, rfl⟩⟩⟩⟩⟩⟩⟩⟩⟩⟩⟩, rfl⟩ := hv25
   refine Z 3 ?_
   refine o_alloc rfl rfl rfl z_zero49 (fun b28 => ?_)
   refine o_store (j := 0) (vs := [.I (((mget a1 p10.1).getD (0, 0, 0, 0, 0, false, false, 0, 0, [], 0, 0)).1), .I (((mget a1 p10.1).getD (0, 0, 0, 0, 0, false, false, 0, 0, [], 0, 0)).2.1), .I (((mget a1 p10.1).getD (0, 0, 0, 0, 0, false, false, 0, 0, [], 0, 0)).2.2.1), .I (((mget a1 p10.1).getD (0, 0, 0, 0, 0, false, false, 0, 0, [], 0, 0)).2.2.2.1), .I (((mget a1 p10.1).getD (0, 0, 0, 0, 0, false, false, 0, 0, [], 0, 0)).t4.1), .bool (((mget a1 p10.1).getD (0, 0, 0, 0, 0, false, false, 0, 0, [], 0, 0)).t4.2.1), .bool (((mget a1 p10.1).getD (0, 0, 0, 0, 0, false, false, 0, 0, [], 0, 0)).t4.2.2.1), .I (((mget a1 p10.1).getD (0, 0, 0, 0, 0, false, false, 0, 0, [], 0, 0)).t4.2.2.2.1), .I (((mget a1 p10.1).getD (0, 0, 0, 0, 0, false, false, 0, 0, [], 0, 0)).t4.t4.1), v26, .I (((mget a1 p10.1).getD (0, 0, 0, 0, 0, false, false, 0, 0, [], 0, 0)).t4.t4.2.2.1), .I (((mget a1 p10.1).getD (0, 0, 0, 0, 0, false, false, 0, 0, [], 0, 0)).t4.t4.2.2.2)]) (cs' := [.I (((mget a1 p10.1).getD (0, 0, 0, 0, 0, false, false, 0, 0, [], 0, 0)).1), .I (((mget a1 p10.1).getD (0, 0, 0, 0, 0, false, false, 0, 0, [], 0, 0)).2.1), .I (((mget a1 p10.1).getD (0, 0, 0, 0, 0, false, false, 0, 0, [], 0, 0)).2.2.1), .I (((mget a1 p10.1).getD (0, 0, 0, 0, 0, false, false, 0, 0, [], 0, 0)).2.2.2.1), .I (((mget a1 p10.1).getD (0, 0, 0, 0, 0, false, false, 0, 0, [], 0, 0)).t4.1), .bool (((mget a1 p10.1).getD (0, 0, 0, 0, 0, false, false, 0, 0, [], 0, 0)).t4.2.1), .bool (((mget a1 p10.1).getD (0, 0, 0, 0, 0, false, false, 0, 0, [], 0, 0)).t4.2.2.1), .I (((mget a1 p10.1).getD (0, 0, 0, 0, 0, false, false, 0, 0, [], 0, 0)).t4.2.2.2.1), .I (((mget a1 p10.1).getD (0, 0, 0, 0, 0, false, false, 0, 0, [], 0, 0)).t4.t4.1), v26, .I (((mget a1 p10.1).getD (0, 0, 0, 0, 0, false, false, 0, 0, [], 0, 0)).t4.t4.2.2.1), .I (((mget a1 p10.1).getD (0, 0, 0, 0, 0, false, false, 0, 0, [], 0, 0)).t4.t4.2.2.2)]) rfl rfl rfl z_size49 rfl rfl rfl (o4 (o4 (ones_cons rfl (ones_cons hs27.one' (ones_cons rfl (ones_cons rfl ones_nil)))))) rfl rfl rfl (Z 3 ?_)
   refine cutS τ7 (fun (s29 : Bool) => maps_EqualFunc_map_int_fleet_Robot_map_int_fleet_Robot_int_fleet_Robot_fleet_Robot__fleet_same_j3 s7 p10 s29 o7) (fun s29 => [(1, va1), (2, .func (.func 38) #[] #[]), (6, .bool false), (17, v4), (37, .bool s29)]) (fun s29 => [ga1, g11, ga0]) (fun s29 τ29 h hl29 => ?_) (fun hk29 => ?_)
   ·refine I2 h (fun h => ?_) (fun h => ?_)
    ·refine Z 4 ?_
     refine st_ord [2, 0] _ rfl ?_
     replace h := he7 _ h
     obtain rfl := Eq.symm h
     exact st_ret (gs' := [ga0, ga1]) func37 rfl (List.Sublist.refl _) (hl7.trans hl29) ⟨rfl, rfl⟩
    ·refine Z 2 ?_
     refine st_ord [0, 1, 0] _ rfl ?_
     exact hn7 _ _ _ _ h ⟨(hl7.trans hl29), _, rfl, rfl, (hm15.up hl29)⟩
   refine Z 3 ?_
   refine M2 h (fun h => ?_) (fun h => ?_)
   ·refine Z 7 ?_
    refine st_ord [2, 3, 2] _ rfl ?_
    exact hk29 _ _ _ ⟨true, h, LR, rfl, rfl⟩
   ·refine ZZ 3 [1, 0] ?_
    obtain ⟨r30, hr31, h⟩ := h
    refine SC z_en38 (fleet_same_ok hr31 τ7 hs22 hs27) ?_
    rintro _ τ32 _ hl33 ⟨rfl, rfl⟩
    refine Z 3 ?_
    refine st_ord [2, 3, 2] _ rfl ?_
    exact hk29 _ _ _ ⟨(!r30), h, hl33, rfl, rfl⟩
theorem maps_EqualFunc_map_fleet_lot_int_map_fleet_lot_int_fleet_lot_int_int__slices_Equal_int_int_ok {a0 : List ((Int × Int) × List Int)} {a1 : List ((Int × Int) × List Int)} {va0 : Value} {ga0 : Grp} {va1 : Value} {ga1 : Grp} {r : Bool} (h : maps_EqualFunc_map_fleet_lot_int_map_fleet_lot_int_fleet_lot_int_int__slices_Equal_int_int a0 a1 r) (σ : Sto) (ho1 : Mp kPr (rSl (kI .i64)) σ va0 a0 ga0) (ho2 : Mp kPr (rSl (kI .i64)) σ va1 a1 ga1) :
    Does prog 39 [va0, va1, .func (.func 40) #[] [].toArray] σ [ga0, ga1] (fun v τ gs => gs = [ga0, ga1] ∧ .bool r = v) := by
 refine CO func39 ntmps39 rfl (fun cs fs => Z 8 ?_)
 refine o_lenM (j := 0) rfl rfl rfl z_map74 rfl ho1 rfl ?_
 refine o_move rfl rfl rfl rfl ?_
 refine o_lenM (j := 1) rfl rfl rfl z_map74 rfl ho2 rfl (Z 2 ?_)
 refine st_cond rfl (fun hc => ?_) (fun hc => ?_)
 ·replace h := (if_pos hc).mp h
  refine Z 4 ?_
  obtain rfl := Eq.symm h
  exact st_ret (gs' := [ga0, ga1]) func39 rfl (List.Sublist.refl _) LR ⟨rfl, rfl⟩
 ·replace h := (if_neg (ne_t hc)).mp h
  refine Z 2 ?_
  refine cutS σ (fun (s3 : Unit) => maps_EqualFunc_map_fleet_lot_int_map_fleet_lot_int_fleet_lot_int_int__slices_Equal_int_int_j1 s3 r) (fun s3 => [(6, .bool false)]) (fun s3 => [ga0, ga1]) (fun s3 τ3 h hl3 => (Z 4 ?_)) (fun hk3 => ?_)
  ·obtain rfl := Eq.symm h
   exact st_ret (gs' := [ga0, ga1]) func39 rfl (List.Sublist.refl _) hl3 ⟨rfl, rfl⟩
  refine Z 3 ?_
  refine o_range (jm := 0) rfl rfl rfl z_map74 rfl ho1 rfl (fun v4 g5 hm6 => ?_)
  refine st_end ?_
  have hL7 := h
  refine st_ord [2, 1, 0] _ rfl ?_
  refine st_loopD hL7 (fun (s7 : K47) ρ τ7 gs => σ.Le τ7 ∧ ∃ (g8 : Grp), ESub ρ [(1, va1), (2, .func (.func 40) #[] #[]), (6, .bool false), (17, v4)] ∧ gs = [ga1, ga0, g8] ∧ MIt kPr (rSl (kI .i64)) τ7 v4 va0 s7 g8 ga0) ⟨LR, _, rfl, rfl, hm6⟩ ?_
  rintro s7 hD7 ρ7 τ7 gs7 ⟨hl7, g8, hρ, rfl, hm9⟩
  refine st_es hρ (Z 2 ?_)
  refine o_next (j := 2) (jm := 1) rfl rfl rfl kPr_inj rfl hm9 rfl rfl (fun hc => ?_) (fun p10 g11 v12 hp13 hv14 hm15 he16 => ?_)
  ·obtain ⟨o7, h, he7, hn7⟩ := hD7 none hc
   replace h := h.1 rfl
   refine Z 5 ?_
   replace h := he7 _ h
   refine st_ord [1, 0] _ rfl ?_
   exact hk3 _ _ _ ⟨(), h, hl7, rfl, rfl⟩
  ·obtain ⟨o7, h, he7, hn7⟩ := hD7 (some p10) hp13
   replace h := h.2 _ rfl
   refine Z 8 ?_
   refine o_entry (j := 2) (jm := 1) (p := p10) rfl rfl rfl rfl he16 rfl rfl (fun v17 hv18 => Z 2 ?_)
   refine o_alloc rfl rfl rfl z_zero89 (fun b19 => ZZ 7 [0, 0] ?_)
   refine o_lookR2 (rv := (rSl (kI .i64))) (q0 := []) (j := 1) (a := p10.1) rfl rfl rfl z_map74 z_keyP89 z_zeroV31 Sl.nil rfl (ho2.up hl7) rfl rfl (fun v20 hv21 => Z 7 ?_)
   refine cutS τ7 (fun (s22 : Bool) => maps_EqualFunc_map_fleet_lot_int_map_fleet_lot_int_fleet_lot_int_int__slices_Equal_int_int_j3 s7 p10 s22 o7) (fun s22 => [(1, va1), (2, .func (.func 40) #[] #[]), (6, .bool false), (17, v4), (37, .bool s22)]) (fun s22 => [ga1, g11, ga0]) (fun s22 τ22 h hl22 => ?_) (fun hk22 => ?_)
   ·refine I2 h (fun h => ?_) (fun h => ?_)
    ·refine Z 4 ?_
     refine st_ord [2, 0] _ rfl ?_
     replace h := he7 _ h
     obtain rfl := Eq.symm h
     exact st_ret (gs' := [ga0, ga1]) func39 rfl (List.Sublist.refl _) (hl7.trans hl22) ⟨rfl, rfl⟩
    ·refine Z 2 ?_
     refine st_ord [0, 1, 0] _ rfl ?_
     exact hn7 _ _ _ _ h ⟨(hl7.trans hl22), _, rfl, rfl, (hm15.up hl22)⟩
   refine Z 3 ?_
   refine M2 h (fun h => ?_) (fun h => ?_)
   ·refine Z 7 ?_
    refine st_ord [1, 2, 1] _ rfl ?_
    exact hk22 _ _ _ ⟨true, h, LR, rfl, rfl⟩
   ·refine Z 3 ?_
    obtain ⟨r23, hr24, h⟩ := h
    refine SC z_en40 (slices_Equal_int_int_ok hr24 τ7 hv18 hv21) ?_
    rintro _ τ25 _ hl26 ⟨rfl, rfl⟩
    refine Z 3 ?_
    refine st_ord [1, 2, 1] _ rfl ?_
    exact hk22 _ _ _ ⟨(!r23), h, hl26, rfl, rfl⟩
theorem fleet_Same_ok {a0 : List (Int × (Int × Int × Int × Int × Int × Bool × Bool × Int × Int × List (Int × Int) × Int × Int)) × List ((Int × Int) × List Int)} {a1 : List (Int × (Int × Int × Int × Int × Int × Bool × Bool × Int × Int × List (Int × Int) × Int × Int)) × List ((Int × Int) × List Int)} {ba0 : Nat} {v1 : Value} {g2 : Grp} {v3 : Value} {g4 : Grp} {ba1 : Nat} {v7 : Value} {g8 : Grp} {v9 : Value} {g10 : Grp} {r : Bool} (h : fleet_Same a0 a1 r) (σ : Sto) (ho5 : Mp (Value.int .i64) (rK (kP (kI .i64) (kP (kI .i64) (kP (kI .i64) (kP (kI .i64) (kP (kI .i64) (kP kB (kP kB (kP (kI .i64) (kP (kI .i64) (kP (kSl (kP (kI .i64) (kI .i64))) (kP (kI .i64) (kI .i64))))))))))))) σ v1 a0.1 g2) (ho6 : Mp kPr (rSl (kI .i64)) σ v3 a0.2 g4) (ho11 : Mp (Value.int .i64) (rK (kP (kI .i64) (kP (kI .i64) (kP (kI .i64) (kP (kI .i64) (kP (kI .i64) (kP kB (kP kB (kP (kI .i64) (kP (kI .i64) (kP (kSl (kP (kI .i64) (kI .i64))) (kP (kI .i64) (kI .i64))))))))))))) σ v7 a1.1 g8) (ho12 : Mp kPr (rSl (kI .i64)) σ v9 a1.2 g10) :
    Does prog 14 [.Pb ba0, .Pb ba1] σ [[(ba0, .cells [v1, v3].toArray 76 (0, 0))], g2, g4, [(ba1, .cells [v7, v9].toArray 76 (0, 0))], g8, g10] (fun v τ gs => gs = [[(ba0, .cells [v1, v3].toArray 76 (0, 0))], g2, g4, [(ba1, .cells [v7, v9].toArray 76 (0, 0))], g8, g10] ∧ .bool r = v) := by
 refine CO func14 ntmps14 rfl (fun cs fs => Z 21 ?_)
 obtain ⟨r13, hr14, r18, hr19, h⟩ := h
 let cc17 : Prop := r13 = true
 refine st_draw 20 (dl [.v (.Pb ba0), .v (.Pb ba0), .v (.Pb ba0), .v (v1), .v (.Pb ba1), .v (.Pb ba1), .v (.Pb ba1), .v (v7), .v (.bool r13), .v (.bool r13), .g cc17 (.Pb ba0), .g cc17 (.Pb ba0), .g cc17 (.pointer (some ⟨ba0, 1, none⟩)), .g cc17 (v3), .g cc17 (.Pb ba1), .g cc17 (.Pb ba1), .g cc17 (.pointer (some ⟨ba1, 1, none⟩)), .g cc17 (v9), .g cc17 (.bool r18), .v (.bool (r13 && r18))]) (fun _ _ => []) z_mix rfl (dl_mono trivial) (allB_cons (allB_cons (allB_cons (allB_cons (allB_cons (allB_cons (allB_cons (allB_cons (allB_cons (allB_cons (allB_cons (allB_cons (allB_cons (allB_cons (allB_cons (allB_cons (allB_cons (allB_cons (allB_cons (allB_cons allB_nil (p1 dA)) (p1 dA)) (p1 dA)) ?_) (p1 dA)) (p1 dA)) (p1 dA)) ?_) ?_) (p1 dA)) (p1 (dG []))) (p1 (dG [10]))) (p1 (dG [11]))) ?_) (p1 (dG []))) (p1 (dG [14]))) (p1 (dG [15]))) ?_) ?_) (p1 dK)) ?_
 ·intro ρ' τ pq rs hl hd hq hk
  obtain ⟨_, e2, rfl⟩ := hd 2 rfl
  refine o_load (j := 0) (v := v1) rfl rfl rfl z_sc73 e2 rfl rfl ?_
  exact st_addNil (hk _ _ LR rfl)
 ·intro ρ' τ pq rs hl hd hq hk
  obtain ⟨_, e6, rfl⟩ := hd 6 rfl
  refine o_load (j := 3) (v := v7) rfl rfl rfl z_sc73 e6 rfl rfl ?_
  exact st_addNil (hk _ _ LR rfl)
 ·intro ρ' τ pq rs hl hd hq hk
  obtain ⟨_, e3, rfl⟩ := hd 3 rfl
  obtain ⟨_, e7, rfl⟩ := hd 7 rfl
  refine st_ord [1, 3, 0, 0, 0, 0, 0] _ rfl ?_
  refine st_call (foot := [g2, g8]) rfl rfl rfl rfl (evs_cons e3 (evs_cons e7 (evs_cons rfl rfl))) rfl (callV_fn z_en37 (maps_EqualFunc_map_int_fleet_Robot_map_int_fleet_Robot_int_fleet_Robot_fleet_Robot__fleet_same_ok hr14 τ (ho5.up hl) (ho11.up hl))) ?_
  rintro _ τ15 _ hl16 ⟨rfl, rfl⟩
  refine st_ord [2, 0, 1, 1, 0, 0, 0] _ rfl ?_
  exact st_addNil (hk _ _ hl16 rfl)
 ·intro ρ' τ pq rs hl hd hq hk
  obtain ⟨_, e9, rfl⟩ := hd 9 rfl
  obtain ⟨w12, e12, t12⟩ := hd 12 rfl
  by_cases hG : r13 = true
  ·have hC := hG
   obtain ⟨rfl⟩ := t12.1 hC
   refine o_load (j := 0) (v := v3) rfl (wants_of rfl e9 hG) rfl z_sc74 e12 rfl rfl ?_
   exact st_addNil (hk _ _ LR ⟨fun _ => rfl, fun hn => absurd hC hn⟩)
  ·refine st_pass rfl rfl rfl e9 (beq_off hG) rfl ?_
   exact st_addNil (hk _ _ LR ⟨fun h => absurd h hG, fun _ => rfl⟩)
 ·intro ρ' τ pq rs hl hd hq hk
  obtain ⟨_, e9, rfl⟩ := hd 9 rfl
  obtain ⟨w16, e16, t16⟩ := hd 16 rfl
  by_cases hG : r13 = true
  ·have hC := hG
   obtain ⟨rfl⟩ := t16.1 hC
   refine o_load (j := 3) (v := v9) rfl (wants_of rfl e9 hG) rfl z_sc74 e16 rfl rfl ?_
   exact st_addNil (hk _ _ LR ⟨fun _ => rfl, fun hn => absurd hC hn⟩)
  ·refine st_pass rfl rfl rfl e9 (beq_off hG) rfl ?_
   exact st_addNil (hk _ _ LR ⟨fun h => absurd h hG, fun _ => rfl⟩)
 ·intro ρ' τ pq rs hl hd hq hk
  obtain ⟨_, e9, rfl⟩ := hd 9 rfl
  obtain ⟨w13, e13, t13⟩ := hd 13 rfl
  obtain ⟨w17, e17, t17⟩ := hd 17 rfl
  by_cases hG : r13 = true
  ·have hC := hG
   replace hr19 := hr19 hC
   obtain ⟨rfl⟩ := t13.1 hC
   obtain ⟨rfl⟩ := t17.1 hC
   refine st_ord [2, 4, 0, 0, 0, 0, 0] _ rfl ?_
   refine st_call (foot := [g4, g10]) rfl (wants_of rfl e9 hG) rfl rfl (evs_cons e13 (evs_cons e17 (evs_cons rfl rfl))) rfl (callV_fn z_en39 (maps_EqualFunc_map_fleet_lot_int_map_fleet_lot_int_fleet_lot_int_int__slices_Equal_int_int_ok hr19 τ (ho6.up hl) (ho12.up hl))) ?_
   rintro _ τ20 _ hl21 ⟨rfl, rfl⟩
   refine st_ord [2, 2, 0, 1, 1, 0, 0] _ rfl ?_
   exact st_addNil (hk _ _ hl21 ⟨fun _ => rfl, fun hn => absurd hC hn⟩)
  ·refine st_pass rfl rfl rfl e9 (beq_off hG) rfl ?_
   exact st_addNil (hk _ _ LR ⟨fun h => absurd h hG, fun _ => rfl⟩)
 intro ρ' τ22 vals hl22 hv hq
 refine st_ord [0, 0, 0, 0, 0, 0] _ rfl ?_
 refine st_env (ρ' := [(30, .bool (r13 && r18)), (4, .bool false)]) ⟨(lv1 hv 19 rfl rfl), oT hq 4, trivial⟩ (Z 2 ?_)
 obtain rfl := Eq.symm h
 exact st_ret (gs' := [[(ba0, .cells #[v1, v3] 76 (0, 0))], g2, g4, [(ba1, .cells #[v7, v9] 76 (0, 0))], g8, g10]) func14 rfl (List.Sublist.refl _) hl22 ⟨rfl, rfl⟩
theorem law30_known_ok  {r : Bool} (h : law30_known r) (σ : Sto)  :
    Does prog 24 [] σ [] (fun v τ gs => gs = [] ∧ .bool r = v) := by
 refine CO func24 ntmps24 rfl (fun cs fs => Z 6 ?_)
 obtain ⟨r1, hr2, h⟩ := h
 refine SC z_en5 (fleet_New_ok hr2 σ) ?_
 rintro _ τ3 _ hl4 ⟨b5, v6, g7, v8, g9, rfl, rfl, ho10, ho11⟩
 refine Z 9 ?_
 refine o_buildA (ps := [(0, [.I 1]), (1, [.I 5]), (2, [.I 1])]) (cs := [.I 1, .I 5, .I 1, .I 0, .I 0, .I 0]) rfl rfl rfl z_arrz29 ⟨rfl, ⟨_, rfl, rfl⟩, ⟨rfl, ⟨_, rfl, rfl⟩, ⟨rfl, ⟨_, rfl, rfl⟩, trivial⟩⟩⟩ rfl ?_
 refine o_litE (eI .i64) [1, 2] rfl rfl rfl z_slT31 z_zero3 ⟨rfl, ⟨_, rfl, rfl⟩, ⟨rfl, ⟨_, rfl, rfl⟩, trivial⟩⟩ rfl rfl rfl rfl (fun v12 g13 ho14 => ?_)
 refine o_build (ps := [(0, [.I 3]), (1, [.I 1, .I 5, .I 1, .I 0, .I 0, .I 0]), (3, [v12])]) rfl rfl rfl z_struct33 ⟨rfl, ⟨_, rfl, rfl⟩, ⟨rfl, ⟨_, rfl, rfl⟩, ⟨rfl, ⟨_, rfl, (oneL_ow ho14)⟩, trivial⟩⟩⟩ rfl ?_
 refine o_buildA (ps := [(0, [.I 2]), (1, [.I 5]), (2, [.I 1])]) (cs := [.I 2, .I 5, .I 1, .I 0, .I 0, .I 0]) rfl rfl rfl z_arrz29 ⟨rfl, ⟨_, rfl, rfl⟩, ⟨rfl, ⟨_, rfl, rfl⟩, ⟨rfl, ⟨_, rfl, rfl⟩, trivial⟩⟩⟩ rfl ?_
 refine o_litE (eI .i64) [2, 3] rfl rfl rfl z_slT31 z_zero3 ⟨rfl, ⟨_, rfl, rfl⟩, ⟨rfl, ⟨_, rfl, rfl⟩, trivial⟩⟩ rfl rfl rfl rfl (fun v15 g16 ho17 => ?_)
 refine o_build (ps := [(0, [.I 3]), (1, [.I 2, .I 5, .I 1, .I 0, .I 0, .I 0]), (3, [v15])]) rfl rfl rfl z_struct33 ⟨rfl, ⟨_, rfl, rfl⟩, ⟨rfl, ⟨_, rfl, rfl⟩, ⟨rfl, ⟨_, rfl, (oneL_ow ho17)⟩, trivial⟩⟩⟩ rfl ?_
 refine st_ord [1, 0, 0, 0, 0] _ rfl ?_
 refine st_freeze (fun τ18 hl19 hg20 => ?_)
 have hs21 := ho14.freeze hl19 hg20
 refine st_freeze (fun τ23 hl24 hg25 => ?_)
 have hs26 := ho17.freeze (hl19.trans hl24) hg25
 refine o_lit (dk := (kP (kI .i64) (kP (kA .i64 6) (kP (kSl (kP (kI .i64) (kI .i64))) (kP (kSl (kI .i64)) (kP kS kS)))))) (xs := [(3, [1, 5, 1, 0, 0, 0], [], [1, 2], (bstr []), (bstr [])), (3, [2, 5, 1, 0, 0, 0], [], [2, 3], (bstr []), (bstr []))]) (ps := [(0, [.I 3, .I 1, .I 5, .I 1, .I 0, .I 0, .I 0, .N0, v12, .E0, .E0]), (1, [.I 3, .I 2, .I 5, .I 1, .I 0, .I 0, .I 0, .N0, v15, .E0, .E0])]) (cs := [.I 3, .I 1, .I 5, .I 1, .I 0, .I 0, .I 0, .N0, v12, .E0, .E0, .I 3, .I 2, .I 5, .I 1, .I 0, .I 0, .I 0, .N0, v15, .E0, .E0]) rfl rfl rfl z_slT84 z_zero33 ⟨rfl, ⟨_, rfl, rfl⟩, ⟨rfl, ⟨_, rfl, rfl⟩, trivial⟩⟩ rfl rfl rfl rfl (Kd.Many.cons (d := (kP (kI .i64) (kP (kA .i64 6) (kP (kSl (kP (kI .i64) (kI .i64))) (kP (kSl (kI .i64)) (kP kS kS)))))) (x := (3, [1, 5, 1, 0, 0, 0], [], [1, 2], (bstr []), (bstr []))) (a := [.I 3, .I 1, .I 5, .I 1, .I 0, .I 0, .I 0, .N0, v12, .E0, .E0]) ⟨[.I 3], _, rfl, rfl, ⟨[.I 1, .I 5, .I 1, .I 0, .I 0, .I 0], _, rfl, rfl, ⟨[.N0], _, rfl, ⟨_, rfl, Sl.nil⟩, ⟨[v12], _, rfl, ⟨_, rfl, (hs21.up hl24)⟩, ⟨[.E0], _, rfl, rfl, rfl⟩⟩⟩⟩⟩ (Kd.Many.cons (d := (kP (kI .i64) (kP (kA .i64 6) (kP (kSl (kP (kI .i64) (kI .i64))) (kP (kSl (kI .i64)) (kP kS kS)))))) (x := (3, [2, 5, 1, 0, 0, 0], [], [2, 3], (bstr []), (bstr []))) (a := [.I 3, .I 2, .I 5, .I 1, .I 0, .I 0, .I 0, .N0, v15, .E0, .E0]) ⟨[.I 3], _, rfl, rfl, ⟨[.I 2, .I 5, .I 1, .I 0, .I 0, .I 0], _, rfl, rfl, ⟨[.N0], _, rfl, ⟨_, rfl, Sl.nil⟩, ⟨[v15], _, rfl, ⟨_, rfl, hs26⟩, ⟨[.E0], _, rfl, rfl, rfl⟩⟩⟩⟩⟩ Kd.Many.nil)) (fun v28 g29 ho30 => ?_)
 obtain ⟨r35, hr36, h⟩ := h
 refine st_freeze (fun τ31 hl32 hg33 => ?_)
 have hs34 := ho30.freeze hl32 hg33
 refine st_call (foot := [[(b5, .cells #[v6, v8] 76 (0, 0))], g7, g9]) rfl rfl rfl rfl rfl rfl (callV_fn z_en9 (fleet_Fleet_Apply_ok hr36 τ31 (ho10.up ((hl19.trans hl24).trans hl32)) (ho11.up ((hl19.trans hl24).trans hl32)) hs34)) ?_
 rintro _ τ37 _ hl38 ⟨v39, g40, v41, g42, rfl, rfl, ho43, ho44⟩
 refine Z 3 ?_
 refine I2 h (fun h => ?_) (fun h => ?_)
 ·refine Z 4 ?_
  obtain rfl := h.symm
  exact RT func24 rfl ((((hl4.trans hl19).trans hl24).trans hl32).trans hl38) ⟨rfl, rfl⟩
 ·refine Z 4 ?_
  obtain ⟨r45, hr46, h⟩ := h
  refine st_call (foot := [[(b5, .cells #[v39, v41] 76 (0, 0))], g40, g42]) rfl rfl rfl rfl rfl rfl (callV_fn z_en26 (fleet_Fleet_Contested_ok hr46 τ37 ho43 ho44)) ?_
  rintro _ τ47 _ hl48 ⟨v49, rfl, rfl, hs50⟩
  refine Z 3 ?_
  refine cutS τ47 (fun (s51 : Bool) => law30_known_j1 s51 r) (fun s51 => [(0, .bool s51)]) (fun s51 => []) (fun s51 τ51 h hl51 => ?_) (fun hk51 => ?_)
  ·obtain rfl := h.symm
   exact RT func24 rfl ((((((hl4.trans hl19).trans hl24).trans hl32).trans hl38).trans hl48).trans hl51) ⟨rfl, rfl⟩
  refine Z 2 ?_
  refine o_lenI rfl rfl rfl z_slT68 rfl hs50 ?_
  refine o_ibin (v := .bool (decide ((r45.length : Int) = 1))) rfl rfl rfl rfl rfl rfl ?_
  refine M2 h (fun h => ?_) (fun h => ?_)
  ·refine o_move rfl rfl rfl rfl ?_
   obtain ⟨q52, hf53, h⟩ := h
   refine o_index rfl rfl rfl z_slT68 rfl rfl hs50 rfl hf53 (fun b54 of55 vs hc56 hrep => ?_)
   obtain ⟨_, _, rfl, rfl, rfl⟩ := hrep
   refine o_loadIN (vs := [.I q52.1, .I q52.2]) rfl rfl rfl z_agg62 rfl rfl (celn_part 0 rfl hc56) (ZZ 1 [] ?_)
   refine o_aggEq (b := ((decide (q52.1 = 5)) && ((decide (q52.2 = 2)) && true))) (e := ((decide (q52.1 = 5)) && ((decide (q52.2 = 2)) && true))) rfl rfl rfl z_eqg62 rfl rfl (fun w => by refine eq_struct underlying62 z_held62 ?_; refine eqf_cons (r := (decide (q52.1 = 5))) (r' := ((decide (q52.2 = 2)) && true)) rfl (part_one z_sc3 rfl) (part_one z_sc3 rfl) (by exact eq_int underlying3 _ _) ?_; refine eqf_cons (r := (decide (q52.2 = 2))) (r' := true) rfl (part_one z_sc3 rfl) (part_one z_sc3 rfl) (by exact eq_int underlying3 _ _) ?_; exact eqf_nil _ _ _ _) rfl ?_
   refine Z 3 ?_
   refine st_ord [] _ rfl ?_
   exact hk51 _ _ _ ⟨((decide (q52.1 = 5)) && ((decide (q52.2 = 2)) && true)), h, LR, rfl, rfl⟩
  ·refine Z 8 ?_
   refine st_ord [] _ rfl ?_
   exact hk51 _ _ _ ⟨false, h, LR, rfl, rfl⟩
theorem law30_FleetPlays_ok {a0 : List (Int × Int × Int × Int × (TyM))} {v1 : Value} {r : Bool} (h : law30_FleetPlays a0 r) (σ : Sto) (hs2 : Sl (kP (kI .i64) (kP (kI .i64) (kP (kI .i64) (kP (kI .i64) (kP (kI .i64) (kP (kA .i64 6) (kP (kSl (kP (kI .i64) (kI .i64))) (kP (kSl (kI .i64)) (kP kS kS))))))))) σ v1 a0) (hT : Tab prog σ) :
    Does prog 3 [v1] σ [] (fun v τ gs => gs = [] ∧ .bool r = v) := by
 refine CO func3 ntmps3 rfl (fun cs fs => Z 6 ?_)
 obtain ⟨r3, hr4, h⟩ := h
 refine SC z_en5 (fleet_New_ok hr4 σ) ?_
 rintro _ τ5 _ hl6 ⟨b7, v8, g9, v10, g11, rfl, rfl, ho12, ho13⟩
 refine Z 12 ?_
 refine o_alloc rfl rfl rfl z_zero28 (fun b14 => Z 2 ?_)
 refine cutS τ5 (fun (s15 : Unit) => law30_FleetPlays_j1 s15 r) (fun s15 => [(2, .bool false)]) (fun s15 => []) (fun s15 τ15 h hl15 => (Z 2 ?_)) (fun hk15 => ?_)
 ·obtain ⟨r16, hr17, h⟩ := h
  refine SC z_en24 (law30_known_ok hr17 τ15) ?_
  rintro _ τ18 _ hl19 ⟨rfl, rfl⟩
  refine Z 2 ?_
  obtain rfl := h.symm
  exact RT func3 rfl ((hl6.trans hl15).trans hl19) ⟨rfl, rfl⟩
 refine Z 4 ?_
 obtain ⟨e20, hL20, hA20⟩ := h
 refine st_loop hL20 (fun (s20 : K2) ρ τ20 gs => τ5.Le τ20 ∧ ∃ (b21 : Nat) (v22 : Value) (g23 : Grp) (v24 : Value) (g25 : Grp) (v28 v30 : Value), ESub ρ [(0, v1), (2, .bool false), (3, .Pb b21), (4, .Pb b14), (5, .I s20.2.1)] ∧ gs = [[(b14, .cells #[v28, v30] 28 (0, 0))], [(b21, .cells #[v22, v24] 76 (0, 0))], g23, g25] ∧ Mp (Value.int .i64) (rK (kP (kI .i64) (kP (kI .i64) (kP (kI .i64) (kP (kI .i64) (kP (kI .i64) (kP kB (kP kB (kP (kI .i64) (kP (kI .i64) (kP (kSl (kP (kI .i64) (kI .i64))) (kP (kI .i64) (kI .i64))))))))))))) τ20 v22 s20.1.1 g23 ∧ Mp kPr (rSl (kI .i64)) τ20 v24 s20.1.2 g25 ∧ Sl (kP (kI .i64) (kP (kA .i64 6) (kP (kSl (kA .i64 2)) (kP (kSl (kI .i64)) (kP kS kS))))) τ20 v28 s20.2.2.1 ∧ Sl (kP (kI .i64) (kP (kI .i64) (kSl (kI .i64)))) τ20 v30 s20.2.2.2) ⟨LR, _, _, _, _, _, _, _, rfl, rfl, ho12, ho13, Sl.nil, Sl.nil⟩ ?_
 rintro s20 o20 h he20 ρ20 τ20 gs20 ⟨hl20, b21, v22, g23, v24, g25, v28, v30, hρ, rfl, ho26, ho27, hs29, hs31⟩ hn20
 refine st_es hρ (Z 2 ?_)
 refine cutS τ20 (fun (s32 : Bool) => law30_FleetPlays_j3 a0 s20 s32 o20) (fun s32 => [(0, v1), (2, .bool false), (3, .Pb b21), (4, .Pb b14), (5, .I s20.2.1), (28, .bool s32)]) (fun s32 => [[(b14, .cells #[v28, v30] 28 (0, 0))], [(b21, .cells #[v22, v24] 76 (0, 0))], g23, g25]) (fun s32 τ32 h hl32 => ?_) (fun hk32 => ?_)
 ·refine I2 h (fun h => ?_) (fun h => ?_)
  ·refine Z 7 ?_
   obtain ⟨q33, hf34, h⟩ := h
   refine o_index rfl rfl rfl z_slT22 rfl rfl (hs2.up ((hl6.trans hl20).trans hl32)) rfl hf34 (fun b35 of36 vs hc39 hrep => ?_)
   obtain ⟨_, _, rfl, rfl, ⟨_, _, rfl, rfl, ⟨_, _, rfl, rfl, ⟨_, _, rfl, rfl, ⟨_, _, rfl, rfl, ⟨_, _, rfl, rfl, ⟨_, _, rfl, ⟨v37, rfl, hs40⟩, ⟨_, _, rfl, ⟨v38, rfl, hs41⟩, ⟨_, _, rfl, rfl, rfl⟩⟩⟩⟩⟩⟩⟩⟩⟩ := hrep
   refine o_loadIN (vs := [.I q33.1, .I q33.2.1, .I q33.2.2.1, .I q33.2.2.2.1, .I q33.t4.1, .I (q33.t4.2.1.getD 0 0), .I (q33.t4.2.1.getD 1 0), .I (q33.t4.2.1.getD 2 0), .I (q33.t4.2.1.getD 3 0), .I (q33.t4.2.1.getD 4 0), .I (q33.t4.2.1.getD 5 0), v37, v38, .string q33.t4.t4.1, .string q33.t4.t4.2]) rfl rfl rfl z_agg35 rfl rfl (celn_part 0 rfl hc39) ?_
   refine o_alloc rfl rfl rfl z_zero35 (fun b42 => ?_)
   refine o_store (j := 0) (vs := [.I q33.1, .I q33.2.1, .I q33.2.2.1, .I q33.2.2.2.1, .I q33.t4.1, .I (q33.t4.2.1.getD 0 0), .I (q33.t4.2.1.getD 1 0), .I (q33.t4.2.1.getD 2 0), .I (q33.t4.2.1.getD 3 0), .I (q33.t4.2.1.getD 4 0), .I (q33.t4.2.1.getD 5 0), v37, v38, .string q33.t4.t4.1, .string q33.t4.t4.2]) (cs' := [.I q33.1, .I q33.2.1, .I q33.2.2.1, .I q33.2.2.2.1, .I q33.t4.1, .I (q33.t4.2.1.getD 0 0), .I (q33.t4.2.1.getD 1 0), .I (q33.t4.2.1.getD 2 0), .I (q33.t4.2.1.getD 3 0), .I (q33.t4.2.1.getD 4 0), .I (q33.t4.2.1.getD 5 0), v37, v38, .string q33.t4.t4.1, .string q33.t4.t4.2]) rfl rfl rfl z_size35 rfl rfl rfl (o4 (o4 (ones_cons rfl (ones_cons rfl (ones_cons rfl (ones_cons hs40.one' (ones_cons hs41.one' (ones_cons rfl (ones_cons rfl ones_nil))))))))) rfl rfl rfl (ZZ 5 [0] ?_)
   obtain ⟨r43, hr44, h⟩ := h
   refine SC z_en6 (law17_Cut_ok hr44 τ32 hs40 hs41) ?_
   rintro _ τ45 _ hl46 ⟨v47, v48, rfl, rfl, hs49, hs50⟩
   refine o_alloc rfl rfl rfl z_zero33 (fun b51 => ?_)
   refine o_store (j := 0) (vs := (lM r43 v47 v48)) (cs' := (lM r43 v47 v48)) rfl rfl rfl z_size33 rfl rfl rfl (o4 (ones_cons rfl (ones_cons rfl (ones_cons rfl (ones_cons hs49.one' (ones_cons hs50.one' (ones_cons rfl (ones_cons rfl ones_nil)))))))) rfl rfl rfl (Z 2 ?_)
   refine st_cut (fun ρ τ52 gs => ∃ (s52 : K8) (b53 : Nat) (v54 : Value) (g55 : Grp) (v56 : Value) (g57 : Grp) (v60 v62 : Value), law30_FleetPlays_j4 s20 q33 s52 o20 ∧ τ45.Le τ52 ∧ ESub ρ [(0, v1), (2, .bool false), (3, .Pb b53), (4, .Pb b14), (5, .I s20.2.1), (6, .Pb b42)] ∧ gs = [[(b14, .cells #[v60, v62] 28 (0, 0))], [(b42, .cells #[.I q33.1, .I q33.2.1, .I q33.2.2.1, .I q33.2.2.2.1, .I q33.t4.1, .I (q33.t4.2.1.getD 0 0), .I (q33.t4.2.1.getD 1 0), .I (q33.t4.2.1.getD 2 0), .I (q33.t4.2.1.getD 3 0), .I (q33.t4.2.1.getD 4 0), .I (q33.t4.2.1.getD 5 0), v37, v38, .string q33.t4.t4.1, .string q33.t4.t4.2] 35 (0, 0))], [(b53, .cells #[v54, v56] 76 (0, 0))], g55, g57] ∧ Mp (Value.int .i64) (rK (kP (kI .i64) (kP (kI .i64) (kP (kI .i64) (kP (kI .i64) (kP (kI .i64) (kP kB (kP kB (kP (kI .i64) (kP (kI .i64) (kP (kSl (kP (kI .i64) (kI .i64))) (kP (kI .i64) (kI .i64))))))))))))) τ52 v54 s52.1.1 g55 ∧ Mp kPr (rSl (kI .i64)) τ52 v56 s52.1.2 g57 ∧ Sl (kP (kI .i64) (kP (kA .i64 6) (kP (kSl (kA .i64 2)) (kP (kSl (kI .i64)) (kP kS kS))))) τ52 v60 s52.2.1 ∧ Sl (kP (kI .i64) (kP (kI .i64) (kSl (kI .i64)))) τ52 v62 s52.2.2) ?_ (fun hk52 => ?_)
   ·rintro ρ52 τ52 gs52 ⟨s52, b53, v54, g55, v56, g57, v60, v62, h, hl52, hρ, rfl, ho58, ho59, hs61, hs63⟩
    refine st_es hρ (ZZ 5 [1] ?_)
    obtain ⟨r64, hr65, h⟩ := h
    refine st_ord [2, 2, 2, 0, 0] _ rfl ?_
    refine st_call (foot := [[(b53, .cells #[v54, v56] 76 (0, 0))], g55, g57]) rfl rfl rfl rfl rfl rfl (callV_fn z_en15 (fleet_Fleet_Robot_ok hr65 τ52 ho58 ho59)) ?_
    rintro _ τ66 _ hl67 ⟨v68, rfl, rfl, hs69⟩
    refine Z 3 ?_
    refine o_alloc rfl rfl rfl z_zero49 (fun b70 => ?_)
    refine o_store (j := 0) (vs := [.I r64.1.1, .I r64.1.2.1, .I r64.1.2.2.1, .I r64.1.2.2.2.1, .I r64.1.t4.1, .bool r64.1.t4.2.1, .bool r64.1.t4.2.2.1, .I r64.1.t4.2.2.2.1, .I r64.1.t4.t4.1, v68, .I r64.1.t4.t4.2.2.1, .I r64.1.t4.t4.2.2.2]) (cs' := [.I r64.1.1, .I r64.1.2.1, .I r64.1.2.2.1, .I r64.1.2.2.2.1, .I r64.1.t4.1, .bool r64.1.t4.2.1, .bool r64.1.t4.2.2.1, .I r64.1.t4.2.2.2.1, .I r64.1.t4.t4.1, v68, .I r64.1.t4.t4.2.2.1, .I r64.1.t4.t4.2.2.2]) rfl rfl rfl z_size49 rfl rfl rfl (o4 (o4 (ones_cons rfl (ones_cons hs69.one' (ones_cons rfl (ones_cons rfl ones_nil)))))) rfl rfl rfl (ZZ 9 [4] ?_)
    obtain ⟨r71, hr72, h⟩ := h
    refine SC z_en16 (ref30_Robots_ok hr72 τ66 (hs61.up hl67) (hs63.up hl67)) ?_
    rintro _ τ73 _ hl74 ⟨v75, rfl, rfl, hs76⟩
    refine Z 3 ?_
    refine cutS τ73 (fun (s77 : Bool) => law30_FleetPlays_j5 s20 q33 s52 r64 s77 o20) (fun s77 => [(0, v1), (2, .bool false), (3, .Pb b53), (4, .Pb b14), (5, .I s20.2.1), (6, .Pb b42), (13, .Pb b70), (14, .bool r64.2), (15, .bool s77)]) (fun s77 => [[(b14, .cells #[v60, v62] 28 (0, 0))], [(b42, .cells #[.I q33.1, .I q33.2.1, .I q33.2.2.1, .I q33.2.2.2.1, .I q33.t4.1, .I (q33.t4.2.1.getD 0 0), .I (q33.t4.2.1.getD 1 0), .I (q33.t4.2.1.getD 2 0), .I (q33.t4.2.1.getD 3 0), .I (q33.t4.2.1.getD 4 0), .I (q33.t4.2.1.getD 5 0), v37, v38, .string q33.t4.t4.1, .string q33.t4.t4.2] 35 (0, 0))], [(b53, .cells #[v54, v56] 76 (0, 0))], [(b70, .cells #[.I r64.1.1, .I r64.1.2.1, .I r64.1.2.2.1, .I r64.1.2.2.2.1, .I r64.1.t4.1, .bool r64.1.t4.2.1, .bool r64.1.t4.2.2.1, .I r64.1.t4.2.2.2.1, .I r64.1.t4.t4.1, v68, .I r64.1.t4.t4.2.2.1, .I r64.1.t4.t4.2.2.2] 49 (0, 0))], g55, g57]) (fun s77 τ77 h hl77 => ?_) (fun hk77 => ?_)
    ·refine st_seq ?_
     obtain ⟨r79, hr80, r85, hr86, r91, hr92, r96, hr97, r102, hr103, r108, hr109, r113, hr114, r119, hr120, r125, hr126, h⟩ := h
     let cc78 : Prop := false = false
     let cc83 : Prop := (false || (!r79)) = false
     let cc84 : Prop := ((false || (!r79)) || (!(decide (r64.2 = s77)))) = false
     let cc95 : Prop := (((false || (!r79)) || (!(decide (r64.2 = s77)))) || (!r91)) = false
     let cc112 : Prop := ((((false || (!r79)) || (!(decide (r64.2 = s77)))) || (!r91)) || (!r108)) = false
     refine st_draw 55 (dl [.v (.Pb b53), .v (.bool false), .v (.bool false), .g cc78 (.Pb b53), .g cc78 (.agg #[v60, v62]), .g cc78 (.bool r79), .g cc78 (.bool (!r79)), .v (.bool (false || (!r79))), .v (.bool (false || (!r79))), .g cc83 (.bool r64.2), .g cc83 (.bool s77), .g cc83 (.bool (!(decide (r64.2 = s77)))), .v (.bool ((false || (!r79)) || (!(decide (r64.2 = s77))))), .v (.bool ((false || (!r79)) || (!(decide (r64.2 = s77))))), .g cc84 (.agg #[.I r64.1.1, .I r64.1.2.1, .I r64.1.2.2.1, .I r64.1.2.2.2.1, .I r64.1.t4.1, .bool r64.1.t4.2.1, .bool r64.1.t4.2.2.1, .I r64.1.t4.2.2.2.1, .I r64.1.t4.t4.1, v68, .I r64.1.t4.t4.2.2.1, .I r64.1.t4.t4.2.2.2]), .g cc84 (.agg #[v60, v62]), .g cc84 (.pointer (some ⟨b42, 1, none⟩)), .g cc84 (.I q33.2.1), .h cc84 fun τ v => ∃ (v89 : Value), (.agg #[.I r85.1, .I r85.2.1, .I r85.2.2.1, .I r85.2.2.2.1, .I r85.t4.1, .bool r85.t4.2.1, .bool r85.t4.2.2.1, .I r85.t4.2.2.2.1, .I r85.t4.t4.1, v89, .I r85.t4.t4.2.2.1, .I r85.t4.t4.2.2.2] : Value) = v ∧ Sl (kA .i64 2) τ v89 r85.t4.t4.2.1, .g cc84 (.bool r91), .g cc84 (.bool (!r91)), .v (.bool (((false || (!r79)) || (!(decide (r64.2 = s77)))) || (!r91))), .v (.bool (((false || (!r79)) || (!(decide (r64.2 = s77)))) || (!r91))), .g cc95 (.Pb b53), .g cc95 (.pointer (some ⟨b42, 1, none⟩)), .g cc95 (.I q33.2.1), .g cc95 (.pointer (some ⟨b42, 2, none⟩)), .g cc95 (.I q33.2.2.1), .h cc95 fun τ v => ∃ (v100 : Value), (v100 : Value) = v ∧ Sl (kI .i64) τ v100 r96, .g cc95 (.agg #[v60, v62]), .g cc95 (.pointer (some ⟨b42, 1, none⟩)), .g cc95 (.I q33.2.1), .g cc95 (.pointer (some ⟨b42, 2, none⟩)), .g cc95 (.I q33.2.2.1), .h cc95 fun τ v => ∃ (v106 : Value), (v106 : Value) = v ∧ Sl (kI .i64) τ v106 r102, .g cc95 (.bool r108), .g cc95 (.bool (!r108)), .v (.bool ((((false || (!r79)) || (!(decide (r64.2 = s77)))) || (!r91)) || (!r108))), .v (.bool ((((false || (!r79)) || (!(decide (r64.2 = s77)))) || (!r91)) || (!r108))), .g cc112 (.Pb b53), .g cc112 (.pointer (some ⟨b42, 2, none⟩)), .g cc112 (.I q33.2.2.1), .g cc112 (.pointer (some ⟨b42, 3, none⟩)), .g cc112 (.I q33.2.2.2.1), .g cc112 (.agg #[.I q33.2.2.1, .I q33.2.2.2.1]), .h cc112 fun τ v => ∃ (v117 : Value), (v117 : Value) = v ∧ Sl (kI .i64) τ v117 r113, .g cc112 (.agg #[v60, v62]), .g cc112 (.pointer (some ⟨b42, 2, none⟩)), .g cc112 (.I q33.2.2.1), .g cc112 (.pointer (some ⟨b42, 3, none⟩)), .g cc112 (.I q33.2.2.2.1), .h cc112 fun τ v => ∃ (v123 : Value), (v123 : Value) = v ∧ Sl (kI .i64) τ v123 r119, .g cc112 (.bool r125), .g cc112 (.bool (!r125)), .v (.bool (((((false || (!r79)) || (!(decide (r64.2 = s77)))) || (!r91)) || (!r108)) || (!r125)))]) (fun _ _ => []) z_mix rfl (dl_mono (by exact ⟨fun _ _ _ hl ⟨v89, hv, hs90⟩ => ⟨v89, hv, hs90.up hl⟩, ⟨fun _ _ _ hl ⟨v100, hv, hs101⟩ => ⟨v100, hv, hs101.up hl⟩, ⟨fun _ _ _ hl ⟨v106, hv, hs107⟩ => ⟨v106, hv, hs107.up hl⟩, ⟨fun _ _ _ hl ⟨v117, hv, hs118⟩ => ⟨v117, hv, hs118.up hl⟩, ⟨fun _ _ _ hl ⟨v123, hv, hs124⟩ => ⟨v123, hv, hs124.up hl⟩, trivial⟩⟩⟩⟩⟩)) (allB_cons (allB_cons (allB_cons (allB_cons (allB_cons (allB_cons (allB_cons (allB_cons (allB_cons (allB_cons (allB_cons (allB_cons (allB_cons (allB_cons (allB_cons (allB_cons (allB_cons (allB_cons (allB_cons (allB_cons (allB_cons (allB_cons (allB_cons (allB_cons (allB_cons (allB_cons (allB_cons (allB_cons (allB_cons (allB_cons (allB_cons (allB_cons (allB_cons (allB_cons (allB_cons (allB_cons (allB_cons (allB_cons (allB_cons (allB_cons (allB_cons (allB_cons (allB_cons (allB_cons (allB_cons (allB_cons (allB_cons (allB_cons (allB_cons (allB_cons (allB_cons (allB_cons (allB_cons (allB_cons (allB_cons allB_nil (p1 dA)) (p1 dA)) (p1 dA)) ?_) ?_) ?_) ?_) ?_) (p1 dA)) (p1 (dG []))) (p1 (dG []))) (p1 (dG [9, 10]))) (p1 dO)) (p1 dA)) ?_) ?_) (p1 (dG []))) ?_) ?_) ?_) (p1 (dG [19]))) (p1 dO)) (p1 dA)) (p1 (dG []))) (p1 (dG []))) ?_) (p1 (dG []))) ?_) ?_) ?_) (p1 (dG []))) ?_) (p1 (dG []))) ?_) ?_) ?_) (p1 (dG [35]))) (p1 dO)) (p1 dA)) (p1 (dG []))) (p1 (dG []))) ?_) (p1 (dG []))) ?_) ?_) ?_) ?_) (p1 (dG []))) ?_) (p1 (dG []))) ?_) ?_) ?_) (p1 (dG [52]))) (p1 dO)) ?_
     ·intro ρ' τ pq rs hl hd hq hk
      obtain ⟨_, e2, rfl⟩ := hd 2 rfl
      by_cases hG : false = false
      ·have hC := hG
       refine o_move rfl (wants_of rfl e2 hG) rfl (oT hq 3) ?_
       exact st_addNil (hk _ _ LR ⟨fun _ => rfl, fun hn => absurd hC hn⟩)
      ·refine st_pass rfl rfl rfl e2 (beq_off hG) rfl ?_
       exact st_addNil (hk _ _ LR ⟨fun h => absurd h hG, fun _ => rfl⟩)
     ·intro ρ' τ pq rs hl hd hq hk
      obtain ⟨_, e2, rfl⟩ := hd 2 rfl
      by_cases hG : false = false
      ·have hC := hG
       refine o_loadN (j := 0) (vs := [v60, v62]) rfl (wants_of rfl e2 hG) rfl z_agg28 (oT hq 4) rfl rfl ?_
       exact st_addNil (hk _ _ LR ⟨fun _ => rfl, fun hn => absurd hC hn⟩)
      ·refine st_pass rfl rfl rfl e2 (beq_off hG) rfl ?_
       exact st_addNil (hk _ _ LR ⟨fun h => absurd h hG, fun _ => rfl⟩)
     ·intro ρ' τ pq rs hl hd hq hk
      obtain ⟨_, e2, rfl⟩ := hd 2 rfl
      obtain ⟨w3, e3, t3⟩ := hd 3 rfl
      obtain ⟨w4, e4, t4⟩ := hd 4 rfl
      by_cases hG : false = false
      ·have hC := hG
       replace hr80 := hr80 hC
       obtain ⟨rfl⟩ := t3.1 hC
       obtain ⟨rfl⟩ := t4.1 hC
       refine st_ord [2, 3, 3, 0, 0, 0, 0] _ rfl ?_
       refine st_call (foot := [[(b53, .cells #[v54, v56] 76 (0, 0))], g55, g57]) rfl (wants_of rfl e2 hG) rfl rfl (evs_cons e3 (evs_cons e4 rfl)) rfl (callV_fn z_en13 (law30_Alike_ok hr80 τ (ho58.up (((hl67.trans hl74).trans hl77).trans hl)) (ho59.up (((hl67.trans hl74).trans hl77).trans hl)) (hs61.up (((hl67.trans hl74).trans hl77).trans hl)) (hs63.up (((hl67.trans hl74).trans hl77).trans hl)) (hT.up ((((((((hl6.trans hl20).trans hl32).trans hl46).trans hl52).trans hl67).trans hl74).trans hl77).trans hl)))) ?_
       rintro _ τ81 _ hl82 ⟨rfl, rfl⟩
       refine st_ord [3, 3, 0, 2, 0, 0, 0] _ rfl ?_
       exact st_addNil (hk _ _ hl82 ⟨fun _ => rfl, fun hn => absurd hC hn⟩)
      ·refine st_pass rfl rfl rfl e2 (beq_off hG) rfl ?_
       exact st_addNil (hk _ _ LR ⟨fun h => absurd h hG, fun _ => rfl⟩)
     ·intro ρ' τ pq rs hl hd hq hk
      obtain ⟨_, e2, rfl⟩ := hd 2 rfl
      obtain ⟨w5, e5, t5⟩ := hd 5 rfl
      by_cases hG : false = false
      ·have hC := hG
       obtain ⟨rfl⟩ := t5.1 hC
       refine o_not rfl (wants_of rfl e2 hG) rfl e5 ?_
       exact st_addNil (hk _ _ LR ⟨fun _ => rfl, fun hn => absurd hC hn⟩)
      ·refine st_pass rfl rfl rfl e2 (beq_off hG) rfl ?_
       exact st_addNil (hk _ _ LR ⟨fun h => absurd h hG, fun _ => rfl⟩)
     ·intro ρ' τ pq rs hl hd hq hk
      obtain ⟨_, e2, rfl⟩ := hd 2 rfl
      obtain ⟨w6, e6, t6⟩ := hd 6 rfl
      refine o_pickOr rfl rfl rfl e2 rfl (fun hp => e6.trans (congrArg some (Eq.symm (t6.1 hp)))) ?_
      exact st_addNil (hk _ _ LR rfl)
     ·intro ρ' τ pq rs hl hd hq hk
      obtain ⟨_, e13, rfl⟩ := hd 13 rfl
      by_cases hG : ((false || (!r79)) || (!(decide (r64.2 = s77)))) = false
      ·have hC := hG
       refine o_loadN (j := 3) (vs := [.I r64.1.1, .I r64.1.2.1, .I r64.1.2.2.1, .I r64.1.2.2.2.1, .I r64.1.t4.1, .bool r64.1.t4.2.1, .bool r64.1.t4.2.2.1, .I r64.1.t4.2.2.2.1, .I r64.1.t4.t4.1, v68, .I r64.1.t4.t4.2.2.1, .I r64.1.t4.t4.2.2.2]) rfl (wants_of rfl e13 hG) rfl z_agg49 (oT hq 13) rfl rfl ?_
       exact st_addNil (hk _ _ LR ⟨fun _ => rfl, fun hn => absurd hC hn⟩)
      ·refine st_pass rfl rfl rfl e13 (beq_off hG) rfl ?_
       exact st_addNil (hk _ _ LR ⟨fun h => absurd h hG, fun _ => rfl⟩)
     ·intro ρ' τ pq rs hl hd hq hk
      obtain ⟨_, e13, rfl⟩ := hd 13 rfl
      by_cases hG : ((false || (!r79)) || (!(decide (r64.2 = s77)))) = false
      ·have hC := hG
       refine o_loadN (j := 0) (vs := [v60, v62]) rfl (wants_of rfl e13 hG) rfl z_agg28 (oT hq 4) rfl rfl ?_
       exact st_addNil (hk _ _ LR ⟨fun _ => rfl, fun hn => absurd hC hn⟩)
      ·refine st_pass rfl rfl rfl e13 (beq_off hG) rfl ?_
       exact st_addNil (hk _ _ LR ⟨fun h => absurd h hG, fun _ => rfl⟩)
     ·intro ρ' τ pq rs hl hd hq hk
      obtain ⟨_, e13, rfl⟩ := hd 13 rfl
      obtain ⟨w16, e16, t16⟩ := hd 16 rfl
      by_cases hG : ((false || (!r79)) || (!(decide (r64.2 = s77)))) = false
      ·have hC := hG
       obtain ⟨rfl⟩ := t16.1 hC
       refine o_load (j := 1) (v := .I q33.2.1) rfl (wants_of rfl e13 hG) rfl z_sc3 e16 rfl rfl ?_
       exact st_addNil (hk _ _ LR ⟨fun _ => rfl, fun hn => absurd hC hn⟩)
      ·refine st_pass rfl rfl rfl e13 (beq_off hG) rfl ?_
       exact st_addNil (hk _ _ LR ⟨fun h => absurd h hG, fun _ => rfl⟩)
     ·intro ρ' τ pq rs hl hd hq hk
      obtain ⟨_, e13, rfl⟩ := hd 13 rfl
      obtain ⟨w15, e15, t15⟩ := hd 15 rfl
      obtain ⟨w17, e17, t17⟩ := hd 17 rfl
      by_cases hG : ((false || (!r79)) || (!(decide (r64.2 = s77)))) = false
      ·have hC := hG
       replace hr86 := hr86 hC
       obtain ⟨rfl⟩ := t15.1 hC
       obtain ⟨rfl⟩ := t17.1 hC
       refine st_call (foot := []) rfl (wants_of rfl e13 hG) rfl rfl (evs_cons e15 (evs_cons e17 rfl)) rfl (callV_fn z_en18 (ref30_Robot_ok hr86 τ (hs61.up (((hl67.trans hl74).trans hl77).trans hl)) (hs63.up (((hl67.trans hl74).trans hl77).trans hl)))) ?_
       rintro _ τ87 _ hl88 ⟨v89, rfl, rfl, hs90⟩
       exact st_addNil (hk _ _ hl88 ⟨fun _ => ⟨v89, rfl, hs90⟩, fun hn => absurd hC hn⟩)
      ·refine st_pass rfl rfl rfl e13 (beq_off hG) rfl ?_
       exact st_addNil (hk _ _ LR ⟨fun h => absurd h hG, fun _ => rfl⟩)
     ·intro ρ' τ pq rs hl hd hq hk
      obtain ⟨_, e13, rfl⟩ := hd 13 rfl
      obtain ⟨w14, e14, t14⟩ := hd 14 rfl
      obtain ⟨w18, e18, t18⟩ := hd 18 rfl
      by_cases hG : ((false || (!r79)) || (!(decide (r64.2 = s77)))) = false
      ·have hC := hG
       replace hr92 := hr92 hC
       obtain ⟨rfl⟩ := t14.1 hC
       obtain ⟨v89, rfl, hs90⟩ := t18.1 hC
       refine st_call (foot := []) rfl (wants_of rfl e13 hG) rfl rfl (evs_cons e14 (evs_cons e18 rfl)) rfl (callV_fn z_en17 (law30_robot_ok hr92 τ (hs69.up ((hl74.trans hl77).trans hl)) hs90)) ?_
       rintro _ τ93 _ hl94 ⟨rfl, rfl⟩
       exact st_addNil (hk _ _ hl94 ⟨fun _ => rfl, fun hn => absurd hC hn⟩)
      ·refine st_pass rfl rfl rfl e13 (beq_off hG) rfl ?_
       exact st_addNil (hk _ _ LR ⟨fun h => absurd h hG, fun _ => rfl⟩)
     ·intro ρ' τ pq rs hl hd hq hk
      obtain ⟨_, e22, rfl⟩ := hd 22 rfl
      obtain ⟨w24, e24, t24⟩ := hd 24 rfl
      by_cases hG : (((false || (!r79)) || (!(decide (r64.2 = s77)))) || (!r91)) = false
      ·have hC := hG
       obtain ⟨rfl⟩ := t24.1 hC
       refine o_load (j := 1) (v := .I q33.2.1) rfl (wants_of rfl e22 hG) rfl z_sc3 e24 rfl rfl ?_
       exact st_addNil (hk _ _ LR ⟨fun _ => rfl, fun hn => absurd hC hn⟩)
      ·refine st_pass rfl rfl rfl e22 (beq_off hG) rfl ?_
       exact st_addNil (hk _ _ LR ⟨fun h => absurd h hG, fun _ => rfl⟩)
     ·intro ρ' τ pq rs hl hd hq hk
      obtain ⟨_, e22, rfl⟩ := hd 22 rfl
      obtain ⟨w26, e26, t26⟩ := hd 26 rfl
      by_cases hG : (((false || (!r79)) || (!(decide (r64.2 = s77)))) || (!r91)) = false
      ·have hC := hG
       obtain ⟨rfl⟩ := t26.1 hC
       refine o_load (j := 1) (v := .I q33.2.2.1) rfl (wants_of rfl e22 hG) rfl z_sc3 e26 rfl rfl ?_
       exact st_addNil (hk _ _ LR ⟨fun _ => rfl, fun hn => absurd hC hn⟩)
      ·refine st_pass rfl rfl rfl e22 (beq_off hG) rfl ?_
       exact st_addNil (hk _ _ LR ⟨fun h => absurd h hG, fun _ => rfl⟩)
     ·intro ρ' τ pq rs hl hd hq hk
      obtain ⟨_, e22, rfl⟩ := hd 22 rfl
      obtain ⟨w23, e23, t23⟩ := hd 23 rfl
      obtain ⟨w25, e25, t25⟩ := hd 25 rfl
      obtain ⟨w27, e27, t27⟩ := hd 27 rfl
      by_cases hG : (((false || (!r79)) || (!(decide (r64.2 = s77)))) || (!r91)) = false
      ·have hC := hG
       replace hr97 := hr97 hC
       obtain ⟨rfl⟩ := t23.1 hC
       obtain ⟨rfl⟩ := t25.1 hC
       obtain ⟨rfl⟩ := t27.1 hC
       refine st_ord [2, 3, 3, 0, 0, 0, 0] _ rfl ?_
       refine st_call (foot := [[(b53, .cells #[v54, v56] 76 (0, 0))], g55, g57]) rfl (wants_of rfl e22 hG) rfl rfl (evs_cons e23 (evs_cons e25 (evs_cons e27 rfl))) rfl (callV_fn z_en20 (fleet_Fleet_Cells_ok hr97 τ (ho58.up (((hl67.trans hl74).trans hl77).trans hl)) (ho59.up (((hl67.trans hl74).trans hl77).trans hl)))) ?_
       rintro _ τ98 _ hl99 ⟨v100, rfl, rfl, hs101⟩
       refine st_ord [3, 3, 0, 2, 0, 0, 0] _ rfl ?_
       exact st_addNil (hk _ _ hl99 ⟨fun _ => ⟨v100, rfl, hs101⟩, fun hn => absurd hC hn⟩)
      ·refine st_pass rfl rfl rfl e22 (beq_off hG) rfl ?_
       exact st_addNil (hk _ _ LR ⟨fun h => absurd h hG, fun _ => rfl⟩)
     ·intro ρ' τ pq rs hl hd hq hk
      obtain ⟨_, e22, rfl⟩ := hd 22 rfl
      by_cases hG : (((false || (!r79)) || (!(decide (r64.2 = s77)))) || (!r91)) = false
      ·have hC := hG
       refine o_loadN (j := 0) (vs := [v60, v62]) rfl (wants_of rfl e22 hG) rfl z_agg28 (oT hq 4) rfl rfl ?_
       exact st_addNil (hk _ _ LR ⟨fun _ => rfl, fun hn => absurd hC hn⟩)
      ·refine st_pass rfl rfl rfl e22 (beq_off hG) rfl ?_
       exact st_addNil (hk _ _ LR ⟨fun h => absurd h hG, fun _ => rfl⟩)
     ·intro ρ' τ pq rs hl hd hq hk
      obtain ⟨_, e22, rfl⟩ := hd 22 rfl
      obtain ⟨w30, e30, t30⟩ := hd 30 rfl
      by_cases hG : (((false || (!r79)) || (!(decide (r64.2 = s77)))) || (!r91)) = false
      ·have hC := hG
       obtain ⟨rfl⟩ := t30.1 hC
       refine o_load (j := 1) (v := .I q33.2.1) rfl (wants_of rfl e22 hG) rfl z_sc3 e30 rfl rfl ?_
       exact st_addNil (hk _ _ LR ⟨fun _ => rfl, fun hn => absurd hC hn⟩)
      ·refine st_pass rfl rfl rfl e22 (beq_off hG) rfl ?_
       exact st_addNil (hk _ _ LR ⟨fun h => absurd h hG, fun _ => rfl⟩)
     ·intro ρ' τ pq rs hl hd hq hk
      obtain ⟨_, e22, rfl⟩ := hd 22 rfl
      obtain ⟨w32, e32, t32⟩ := hd 32 rfl
      by_cases hG : (((false || (!r79)) || (!(decide (r64.2 = s77)))) || (!r91)) = false
      ·have hC := hG
       obtain ⟨rfl⟩ := t32.1 hC
       refine o_load (j := 1) (v := .I q33.2.2.1) rfl (wants_of rfl e22 hG) rfl z_sc3 e32 rfl rfl ?_
       exact st_addNil (hk _ _ LR ⟨fun _ => rfl, fun hn => absurd hC hn⟩)
      ·refine st_pass rfl rfl rfl e22 (beq_off hG) rfl ?_
       exact st_addNil (hk _ _ LR ⟨fun h => absurd h hG, fun _ => rfl⟩)
     ·intro ρ' τ pq rs hl hd hq hk
      obtain ⟨_, e22, rfl⟩ := hd 22 rfl
      obtain ⟨w29, e29, t29⟩ := hd 29 rfl
      obtain ⟨w31, e31, t31⟩ := hd 31 rfl
      obtain ⟨w33, e33, t33⟩ := hd 33 rfl
      by_cases hG : (((false || (!r79)) || (!(decide (r64.2 = s77)))) || (!r91)) = false
      ·have hC := hG
       replace hr103 := hr103 hC
       obtain ⟨rfl⟩ := t29.1 hC
       obtain ⟨rfl⟩ := t31.1 hC
       obtain ⟨rfl⟩ := t33.1 hC
       refine st_call (foot := []) rfl (wants_of rfl e22 hG) rfl rfl (evs_cons e29 (evs_cons e31 (evs_cons e33 rfl))) rfl (callV_fn z_en21 (ref30_Cells_ok hr103 τ (hs61.up (((hl67.trans hl74).trans hl77).trans hl)) (hs63.up (((hl67.trans hl74).trans hl77).trans hl)))) ?_
       rintro _ τ104 _ hl105 ⟨v106, rfl, rfl, hs107⟩
       exact st_addNil (hk _ _ hl105 ⟨fun _ => ⟨v106, rfl, hs107⟩, fun hn => absurd hC hn⟩)
      ·refine st_pass rfl rfl rfl e22 (beq_off hG) rfl ?_
       exact st_addNil (hk _ _ LR ⟨fun h => absurd h hG, fun _ => rfl⟩)
     ·intro ρ' τ pq rs hl hd hq hk
      obtain ⟨_, e22, rfl⟩ := hd 22 rfl
      obtain ⟨w28, e28, t28⟩ := hd 28 rfl
      obtain ⟨w34, e34, t34⟩ := hd 34 rfl
      by_cases hG : (((false || (!r79)) || (!(decide (r64.2 = s77)))) || (!r91)) = false
      ·have hC := hG
       replace hr109 := hr109 hC
       obtain ⟨v106, rfl, hs107⟩ := t34.1 hC
       obtain ⟨v100, rfl, hs101⟩ := t28.1 hC
       refine st_call (foot := []) rfl (wants_of rfl e22 hG) rfl rfl (evs_cons e28 (evs_cons e34 rfl)) rfl (callV_fn z_en19 (ref01_Ints_ok hr109 τ hs101 hs107)) ?_
       rintro _ τ110 _ hl111 ⟨rfl, rfl⟩
       exact st_addNil (hk _ _ hl111 ⟨fun _ => rfl, fun hn => absurd hC hn⟩)
      ·refine st_pass rfl rfl rfl e22 (beq_off hG) rfl ?_
       exact st_addNil (hk _ _ LR ⟨fun h => absurd h hG, fun _ => rfl⟩)
     ·intro ρ' τ pq rs hl hd hq hk
      obtain ⟨_, e38, rfl⟩ := hd 38 rfl
      obtain ⟨w40, e40, t40⟩ := hd 40 rfl
      by_cases hG : ((((false || (!r79)) || (!(decide (r64.2 = s77)))) || (!r91)) || (!r108)) = false
      ·have hC := hG
       obtain ⟨rfl⟩ := t40.1 hC
       refine o_load (j := 1) (v := .I q33.2.2.1) rfl (wants_of rfl e38 hG) rfl z_sc3 e40 rfl rfl ?_
       exact st_addNil (hk _ _ LR ⟨fun _ => rfl, fun hn => absurd hC hn⟩)
      ·refine st_pass rfl rfl rfl e38 (beq_off hG) rfl ?_
       exact st_addNil (hk _ _ LR ⟨fun h => absurd h hG, fun _ => rfl⟩)
     ·intro ρ' τ pq rs hl hd hq hk
      obtain ⟨_, e38, rfl⟩ := hd 38 rfl
      obtain ⟨w42, e42, t42⟩ := hd 42 rfl
      by_cases hG : ((((false || (!r79)) || (!(decide (r64.2 = s77)))) || (!r91)) || (!r108)) = false
      ·have hC := hG
       obtain ⟨rfl⟩ := t42.1 hC
       refine o_load (j := 1) (v := .I q33.2.2.2.1) rfl (wants_of rfl e38 hG) rfl z_sc3 e42 rfl rfl ?_
       exact st_addNil (hk _ _ LR ⟨fun _ => rfl, fun hn => absurd hC hn⟩)
      ·refine st_pass rfl rfl rfl e38 (beq_off hG) rfl ?_
       exact st_addNil (hk _ _ LR ⟨fun h => absurd h hG, fun _ => rfl⟩)
     ·intro ρ' τ pq rs hl hd hq hk
      obtain ⟨_, e38, rfl⟩ := hd 38 rfl
      obtain ⟨w41, e41, t41⟩ := hd 41 rfl
      obtain ⟨w43, e43, t43⟩ := hd 43 rfl
      by_cases hG : ((((false || (!r79)) || (!(decide (r64.2 = s77)))) || (!r91)) || (!r108)) = false
      ·have hC := hG
       obtain ⟨rfl⟩ := t41.1 hC
       obtain ⟨rfl⟩ := t43.1 hC
       refine o_build (ps := [(0, [.I q33.2.2.1]), (1, [.I q33.2.2.2.1])]) (cs := [.I q33.2.2.1, .I q33.2.2.2.1]) rfl (wants_of rfl e38 hG) rfl z_struct62 ⟨rfl, ⟨_, e41, rfl⟩, ⟨rfl, ⟨_, e43, rfl⟩, trivial⟩⟩ rfl ?_
       exact st_addNil (hk _ _ LR ⟨fun _ => rfl, fun hn => absurd hC hn⟩)
      ·refine st_pass rfl rfl rfl e38 (beq_off hG) rfl ?_
       exact st_addNil (hk _ _ LR ⟨fun h => absurd h hG, fun _ => rfl⟩)
     ·intro ρ' τ pq rs hl hd hq hk
      obtain ⟨_, e38, rfl⟩ := hd 38 rfl
      obtain ⟨w39, e39, t39⟩ := hd 39 rfl
      obtain ⟨w44, e44, t44⟩ := hd 44 rfl
      by_cases hG : ((((false || (!r79)) || (!(decide (r64.2 = s77)))) || (!r91)) || (!r108)) = false
      ·have hC := hG
       replace hr114 := hr114 hC
       obtain ⟨rfl⟩ := t39.1 hC
       obtain ⟨rfl⟩ := t44.1 hC
       refine st_ord [2, 3, 3, 0, 0, 0, 0] _ rfl ?_
       refine st_call (foot := [[(b53, .cells #[v54, v56] 76 (0, 0))], g55, g57]) rfl (wants_of rfl e38 hG) rfl rfl (evs_cons e39 (evs_cons e44 rfl)) rfl (callV_fn z_en22 (fleet_Fleet_Owners_ok hr114 τ (ho58.up (((hl67.trans hl74).trans hl77).trans hl)) (ho59.up (((hl67.trans hl74).trans hl77).trans hl)))) ?_
       rintro _ τ115 _ hl116 ⟨v117, rfl, rfl, hs118⟩
       refine st_ord [3, 3, 0, 2, 0, 0, 0] _ rfl ?_
       exact st_addNil (hk _ _ hl116 ⟨fun _ => ⟨v117, rfl, hs118⟩, fun hn => absurd hC hn⟩)
      ·refine st_pass rfl rfl rfl e38 (beq_off hG) rfl ?_
       exact st_addNil (hk _ _ LR ⟨fun h => absurd h hG, fun _ => rfl⟩)
     ·intro ρ' τ pq rs hl hd hq hk
      obtain ⟨_, e38, rfl⟩ := hd 38 rfl
      by_cases hG : ((((false || (!r79)) || (!(decide (r64.2 = s77)))) || (!r91)) || (!r108)) = false
      ·have hC := hG
       refine o_loadN (j := 0) (vs := [v60, v62]) rfl (wants_of rfl e38 hG) rfl z_agg28 (oT hq 4) rfl rfl ?_
       exact st_addNil (hk _ _ LR ⟨fun _ => rfl, fun hn => absurd hC hn⟩)
      ·refine st_pass rfl rfl rfl e38 (beq_off hG) rfl ?_
       exact st_addNil (hk _ _ LR ⟨fun h => absurd h hG, fun _ => rfl⟩)
     ·intro ρ' τ pq rs hl hd hq hk
      obtain ⟨_, e38, rfl⟩ := hd 38 rfl
      obtain ⟨w47, e47, t47⟩ := hd 47 rfl
      by_cases hG : ((((false || (!r79)) || (!(decide (r64.2 = s77)))) || (!r91)) || (!r108)) = false
      ·have hC := hG
       obtain ⟨rfl⟩ := t47.1 hC
       refine o_load (j := 1) (v := .I q33.2.2.1) rfl (wants_of rfl e38 hG) rfl z_sc3 e47 rfl rfl ?_
       exact st_addNil (hk _ _ LR ⟨fun _ => rfl, fun hn => absurd hC hn⟩)
      ·refine st_pass rfl rfl rfl e38 (beq_off hG) rfl ?_
       exact st_addNil (hk _ _ LR ⟨fun h => absurd h hG, fun _ => rfl⟩)
     ·intro ρ' τ pq rs hl hd hq hk
      obtain ⟨_, e38, rfl⟩ := hd 38 rfl
      obtain ⟨w49, e49, t49⟩ := hd 49 rfl
      by_cases hG : ((((false || (!r79)) || (!(decide (r64.2 = s77)))) || (!r91)) || (!r108)) = false
      ·have hC := hG
       obtain ⟨rfl⟩ := t49.1 hC
       refine o_load (j := 1) (v := .I q33.2.2.2.1) rfl (wants_of rfl e38 hG) rfl z_sc3 e49 rfl rfl ?_
       exact st_addNil (hk _ _ LR ⟨fun _ => rfl, fun hn => absurd hC hn⟩)
      ·refine st_pass rfl rfl rfl e38 (beq_off hG) rfl ?_
       exact st_addNil (hk _ _ LR ⟨fun h => absurd h hG, fun _ => rfl⟩)
     ·intro ρ' τ pq rs hl hd hq hk
      obtain ⟨_, e38, rfl⟩ := hd 38 rfl
      obtain ⟨w46, e46, t46⟩ := hd 46 rfl
      obtain ⟨w48, e48, t48⟩ := hd 48 rfl
      obtain ⟨w50, e50, t50⟩ := hd 50 rfl
      by_cases hG : ((((false || (!r79)) || (!(decide (r64.2 = s77)))) || (!r91)) || (!r108)) = false
      ·have hC := hG
       replace hr120 := hr120 hC
       obtain ⟨rfl⟩ := t46.1 hC
       obtain ⟨rfl⟩ := t48.1 hC
       obtain ⟨rfl⟩ := t50.1 hC
       refine st_call (foot := []) rfl (wants_of rfl e38 hG) rfl rfl (evs_cons e46 (evs_cons e48 (evs_cons e50 rfl))) rfl (callV_fn z_en23 (ref30_Owners_ok hr120 τ (hs61.up (((hl67.trans hl74).trans hl77).trans hl)) (hs63.up (((hl67.trans hl74).trans hl77).trans hl)))) ?_
       rintro _ τ121 _ hl122 ⟨v123, rfl, rfl, hs124⟩
       exact st_addNil (hk _ _ hl122 ⟨fun _ => ⟨v123, rfl, hs124⟩, fun hn => absurd hC hn⟩)
      ·refine st_pass rfl rfl rfl e38 (beq_off hG) rfl ?_
       exact st_addNil (hk _ _ LR ⟨fun h => absurd h hG, fun _ => rfl⟩)
     ·intro ρ' τ pq rs hl hd hq hk
      obtain ⟨_, e38, rfl⟩ := hd 38 rfl
      obtain ⟨w45, e45, t45⟩ := hd 45 rfl
      obtain ⟨w51, e51, t51⟩ := hd 51 rfl
      by_cases hG : ((((false || (!r79)) || (!(decide (r64.2 = s77)))) || (!r91)) || (!r108)) = false
      ·have hC := hG
       replace hr126 := hr126 hC
       obtain ⟨v117, rfl, hs118⟩ := t45.1 hC
       obtain ⟨v123, rfl, hs124⟩ := t51.1 hC
       refine st_call (foot := []) rfl (wants_of rfl e38 hG) rfl rfl (evs_cons e45 (evs_cons e51 rfl)) rfl (callV_fn z_en19 (ref01_Ints_ok hr126 τ hs118 hs124)) ?_
       rintro _ τ127 _ hl128 ⟨rfl, rfl⟩
       exact st_addNil (hk _ _ hl128 ⟨fun _ => rfl, fun hn => absurd hC hn⟩)
      ·refine st_pass rfl rfl rfl e38 (beq_off hG) rfl ?_
       exact st_addNil (hk _ _ LR ⟨fun h => absurd h hG, fun _ => rfl⟩)
     intro ρ' τ129 vals hl129 hv hq
     refine st_ord [0, 0, 0, 0, 0, 0] _ rfl ?_
     refine st_env (ρ' := [(185, .bool (((((false || (!r79)) || (!(decide (r64.2 = s77)))) || (!r91)) || (!r108)) || (!r125))), (0, v1), (2, .bool false), (3, .Pb b53), (4, .Pb b14), (5, .I s20.2.1)]) ⟨(lv1 hv 54 rfl rfl), oT hq 0, oT hq 2, oT hq 3, oT hq 4, oT hq 5, trivial⟩ ?_
     refine st_end ?_
     refine I2 h (fun h => ?_) (fun h => ?_)
     ·refine Z 4 ?_
      refine st_ord [] _ rfl ?_
      obtain rfl := he20 _ h
      replace h := hA20
      obtain rfl := h.symm
      exact RT func3 rfl ((((((((hl6.trans hl20).trans hl32).trans hl46).trans hl52).trans hl67).trans hl74).trans hl77).trans hl129) ⟨rfl, rfl⟩
     ·refine Z 7 ?_
      refine st_ord [0, 1, 2, 2] _ rfl ?_
      exact hn20 _ _ _ _ h ⟨(((((((hl20.trans hl32).trans hl46).trans hl52).trans hl67).trans hl74).trans hl77).trans hl129), _, _, _, _, _, _, _, rfl, rfl, (ho58.up (((hl67.trans hl74).trans hl77).trans hl129)), (ho59.up (((hl67.trans hl74).trans hl77).trans hl129)), (hs61.up (((hl67.trans hl74).trans hl77).trans hl129)), (hs63.up (((hl67.trans hl74).trans hl77).trans hl129))⟩
    refine Z 4 ?_
    obtain ⟨e130, hL130, hA130⟩ := h
    refine st_ord [4, 4, 1, 0, 0, 0] _ rfl ?_
    refine st_loop hL130 (fun (s130 : Bool × Int) ρ τ130 gs => τ73.Le τ130 ∧ ESub ρ [(0, v1), (2, .bool false), (3, .Pb b53), (4, .Pb b14), (5, .I s20.2.1), (6, .Pb b42), (13, .Pb b70), (14, .bool r64.2), (15, .bool s130.1), (16, v75), (17, .I s130.2)] ∧ gs = [[(b14, .cells #[v60, v62] 28 (0, 0))], [(b42, .cells #[.I q33.1, .I q33.2.1, .I q33.2.2.1, .I q33.2.2.2.1, .I q33.t4.1, .I (q33.t4.2.1.getD 0 0), .I (q33.t4.2.1.getD 1 0), .I (q33.t4.2.1.getD 2 0), .I (q33.t4.2.1.getD 3 0), .I (q33.t4.2.1.getD 4 0), .I (q33.t4.2.1.getD 5 0), v37, v38, .string q33.t4.t4.1, .string q33.t4.t4.2] 35 (0, 0))], [(b53, .cells #[v54, v56] 76 (0, 0))], [(b70, .cells #[.I r64.1.1, .I r64.1.2.1, .I r64.1.2.2.1, .I r64.1.2.2.2.1, .I r64.1.t4.1, .bool r64.1.t4.2.1, .bool r64.1.t4.2.2.1, .I r64.1.t4.2.2.2.1, .I r64.1.t4.t4.1, v68, .I r64.1.t4.t4.2.2.1, .I r64.1.t4.t4.2.2.2] 49 (0, 0))], g55, g57]) ⟨LR, rfl, rfl⟩ ?_
    rintro s130 o130 h he130 ρ130 τ130 gs130 ⟨hl130, hρ, rfl⟩ hn130
    refine st_es hρ (Z 5 ?_)
    refine o_lenI rfl rfl rfl z_slT31 rfl (hs76.up hl130) (Z 2 ?_)
    refine I2 h (fun h => ?_) (fun h => ?_)
    ·refine Z 3 ?_
     obtain ⟨q132, hf133, h⟩ := h
     let cc131 : Prop := s130.1 = false
     refine st_draw 10 (dl [.v (.bool s130.1), .v (.bool s130.1), .g cc131 (v75), .g cc131 (.I s130.2), .h cc131 fun τ v => ∃ (b134 of135 : Nat) (vsb134 : K4), (.pointer (some ⟨b134, of135, none⟩) : Value) = v ∧ CelN τ ⟨b134, of135, none⟩ vsb134 ∧ (kI .i64).rep τ vsb134 q132, .g cc131 (.I q132), .g cc131 (.pointer (some ⟨b42, 1, none⟩)), .g cc131 (.I q33.2.1), .g cc131 (.bool (decide (q132 = q33.2.1))), .v (.bool (s130.1 || (decide (q132 = q33.2.1))))]) (fun _ _ => []) z_mix rfl (dl_mono ⟨fun _ _ _ hl ⟨b134, of135, vsb134, hv, hc136, hrepb134⟩ => ⟨b134, of135, vsb134, hv, hc136.up hl, Kd.mono _ hl hrepb134⟩, trivial⟩) (allB_cons (allB_cons (allB_cons (allB_cons (allB_cons (allB_cons (allB_cons (allB_cons (allB_cons (allB_cons allB_nil (p1 dA)) (p1 dA)) (p1 (dG []))) (p1 (dG []))) ?_) ?_) (p1 (dG []))) ?_) (p1 (dG [5, 7]))) (p1 dO)) ?_
     ·intro ρ' τ pq rs hl hd hq hk
      obtain ⟨_, e1, rfl⟩ := hd 1 rfl
      obtain ⟨w2, e2, t2⟩ := hd 2 rfl
      obtain ⟨w3, e3, t3⟩ := hd 3 rfl
      by_cases hG : s130.1 = false
      ·have hC := hG
       replace hf133 := hf133 hC
       obtain ⟨rfl⟩ := t2.1 hC
       obtain ⟨rfl⟩ := t3.1 hC
       refine o_index rfl (wants_of rfl e1 hG) rfl z_slT31 rfl e2 (hs76.up (hl130.trans hl)) e3 hf133 (fun b134 of135 vsb134 hc136 hrepb134 => ?_)
       exact st_addNil (hk _ _ LR ⟨fun _ => ⟨b134, of135, _, rfl, hc136, hrepb134⟩, fun hn => absurd hC hn⟩)
      ·refine st_pass rfl rfl rfl e1 (beq_off hG) rfl ?_
       exact st_addNil (hk _ _ LR ⟨fun h => absurd h hG, fun _ => rfl⟩)
     ·intro ρ' τ pq rs hl hd hq hk
      obtain ⟨_, e1, rfl⟩ := hd 1 rfl
      obtain ⟨w4, e4, t4⟩ := hd 4 rfl
      by_cases hG : s130.1 = false
      ·have hC := hG
       obtain ⟨b134, of135, vsb134, rfl, hc136, hrepb134⟩ := t4.1 hC
       have hrepb134 := hrepb134
       obtain rfl := hrepb134
       refine o_loadI (v := .I q132) rfl (wants_of rfl e1 hG) rfl z_sc3 e4 (hc136 0 _ rfl) ?_
       exact st_addNil (hk _ _ LR ⟨fun _ => rfl, fun hn => absurd hC hn⟩)
      ·refine st_pass rfl rfl rfl e1 (beq_off hG) rfl ?_
       exact st_addNil (hk _ _ LR ⟨fun h => absurd h hG, fun _ => rfl⟩)
     ·intro ρ' τ pq rs hl hd hq hk
      obtain ⟨_, e1, rfl⟩ := hd 1 rfl
      obtain ⟨w6, e6, t6⟩ := hd 6 rfl
      by_cases hG : s130.1 = false
      ·have hC := hG
       obtain ⟨rfl⟩ := t6.1 hC
       refine o_load (j := 1) (v := .I q33.2.1) rfl (wants_of rfl e1 hG) rfl z_sc3 e6 rfl rfl ?_
       exact st_addNil (hk _ _ LR ⟨fun _ => rfl, fun hn => absurd hC hn⟩)
      ·refine st_pass rfl rfl rfl e1 (beq_off hG) rfl ?_
       exact st_addNil (hk _ _ LR ⟨fun h => absurd h hG, fun _ => rfl⟩)
     intro ρ' τ137 vals hl137 hv hq
     refine st_ord [0, 0, 0, 0, 0, 0] _ rfl ?_
     refine st_env (ρ' := [(130, .bool (s130.1 || (decide (q132 = q33.2.1)))), (0, v1), (2, .bool false), (3, .Pb b53), (4, .Pb b14), (5, .I s20.2.1), (6, .Pb b42), (13, .Pb b70), (14, .bool r64.2), (16, v75), (17, .I s130.2)]) ⟨(lv1 hv 9 rfl rfl), oT hq 0, oT hq 2, oT hq 3, oT hq 4, oT hq 5, oT hq 6, oT hq 13, oT hq 14, oT hq 16, oT hq 17, trivial⟩ (Z 8 ?_)
     exact hn130 _ _ _ _ h ⟨(hl130.trans hl137), rfl, rfl⟩
    ·refine st_exit rfl ?_
     obtain rfl := he130 _ h
     replace h := hA130
     exact hk77 _ _ _ ⟨s130.1, h, hl130, rfl, rfl⟩
   refine ZZ 11 [1] ?_
   refine I2 h (fun h => ?_) (fun h => ?_)
   ·refine st_seq ?_
    obtain ⟨r139, hr140, r147, hr148, h⟩ := h
    refine st_d41 [[(b51, .cells (lM r43 v47 v48).toArray 33 (0, 0))], [(b42, .cells #[.I q33.1, .I q33.2.1, .I q33.2.2.1, .I q33.2.2.2.1, .I q33.t4.1, .I (q33.t4.2.1.getD 0 0), .I (q33.t4.2.1.getD 1 0), .I (q33.t4.2.1.getD 2 0), .I (q33.t4.2.1.getD 3 0), .I (q33.t4.2.1.getD 4 0), .I (q33.t4.2.1.getD 5 0), v37, v38, .string q33.t4.t4.1, .string q33.t4.t4.2] 35 (0, 0))], [(b14, .cells #[v28, v30] 28 (0, 0))], [(b21, .cells #[v22, v24] 76 (0, 0))], g23, g25] [] 9 2 [none, none, none, none, none, none, none, some (0, 0), some (0, 1)] [none, none, none, none, none, none, none, none, none] [[none, some 8, some 8]] [.v (.agg #[v28, v30]), .v (.agg (lM r43 v47 v48).toArray), .t fun τ v => ∃ (v143 v144 : Value), (.agg (lM r139 v143 v144).toArray : Value) = v ∧ Sl (kA .i64 2) τ v143 r139.2.2.1 ∧ Sl (kI .i64) τ v144 r139.2.2.2.1, .t fun τ v => ∃ (v151 v152 : Value), (.tuple #[.agg #[v151, v152], .bool r147.2] : Value) = v ∧ Sl (kP (kI .i64) (kP (kA .i64 6) (kP (kSl (kA .i64 2)) (kP (kSl (kI .i64)) (kP kS kS))))) τ v151 r147.1.1 ∧ Sl (kP (kI .i64) (kP (kI .i64) (kSl (kI .i64)))) τ v152 r147.1.2, .t fun τ v => ∃ (v151 v152 : Value), (.tuple #[.agg #[v151, v152], .bool r147.2] : Value) = v ∧ Sl (kP (kI .i64) (kP (kA .i64 6) (kP (kSl (kA .i64 2)) (kP (kSl (kI .i64)) (kP kS kS))))) τ v151 r147.1.1 ∧ Sl (kP (kI .i64) (kP (kI .i64) (kSl (kI .i64)))) τ v152 r147.1.2, .t fun τ v => ∃ (v151 v152 : Value), (.agg #[v151, v152] : Value) = v ∧ Sl (kP (kI .i64) (kP (kA .i64 6) (kP (kSl (kA .i64 2)) (kP (kSl (kI .i64)) (kP kS kS))))) τ v151 r147.1.1 ∧ Sl (kP (kI .i64) (kP (kI .i64) (kSl (kI .i64)))) τ v152 r147.1.2, .v (.bool r147.2), .t fun _ _ => True, .t fun _ _ => True] [[fun τ u F => F = [], fun τ u F => ∃ (b156 : Nat), F = [[(b156, .cells #[.N0, .N0] 28 (0, 0))]] ∧ .Pb b156 = u, fun τ u F => ∃ (b157 : Nat) (v158 v160 : Value), F = [[(b157, .cells #[v158, v160] 28 (0, 0))]] ∧ .Pb b157 = u ∧ Sl (kP (kI .i64) (kP (kA .i64 6) (kP (kSl (kA .i64 2)) (kP (kSl (kI .i64)) (kP kS kS))))) τ v158 r147.1.1 ∧ Sl (kP (kI .i64) (kP (kI .i64) (kSl (kI .i64)))) τ v160 r147.1.2]] rfl z_mix rfl ⟨fun _ _ _ hl ⟨v143, v144, hv, hs145, hs146⟩ => ⟨v143, v144, hv, hs145.up hl, hs146.up hl⟩, ⟨fun _ _ _ hl ⟨v151, v152, hv, hs153, hs154⟩ => ⟨v151, v152, hv, hs153.up hl, hs154.up hl⟩, ⟨fun _ _ _ hl ⟨v151, v152, hv, hs153, hs154⟩ => ⟨v151, v152, hv, hs153.up hl, hs154.up hl⟩, ⟨fun _ _ _ hl ⟨v151, v152, hv, hs153, hs154⟩ => ⟨v151, v152, hv, hs153.up hl, hs154.up hl⟩, ⟨fun _ _ _ _ _ => trivial, ⟨fun _ _ _ _ _ => trivial, trivial⟩⟩⟩⟩⟩⟩ ⟨⟨fun _ _ _ _ hl h => h, ⟨fun _ _ _ _ hl h => (let ⟨b156, hF, hU⟩ := h; ⟨b156, hF, hU⟩), ⟨fun _ _ _ _ hl h => (let ⟨b157, v158, v160, hF, hU, hs159, hs161⟩ := h; ⟨b157, v158, v160, hF, hU, hs159.up hl, hs161.up hl⟩), trivial⟩⟩⟩, trivial⟩ rfl rfl ?_ (allB_cons (allB_cons (allB_cons (allB_cons (allB_cons (allB_cons (allB_cons (allB_cons (allB_cons allB_nil ?_) ?_) ?_) ?_) ?_) ?_) ?_) ?_) ?_) ?_
    ·exact rfl
    ·intro ρ' τ pq rs hl hd hq hw hk
     refine o_loadN (j := 2) (vs := [v28, v30]) rfl rfl rfl z_agg28 (oT hq 4) rfl rfl ?_
     exact hk _ _ LR rfl
    ·intro ρ' τ pq rs hl hd hq hw hk
     refine o_loadN (j := 0) (vs := (lM r43 v47 v48)) rfl rfl rfl z_agg33 (oT hq 7) rfl rfl ?_
     exact hk _ _ LR rfl
    ·intro ρ' τ pq rs hl hd hq hw hk
     obtain ⟨_, e1, rfl⟩ := hd 1 rfl _ rfl
     refine st_call (foot := []) rfl rfl rfl rfl (evs_cons e1 rfl) rfl (callV_fn z_en8 (law17_Of_ok hr140 τ (hs49.up hl) (hs50.up hl))) ?_
     rintro _ τ141 _ hl142 ⟨v143, v144, rfl, rfl, hs145, hs146⟩
     exact hk _ _ hl142 ⟨v143, v144, rfl, hs145, hs146⟩
    ·intro ρ' τ pq rs hl hd hq hw hk
     obtain ⟨_, e0, rfl⟩ := hd 0 rfl _ rfl
     obtain ⟨_, e2, v143, v144, rfl, hs145, hs146⟩ := hd 2 rfl _ rfl
     refine st_call (foot := []) rfl rfl rfl rfl (evs_cons e0 (evs_cons e2 rfl)) rfl (callV_fn z_en7 (ref30_Apply_ok hr148 τ (hs29.up ((hl32.trans hl46).trans hl)) (hs31.up ((hl32.trans hl46).trans hl)) hs145 hs146)) ?_
     rintro _ τ149 _ hl150 ⟨v151, v152, rfl, rfl, hs153, hs154⟩
     exact hk _ _ hl150 ⟨v151, v152, rfl, hs153, hs154⟩
    ·intro ρ' τ pq rs hl hd hq hw hk
     obtain ⟨_, e3, v151, v152, rfl, hs153, hs154⟩ := hd 3 rfl _ rfl
     refine o_move rfl rfl rfl e3 ?_
     exact hk _ _ LR ⟨v151, v152, rfl, hs153, hs154⟩
    ·intro ρ' τ pq rs hl hd hq hw hk
     obtain ⟨_, e4, v151, v152, rfl, hs153, hs154⟩ := hd 4 rfl _ rfl
     refine o_extract rfl rfl rfl e4 rfl ?_
     exact hk _ _ LR ⟨v151, v152, rfl, hs153, hs154⟩
    ·intro ρ' τ pq rs hl hd hq hw hk
     obtain ⟨_, e4, v151, v152, rfl, hs153, hs154⟩ := hd 4 rfl _ rfl
     refine o_extract rfl rfl rfl e4 rfl ?_
     exact hk _ _ LR rfl
    ·intro ρ' τ u Fv pq rs hl hI hu hd hq hw hk
     have hI0 := hI
     obtain rfl := hI
     refine o_alloc rfl rfl rfl z_zero28 (fun b155 => ?_)
     refine st_ord [1, 1, 1, 1, 1, 1, 0, 0] _ rfl ?_
     exact hk _ _ [[(b155, .cells #[.N0, .N0] 28 (0, 0))]] LR trivial (by exact ⟨b155, rfl, rfl⟩)
    ·intro ρ' τ u Fv pq rs hl hI hu hd hq hw hk
     obtain ⟨_, e5, v151, v152, rfl, hs153, hs154⟩ := hd 5 rfl _ rfl
     obtain ⟨b156, rfl, rfl⟩ := hI
     refine o_store (j := 6) (vs := [v151, v152]) (cs' := [v151, v152]) rfl rfl rfl z_size28 (hu (by decide) _ rfl) e5 rfl (ones_cons hs153.one' (ones_cons hs154.one' ones_nil)) rfl rfl rfl ?_
     exact hk _ _ [[(b156, .cells #[v151, v152] 28 (0, 0))]] LR trivial (by exact ⟨b156, v151, v152, rfl, rfl, hs153, hs154⟩)
    intro ρ' τ162 vals u Fv hl162 hI hu hv hq
    obtain ⟨b157, v158, v160, rfl, rfl, hs159, hs161⟩ := hI
    refine st_env (ρ' := [(48, .bool r147.2), (0, v1), (2, .bool false), (3, .Pb b21), (4, .Pb b14), (5, .I s20.2.1), (6, .Pb b42), (7, .Pb b51), (8, .Pb b157)]) ⟨(lv4 hv 6 rfl rfl rfl), oT hq 0, oT hq 2, oT hq 3, oT hq 4, oT hq 5, oT hq 6, oT hq 7, (by exact hu _ rfl), trivial⟩ (ZZ 5 [6] ?_)
    refine o_store (j := 2) (vs := [v158, v160]) (cs' := [v158, v160]) rfl rfl rfl z_size28 rfl rfl rfl (ones_cons hs159.one' (ones_cons hs161.one' ones_nil)) rfl rfl rfl (ZZ 5 [0] ?_)
    refine o_lit (dk := (kP (kI .i64) (kP (kA .i64 6) (kP (kSl (kP (kI .i64) (kI .i64))) (kP (kSl (kI .i64)) (kP kS kS)))))) (xs := [r43]) (ps := [(0, (lM r43 v47 v48))]) (cs := (lM r43 v47 v48)) rfl rfl rfl z_slT84 z_zero33 ⟨rfl, ⟨_, rfl, rfl⟩, trivial⟩ rfl rfl rfl rfl (Kd.Many.cons (d := (kP (kI .i64) (kP (kA .i64 6) (kP (kSl (kP (kI .i64) (kI .i64))) (kP (kSl (kI .i64)) (kP kS kS)))))) (x := r43) (a := (lM r43 v47 v48)) ⟨[.I r43.1], _, rfl, rfl, ⟨[.I (r43.2.1.getD 0 0), .I (r43.2.1.getD 1 0), .I (r43.2.1.getD 2 0), .I (r43.2.1.getD 3 0), .I (r43.2.1.getD 4 0), .I (r43.2.1.getD 5 0)], _, rfl, rfl, ⟨[v47], _, rfl, ⟨_, rfl, (hs49.up hl162)⟩, ⟨[v48], _, rfl, ⟨_, rfl, (hs50.up hl162)⟩, ⟨[.string r43.t4.1], _, rfl, rfl, rfl⟩⟩⟩⟩⟩ Kd.Many.nil) (fun v163 g164 ho165 => ?_)
    obtain ⟨r170, hr171, h⟩ := h
    refine st_freeze (fun τ166 hl167 hg168 => ?_)
    have hs169 := ho165.freeze hl167 hg168
    refine st_ord [3, 3, 3, 0, 0, 0, 0] _ rfl ?_
    refine st_call (foot := [[(b21, .cells #[v22, v24] 76 (0, 0))], g23, g25]) rfl rfl rfl rfl rfl rfl (callV_fn z_en9 (fleet_Fleet_Apply_ok hr171 τ166 (ho26.up (((hl32.trans hl46).trans hl162).trans hl167)) (ho27.up (((hl32.trans hl46).trans hl162).trans hl167)) hs169)) ?_
    rintro _ τ172 _ hl173 ⟨v174, g175, v176, g177, rfl, rfl, ho178, ho179⟩
    refine Z 4 ?_
    refine I2 h (fun h => ?_) (fun h => ?_)
    ·refine Z 4 ?_
     refine st_ord [] _ rfl ?_
     obtain rfl := he20 _ h
     replace h := hA20
     obtain rfl := h.symm
     exact RT func3 rfl ((((((hl6.trans hl20).trans hl32).trans hl46).trans hl162).trans hl167).trans hl173) ⟨rfl, rfl⟩
    ·refine Z 2 ?_
     refine st_ord [5, 4, 0, 0, 0] _ rfl ?_
     exact hk52 _ _ _ ⟨(r170.2, r147.1.1, r147.1.2), _, _, _, _, _, _, _, h, ((hl162.trans hl167).trans hl173), rfl, rfl, ho178, ho179, (hs159.up (hl167.trans hl173)), (hs161.up (hl167.trans hl173))⟩
   ·refine Z 5 ?_
    refine I2 h (fun h => ?_) (fun h => ?_)
    ·refine ZZ 7 [2, 1, 1] ?_
     obtain ⟨r180, hr181, h⟩ := h
     refine SC z_en10 (ref30_Release_ok hr181 τ45 (hs29.up (hl32.trans hl46)) (hs31.up (hl32.trans hl46))) ?_
     rintro _ τ182 _ hl183 ⟨v184, v185, rfl, rfl, hs186, hs187⟩
     refine Z 3 ?_
     refine o_alloc rfl rfl rfl z_zero28 (fun b188 => ?_)
     refine o_store (j := 0) (vs := [v184, v185]) (cs' := [v184, v185]) rfl rfl rfl z_size28 rfl rfl rfl (ones_cons hs186.one' (ones_cons hs187.one' ones_nil)) rfl rfl rfl (ZZ 5 [0] ?_)
     refine o_store (j := 3) (vs := [v184, v185]) (cs' := [v184, v185]) rfl rfl rfl z_size28 rfl rfl rfl (ones_cons hs186.one' (ones_cons hs187.one' ones_nil)) rfl rfl rfl (ZZ 8 [2, 2] ?_)
     obtain ⟨r189, hr190, h⟩ := h
     refine st_ord [4, 4, 4, 0, 0, 0, 0] _ rfl ?_
     refine st_call (foot := [[(b21, .cells #[v22, v24] 76 (0, 0))], g23, g25]) rfl rfl rfl rfl rfl rfl (callV_fn z_en11 (fleet_Fleet_Release_ok hr190 τ182 (ho26.up ((hl32.trans hl46).trans hl183)) (ho27.up ((hl32.trans hl46).trans hl183)))) ?_
     rintro _ τ191 _ hl192 ⟨v193, g194, v195, g196, rfl, rfl, ho197, ho198⟩
     refine Z 3 ?_
     refine I2 h (fun h => ?_) (fun h => ?_)
     ·refine Z 4 ?_
      refine st_ord [] _ rfl ?_
      obtain rfl := he20 _ h
      replace h := hA20
      obtain rfl := h.symm
      exact RT func3 rfl (((((hl6.trans hl20).trans hl32).trans hl46).trans hl183).trans hl192) ⟨rfl, rfl⟩
     ·refine Z 2 ?_
      refine st_ord [6, 5, 0, 0, 0] _ rfl ?_
      exact hk52 _ _ _ ⟨(r189.2, r180.1.1, r180.1.2), _, _, _, _, _, _, _, h, (hl183.trans hl192), rfl, rfl, ho197, ho198, (hs186.up hl192), (hs187.up hl192)⟩
    ·refine Z 5 ?_
     refine I2 h (fun h => ?_) (fun h => ?_)
     ·refine Z 3 ?_
      obtain ⟨r199, hr200, h⟩ := h
      refine st_ord [3, 3, 3, 0, 0, 0] _ rfl ?_
      refine st_call (foot := [[(b21, .cells #[v22, v24] 76 (0, 0))], g23, g25]) rfl rfl rfl rfl rfl rfl (callV_fn z_en12 (fleet_Fleet_Copy_ok hr200 τ45 (ho26.up (hl32.trans hl46)) (ho27.up (hl32.trans hl46)))) ?_
      rintro _ τ201 _ hl202 ⟨b203, v204, g205, v206, g207, rfl, rfl, ho208, ho209⟩
      refine Z 4 ?_
      refine cutS τ201 (fun (s210 : Bool) => law30_FleetPlays_j7 s20 q33 r43 r199 s210 o20) (fun s210 => [(0, v1), (2, .bool false), (3, .Pb b21), (4, .Pb b14), (5, .I s20.2.1), (6, .Pb b42), (7, .Pb b51), (12, .Pb b203), (94, .bool s210)]) (fun s210 => [[(b14, .cells #[v28, v30] 28 (0, 0))], [(b21, .cells #[v22, v24] 76 (0, 0))], [(b42, .cells #[.I q33.1, .I q33.2.1, .I q33.2.2.1, .I q33.2.2.2.1, .I q33.t4.1, .I (q33.t4.2.1.getD 0 0), .I (q33.t4.2.1.getD 1 0), .I (q33.t4.2.1.getD 2 0), .I (q33.t4.2.1.getD 3 0), .I (q33.t4.2.1.getD 4 0), .I (q33.t4.2.1.getD 5 0), v37, v38, .string q33.t4.t4.1, .string q33.t4.t4.2] 35 (0, 0))], [(b51, .cells (lM r43 v47 v48).toArray 33 (0, 0))], [(b203, .cells #[v204, v206] 76 (0, 0))], g23, g25, g205, g207]) (fun s210 τ210 h hl210 => ?_) (fun hk210 => ?_)
      ·refine I2 h (fun h => ?_) (fun h => ?_)
       ·refine Z 4 ?_
        refine st_ord [] _ rfl ?_
        obtain rfl := he20 _ h
        replace h := hA20
        obtain rfl := h.symm
        exact RT func3 rfl (((((hl6.trans hl20).trans hl32).trans hl46).trans hl202).trans hl210) ⟨rfl, rfl⟩
       ·refine ZZ 5 [3] ?_
        refine o_lit (dk := (kP (kI .i64) (kP (kA .i64 6) (kP (kSl (kP (kI .i64) (kI .i64))) (kP (kSl (kI .i64)) (kP kS kS)))))) (xs := [r43]) (ps := [(0, (lM r43 v47 v48))]) (cs := (lM r43 v47 v48)) rfl rfl rfl z_slT84 z_zero33 ⟨rfl, ⟨_, rfl, rfl⟩, trivial⟩ rfl rfl rfl rfl (Kd.Many.cons (d := (kP (kI .i64) (kP (kA .i64 6) (kP (kSl (kP (kI .i64) (kI .i64))) (kP (kSl (kI .i64)) (kP kS kS)))))) (x := r43) (a := (lM r43 v47 v48)) ⟨[.I r43.1], _, rfl, rfl, ⟨[.I (r43.2.1.getD 0 0), .I (r43.2.1.getD 1 0), .I (r43.2.1.getD 2 0), .I (r43.2.1.getD 3 0), .I (r43.2.1.getD 4 0), .I (r43.2.1.getD 5 0)], _, rfl, rfl, ⟨[v47], _, rfl, ⟨_, rfl, (hs49.up (hl202.trans hl210))⟩, ⟨[v48], _, rfl, ⟨_, rfl, (hs50.up (hl202.trans hl210))⟩, ⟨[.string r43.t4.1], _, rfl, rfl, rfl⟩⟩⟩⟩⟩ Kd.Many.nil) (fun v211 g212 ho213 => ?_)
        obtain ⟨r218, hr219, h⟩ := h
        refine st_freeze (fun τ214 hl215 hg216 => ?_)
        have hs217 := ho213.freeze hl215 hg216
        refine st_ord [1, 4, 4, 0, 0, 0, 0, 0, 0] _ rfl ?_
        refine st_call (foot := [[(b21, .cells #[v22, v24] 76 (0, 0))], g23, g25]) rfl rfl rfl rfl rfl rfl (callV_fn z_en9 (fleet_Fleet_Apply_ok hr219 τ214 (ho26.up ((((hl32.trans hl46).trans hl202).trans hl210).trans hl215)) (ho27.up ((((hl32.trans hl46).trans hl202).trans hl210).trans hl215)) hs217)) ?_
        rintro _ τ220 _ hl221 ⟨v222, g223, v224, g225, rfl, rfl, ho226, ho227⟩
        refine ZZ 8 [4, 4] ?_
        obtain ⟨r228, hr229, h⟩ := h
        refine st_call (foot := [[(b21, .cells #[v222, v224] 76 (0, 0))], g223, g225]) rfl rfl rfl rfl rfl rfl (callV_fn z_en11 (fleet_Fleet_Release_ok hr229 τ220 ho226 ho227)) ?_
        rintro _ τ230 _ hl231 ⟨v232, g233, v234, g235, rfl, rfl, ho236, ho237⟩
        refine Z 6 ?_
        refine st_ord [3, 3, 4, 4, 4] _ rfl ?_
        exact hk52 _ _ _ ⟨(r199, s20.2.2.1, s20.2.2.2), _, _, _, _, _, _, _, h, ((((hl202.trans hl210).trans hl215).trans hl221).trans hl231), rfl, rfl, (ho208.up (((hl210.trans hl215).trans hl221).trans hl231)), (ho209.up (((hl210.trans hl215).trans hl221).trans hl231)), (hs29.up ((((((hl32.trans hl46).trans hl202).trans hl210).trans hl215).trans hl221).trans hl231)), (hs31.up ((((((hl32.trans hl46).trans hl202).trans hl210).trans hl215).trans hl221).trans hl231))⟩
      refine ZZ 6 [8] ?_
      obtain ⟨r238, hr239, h⟩ := h
      refine st_ord [3, 3, 3, 0, 0, 0, 0, 0, 0] _ rfl ?_
      refine st_call (foot := [[(b203, .cells #[v204, v206] 76 (0, 0))], g205, g207]) rfl rfl rfl rfl rfl rfl (callV_fn z_en13 (law30_Alike_ok hr239 τ201 ho208 ho209 (hs29.up ((hl32.trans hl46).trans hl202)) (hs31.up ((hl32.trans hl46).trans hl202)) (hT.up ((((hl6.trans hl20).trans hl32).trans hl46).trans hl202)))) ?_
      rintro _ τ240 _ hl241 ⟨rfl, rfl⟩
      refine Z 2 ?_
      refine M2 h (fun h => ?_) (fun h => ?_)
      ·refine Z 6 ?_
       refine st_ord [8, 3, 6, 5, 0, 2, 2, 0, 0] _ rfl ?_
       exact hk210 _ _ _ ⟨true, h, hl241, rfl, rfl⟩
      ·refine Z 2 ?_
       obtain ⟨r242, hr243, h⟩ := h
       refine st_call (foot := [[(b203, .cells #[v204, v206] 76 (0, 0))], g205, g207, [(b21, .cells #[v22, v24] 76 (0, 0))], g23, g25]) rfl rfl rfl rfl rfl rfl (callV_fn z_en14 (fleet_Same_ok hr243 τ240 (ho208.up hl241) (ho209.up hl241) (ho26.up (((hl32.trans hl46).trans hl202).trans hl241)) (ho27.up (((hl32.trans hl46).trans hl202).trans hl241)))) ?_
       rintro _ τ244 _ hl245 ⟨rfl, rfl⟩
       refine Z 3 ?_
       refine st_ord [8, 3, 6, 5, 0, 2, 2, 0, 0] _ rfl ?_
       exact hk210 _ _ _ ⟨(!r242), h, (hl241.trans hl245), rfl, rfl⟩
     ·refine Z 2 ?_
      refine st_ord [2, 1, 1, 1, 1] _ rfl ?_
      exact hk52 _ _ _ ⟨(s20.1, s20.2.2.1, s20.2.2.2), _, _, _, _, _, _, _, h, LR, rfl, rfl, (ho26.up (hl32.trans hl46)), (ho27.up (hl32.trans hl46)), (hs29.up (hl32.trans hl46)), (hs31.up (hl32.trans hl46))⟩
  ·refine st_exit rfl ?_
   obtain rfl := he20 _ h
   replace h := hA20
   refine st_ord [] _ rfl ?_
   exact hk15 _ _ _ ⟨(), h, (hl20.trans hl32), rfl, rfl⟩
 refine Z 3 ?_
 refine o_lenI rfl rfl rfl z_slT22 rfl (hs2.up (hl6.trans hl20)) ?_
 refine o_ibin (v := .bool (decide (s20.2.1 < (a0.length : Int)))) rfl rfl rfl rfl rfl rfl ?_
 refine M2 h (fun h => ?_) (fun h => ?_)
 ·refine Z 4 ?_
  exact hk32 _ _ _ ⟨(decide (s20.2.1 < 20)), h, LR, rfl, rfl⟩
 ·refine Z 4 ?_
  exact hk32 _ _ _ ⟨false, h, LR, rfl, rfl⟩
end Go.Rel
