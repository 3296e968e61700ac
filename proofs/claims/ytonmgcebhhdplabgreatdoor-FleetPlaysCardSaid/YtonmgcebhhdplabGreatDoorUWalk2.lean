import Derived.Test.YtonmgcebhhdplabGreatDoorURel
import Derived.Test.YtonmgcebhhdplabGreatDoorUFacts
import Derived.Test.YtonmgcebhhdplabGreatDoorUWalk1
import Derived.Test.YtonmgcebhhdplabGreatDoorEngO
/-! The walks. -/
set_option linter.unusedVariables false
set_option linter.unusedSimpArgs false
set_option maxRecDepth 4000
set_option maxHeartbeats 4000000
namespace Go.Rel
open Go Go.Eng Go.Proofs Go.Proofs.Tryz
open Go.IntKind (i64 u8 u16 u32 u64)
theorem ref30_Contested_ok {a0 : List (TyR) × List (Int × Int × List Int)} {v1 v2 : Value} {r : List (List Int)} (h : ref30_Contested a0 r) (σ : Sto) (hs3 : Sl (kP (kI .i64) (kP (kA .i64 6) (kP (kSl (kA .i64 2)) (kP (kSl (kI .i64)) (kP kS kS))))) σ v1 a0.1) (hs4 : Sl (kP (kI .i64) (kP (kI .i64) (kSl (kI .i64)))) σ v2 a0.2) :
    Does prog 34 [.agg [v1, v2].toArray] σ [] (fun v τ gs => ∃ (v158 : Value), gs = [] ∧ v158 = v ∧ Sl (kA .i64 2) τ v158 r) := by
 refine CO func34 ntmps34 rfl (fun cs fs => Z 2 ?_)
 refine o_box (cs := [v1, v2]) rfl rfl rfl rfl rfl (fun b5 => Z 7 ?_)
 refine st_cut (fun ρ τ6 gs => ∃ (s6 : K29) (v7 : Value) (g8 : Grp), ref30_Contested_j1 s6 r ∧ σ.Le τ6 ∧ ESub ρ [(2, .N0), (3, v7)] ∧ gs = [g8] ∧ Ow (kA .i64 2) 83 τ6 v7 s6 g8) ?_ (fun hk6 => ?_)
 ·rintro ρ6 τ6 gs6 ⟨s6, v7, g8, h, hl6, hρ, rfl, ho9⟩
  refine st_es hρ (Z 5 ?_)
  refine st_freeze (fun τ10 hl11 hg12 => ?_)
  have hs13 := ho9.freeze hl11 hg12
  obtain rfl := h.symm
  exact RT func34 rfl (hl6.trans hl11) ⟨_, rfl, rfl, hs13⟩
 refine Z 4 ?_
 obtain ⟨e16, hL16, hA16⟩ := h
 refine st_addNil ?_
 refine st_ord [1, 0] _ rfl ?_
 refine st_loop hL16 (fun (s16 : K35) ρ τ16 gs => σ.Le τ16 ∧ ∃ (v17 : Value) (g18 : Grp), ESub ρ [(1, .Pb b5), (2, .N0), (3, v17), (4, .I s16.2)] ∧ gs = [[(b5, .cells #[v1, v2] 28 (0, 0))], g18] ∧ Ow (kA .i64 2) 83 τ16 v17 s16.1 g18) ⟨LR, _, _, rfl, rfl, Ow.nil⟩ ?_
 rintro s16 o16 h he16 ρ16 τ16 gs16 ⟨hl16, v17, g18, hρ, rfl, ho19⟩ hn16
 refine st_es hρ (ZZ 6 [0] ?_)
 refine o_lenI rfl rfl rfl z_slT26 rfl (hs4.up hl16) (Z 2 ?_)
 refine I2 h (fun h => ?_) (fun h => ?_)
 ·refine Z 2 ?_
  refine st_cut (fun ρ τ20 gs => ∃ (s20 : K29) (v21 : Value) (g22 : Grp), ref30_Contested_j3 s16 s20 o16 ∧ τ16.Le τ20 ∧ ESub ρ [(1, .Pb b5), (2, .N0), (3, v21), (4, .I s16.2)] ∧ gs = [[(b5, .cells #[v1, v2] 28 (0, 0))], g22] ∧ Ow (kA .i64 2) 83 τ20 v21 s20 g22) ?_ (fun hk20 => ?_)
  ·rintro ρ20 τ20 gs20 ⟨s20, v21, g22, h, hl20, hρ, rfl, ho23⟩
   refine st_es hρ (Z 5 ?_)
   exact hn16 _ _ _ _ h ⟨(hl16.trans hl20), _, _, rfl, rfl, ho23⟩
  refine Z 5 ?_
  obtain ⟨e24, hL24, hA24⟩ := h
  refine st_loop hL24 (fun (s24 : K35) ρ τ24 gs => τ16.Le τ24 ∧ ∃ (v25 : Value) (g26 : Grp), ESub ρ [(1, .Pb b5), (2, .N0), (3, v25), (4, .I s16.2), (5, .I s24.2)] ∧ gs = [[(b5, .cells #[v1, v2] 28 (0, 0))], g26] ∧ Ow (kA .i64 2) 83 τ24 v25 s24.1 g26) ⟨LR, _, _, rfl, rfl, ho19⟩ ?_
  rintro s24 o24 h he24 ρ24 τ24 gs24 ⟨hl24, v25, g26, hρ, rfl, ho27⟩ hn24
  refine st_es hρ (ZZ 7 [0] ?_)
  obtain ⟨q28, hf29, h⟩ := h
  refine o_index rfl rfl rfl z_slT26 rfl rfl (hs4.up (hl16.trans hl24)) rfl hf29 (fun b30 of31 vs hc33 hrep => ?_)
  obtain ⟨_, _, rfl, rfl, ⟨_, _, rfl, rfl, ⟨v32, rfl, hs34⟩⟩⟩ := hrep
  refine o_fieldAddr rfl rfl rfl z_field80_2 rfl ?_
  refine o_loadI (v := v32) rfl rfl rfl z_sc31 rfl (hc33 2 _ rfl) ?_
  refine o_lenI rfl rfl rfl z_slT31 rfl hs34 (Z 2 ?_)
  refine I2 h (fun h => ?_) (fun h => ?_)
  ·refine Z 2 ?_
   refine st_cut (fun ρ τ35 gs => ∃ (s35 : K29) (v36 : Value) (g37 : Grp), ref30_Contested_j5 s24 s35 o24 ∧ τ24.Le τ35 ∧ ESub ρ [(1, .Pb b5), (2, .N0), (3, v36), (4, .I s16.2), (5, .I s24.2)] ∧ gs = [[(b5, .cells #[v1, v2] 28 (0, 0))], g37] ∧ Ow (kA .i64 2) 83 τ35 v36 s35 g37) ?_ (fun hk35 => ?_)
   ·rintro ρ35 τ35 gs35 ⟨s35, v36, g37, h, hl35, hρ, rfl, ho38⟩
    refine st_es hρ (Z 5 ?_)
    exact hn24 _ _ _ _ h ⟨(hl24.trans hl35), _, _, rfl, rfl, ho38⟩
   refine Z 2 ?_
   obtain ⟨q39, hf40, q47, hf48, q55, hf56, h⟩ := h
   refine st_draw 17 (dl [.v (.pointer (some ⟨b5, 1, none⟩)), .v (v2), .v (.I s16.2), .t fun τ v => ∃ (b41 of42 : Nat) (vsb41 : K4), (.pointer (some ⟨b41, of42, none⟩) : Value) = v ∧ CelN τ ⟨b41, of42, none⟩ vsb41 ∧ (kP (kI .i64) (kP (kI .i64) (kSl (kI .i64)))).rep τ vsb41 q39, .t fun τ v => ∃ (b41 of42 : Nat) (vsb41 : K4), (.pointer (some ⟨b41, of42 + 1, none⟩) : Value) = v ∧ CelN τ ⟨b41, of42, none⟩ vsb41 ∧ (kP (kI .i64) (kP (kI .i64) (kSl (kI .i64)))).rep τ vsb41 q39, .v (.I q39.2.1), .v (.pointer (some ⟨b5, 1, none⟩)), .v (v2), .v (.I s16.2), .t fun τ v => ∃ (b49 of50 : Nat) (vsb49 : K4), (.pointer (some ⟨b49, of50, none⟩) : Value) = v ∧ CelN τ ⟨b49, of50, none⟩ vsb49 ∧ (kP (kI .i64) (kP (kI .i64) (kSl (kI .i64)))).rep τ vsb49 q47, .t fun τ v => ∃ (b49 of50 : Nat) (vsb49 : K4), (.pointer (some ⟨b49, of50 + 2, none⟩) : Value) = v ∧ CelN τ ⟨b49, of50, none⟩ vsb49 ∧ (kP (kI .i64) (kP (kI .i64) (kSl (kI .i64)))).rep τ vsb49 q47, .t fun τ v => ∃ (v51 : Value), (v51 : Value) = v ∧ Sl (kI .i64) τ v51 q47.2.2, .v (.I s24.2), .t fun τ v => ∃ (b57 of58 : Nat) (vsb57 : K4), (.pointer (some ⟨b57, of58, none⟩) : Value) = v ∧ CelN τ ⟨b57, of58, none⟩ vsb57 ∧ (kI .i64).rep τ vsb57 q55, .v (.I q55), .v (.agg #[.I q39.2.1, .I q55]), .t fun τ v => ∃ (b60 : Nat), (.Pb b60 : Value) = v]) (oneG 16 (.cells #[.I 0, .I 0] 83 (0, 0))) z_mix rfl (dl_mono ⟨fun _ _ _ hl ⟨b41, of42, vsb41, hv, hc44, hrepb41⟩ => ⟨b41, of42, vsb41, hv, hc44.up hl, Kd.mono _ hl hrepb41⟩, ⟨fun _ _ _ hl ⟨b41, of42, vsb41, hv, hc44, hrepb41⟩ => ⟨b41, of42, vsb41, hv, hc44.up hl, Kd.mono _ hl hrepb41⟩, ⟨fun _ _ _ hl ⟨b49, of50, vsb49, hv, hc52, hrepb49⟩ => ⟨b49, of50, vsb49, hv, hc52.up hl, Kd.mono _ hl hrepb49⟩, ⟨fun _ _ _ hl ⟨b49, of50, vsb49, hv, hc52, hrepb49⟩ => ⟨b49, of50, vsb49, hv, hc52.up hl, Kd.mono _ hl hrepb49⟩, ⟨fun _ _ _ hl ⟨v51, hv, hs54⟩ => ⟨v51, hv, hs54.up hl⟩, ⟨fun _ _ _ hl ⟨b57, of58, vsb57, hv, hc59, hrepb57⟩ => ⟨b57, of58, vsb57, hv, hc59.up hl, Kd.mono _ hl hrepb57⟩, ⟨fun _ _ _ hl ⟨b60, hv⟩ => ⟨b60, hv⟩, trivial⟩⟩⟩⟩⟩⟩⟩) (allB_cons (allB_cons (allB_cons (allB_cons (allB_cons (allB_cons (allB_cons (allB_cons (allB_cons (allB_cons (allB_cons (allB_cons (allB_cons (allB_cons (allB_cons (allB_cons (allB_cons allB_nil (p1o dA)) ?_) (p1o dA)) ?_) ?_) ?_) (p1o dA)) ?_) (p1o dA)) ?_) ?_) ?_) (p1o dA)) ?_) ?_) ?_) ?_) ?_
   ·intro ρ' τ pq rs hl hd hq hk
    obtain ⟨_, e0, rfl⟩ := hd 0 rfl
    refine o_load (j := 0) (v := v2) rfl rfl rfl z_sc26 e0 rfl rfl ?_
    exact st_addNil (hk _ _ LR rfl)
   ·intro ρ' τ pq rs hl hd hq hk
    obtain ⟨_, e1, rfl⟩ := hd 1 rfl
    obtain ⟨_, e2, rfl⟩ := hd 2 rfl
    refine o_index rfl rfl rfl z_slT26 rfl e1 (hs4.up ((hl16.trans hl24).trans hl)) e2 hf40 (fun b41 of42 vsb41 hc44 hrepb41 => ?_)
    exact st_addNil (hk _ _ LR ⟨b41, of42, _, rfl, hc44, hrepb41⟩)
   ·intro ρ' τ pq rs hl hd hq hk
    obtain ⟨_, e3, b41, of42, vsb41, rfl, hc44, hrepb41⟩ := hd 3 rfl
    have hrepb41 := hrepb41
    obtain ⟨_, _, rfl, rfl, ⟨_, _, rfl, rfl, ⟨v43, rfl, hs46⟩⟩⟩ := hrepb41
    refine o_fieldAddr rfl rfl rfl z_field80_1 e3 ?_
    exact st_addNil (hk _ _ LR ⟨b41, of42, _, rfl, hc44, hrepb41⟩)
   ·intro ρ' τ pq rs hl hd hq hk
    obtain ⟨_, e4, b41, of42, vsb41, rfl, hc44, hrepb41⟩ := hd 4 rfl
    have hrepb41 := hrepb41
    obtain ⟨_, _, rfl, rfl, ⟨_, _, rfl, rfl, ⟨v43, rfl, hs46⟩⟩⟩ := hrepb41
    refine o_loadI (v := .I q39.2.1) rfl rfl rfl z_sc3 e4 (hc44 1 _ rfl) ?_
    exact st_addNil (hk _ _ LR rfl)
   ·intro ρ' τ pq rs hl hd hq hk
    obtain ⟨_, e6, rfl⟩ := hd 6 rfl
    refine o_load (j := 0) (v := v2) rfl rfl rfl z_sc26 e6 rfl rfl ?_
    exact st_addNil (hk _ _ LR rfl)
   ·intro ρ' τ pq rs hl hd hq hk
    obtain ⟨_, e7, rfl⟩ := hd 7 rfl
    obtain ⟨_, e8, rfl⟩ := hd 8 rfl
    refine o_index rfl rfl rfl z_slT26 rfl e7 (hs4.up ((hl16.trans hl24).trans hl)) e8 hf48 (fun b49 of50 vsb49 hc52 hrepb49 => ?_)
    exact st_addNil (hk _ _ LR ⟨b49, of50, _, rfl, hc52, hrepb49⟩)
   ·intro ρ' τ pq rs hl hd hq hk
    obtain ⟨_, e9, b49, of50, vsb49, rfl, hc52, hrepb49⟩ := hd 9 rfl
    have hrepb49 := hrepb49
    obtain ⟨_, _, rfl, rfl, ⟨_, _, rfl, rfl, ⟨v51, rfl, hs54⟩⟩⟩ := hrepb49
    refine o_fieldAddr rfl rfl rfl z_field80_2 e9 ?_
    exact st_addNil (hk _ _ LR ⟨b49, of50, _, rfl, hc52, hrepb49⟩)
   ·intro ρ' τ pq rs hl hd hq hk
    obtain ⟨_, e10, b49, of50, vsb49, rfl, hc52, hrepb49⟩ := hd 10 rfl
    have hrepb49 := hrepb49
    obtain ⟨_, _, rfl, rfl, ⟨_, _, rfl, rfl, ⟨v51, rfl, hs54⟩⟩⟩ := hrepb49
    refine o_loadI (v := v51) rfl rfl rfl z_sc31 e10 (hc52 2 _ rfl) ?_
    exact st_addNil (hk _ _ LR ⟨v51, rfl, hs54⟩)
   ·intro ρ' τ pq rs hl hd hq hk
    obtain ⟨_, e11, v51, rfl, hs54⟩ := hd 11 rfl
    obtain ⟨_, e12, rfl⟩ := hd 12 rfl
    refine o_index rfl rfl rfl z_slT31 rfl e11 hs54 e12 hf56 (fun b57 of58 vsb57 hc59 hrepb57 => ?_)
    exact st_addNil (hk _ _ LR ⟨b57, of58, _, rfl, hc59, hrepb57⟩)
   ·intro ρ' τ pq rs hl hd hq hk
    obtain ⟨_, e13, b57, of58, vsb57, rfl, hc59, hrepb57⟩ := hd 13 rfl
    have hrepb57 := hrepb57
    obtain rfl := hrepb57
    refine o_loadI (v := .I q55) rfl rfl rfl z_sc3 e13 (hc59 0 _ rfl) ?_
    exact st_addNil (hk _ _ LR rfl)
   ·intro ρ' τ pq rs hl hd hq hk
    obtain ⟨_, e5, rfl⟩ := hd 5 rfl
    obtain ⟨_, e14, rfl⟩ := hd 14 rfl
    refine o_buildA (ps := [(0, [.I q39.2.1]), (1, [.I q55])]) (cs := [.I q39.2.1, .I q55]) rfl rfl rfl z_arrz83 ⟨rfl, ⟨_, e5, rfl⟩, ⟨rfl, ⟨_, e14, rfl⟩, trivial⟩⟩ (fill_all [.I q39.2.1, .I q55] _ rfl) ?_
    exact st_addNil (hk _ _ LR rfl)
   ·intro ρ' τ pq rs hl hd hq hk
    refine o_alloc rfl rfl rfl z_zero83 (fun b60 => ?_)
    exact hk _ _ LR ⟨b60, rfl⟩
   intro ρ' τ61 vals hl61 hv hq
   obtain ⟨l16, b60, t16⟩ := hv 16 (by decide)
   replace l16 : Eng.look ρ' 6 = some (.Pb b60) := l16.trans (congrArg some (Eq.symm t16))
   refine st_gs [[(b5, .cells #[v1, v2] 28 (0, 0))], g26, [(b60, .cells #[.I 0, .I 0] 83 (0, 0))]] (by rw [oneG_flat (by decide) (Eq.symm t16)]; rfl) ?_
   refine st_env (ρ' := [(41, .agg #[.I q39.2.1, .I q55]), (6, .Pb b60), (1, .Pb b5), (2, .N0), (3, v25), (4, .I s16.2), (5, .I s24.2)]) ⟨(lv1 hv 15 rfl rfl), l16, oT hq 1, oT hq 2, oT hq 3, oT hq 4, oT hq 5, trivial⟩ (ZZ 6 [2, 0] ?_)
   refine o_indexA rfl rfl rfl z_arr83 rfl rfl (by decide) (by decide) (ZZ 1 [2] ?_)
   refine o_indexA rfl rfl rfl z_arr83 rfl rfl (by decide) (by decide) (ZZ 1 [2] ?_)
   obtain ⟨r62, hr63, h⟩ := h
   refine SC z_en23 (ref30_Owners_ok hr63 τ61 (hs3.up ((hl16.trans hl24).trans hl61)) (hs4.up ((hl16.trans hl24).trans hl61))) ?_
   rintro _ τ64 _ hl65 ⟨v66, rfl, rfl, hs67⟩
   refine o_lenI rfl rfl rfl z_slT31 rfl hs67 (Z 2 ?_)
   refine I2 h (fun h => ?_) (fun h => ?_)
   ·refine st_exit rfl ?_
    refine st_ord [0, 0] _ rfl ?_
    exact hk35 _ _ _ ⟨s24.1, _, _, h, (hl61.trans hl65), rfl, rfl, (ho27.up (hl61.trans hl65))⟩
   ·refine Z 6 ?_
    refine cutS τ64 (fun (s68 : Int) => ref30_Contested_j6 s24 q39 q55 s68 o24) (fun s68 => [(6, .Pb b60), (1, .Pb b5), (2, .N0), (3, v25), (4, .I s16.2), (5, .I s24.2), (7, .I s68)]) (fun s68 => [[(b5, .cells #[v1, v2] 28 (0, 0))], [(b60, .cells #[.I q39.2.1, .I q55] 83 (0, 0))], g26]) (fun s68 τ68 h hl68 => ?_) (fun hk68 => ?_)
    ·refine st_seq ?_
     obtain ⟨q70, hf71, h⟩ := h
     let cc69 : Prop := (decide (s68 = (s24.1.length : Int))) = false
     refine st_draw 12 (dl [.v (.I s68), .v (v25), .v (.I (s24.1.length : Int)), .v (.bool (decide (s68 = (s24.1.length : Int)))), .v (.bool (decide (s68 = (s24.1.length : Int)))), .g cc69 (v25), .g cc69 (.I s68), .h cc69 fun τ v => ∃ (b72 : Nat), (.pointer (some ⟨b72, s68.toNat * 2, none⟩) : Value) = v ∧ (∃ n cap, v25 = .slice (some ⟨b72, 0, none⟩) n cap), .g cc69 (.agg #[.I (q70.getD 0 0), .I (q70.getD 1 0)]), .g cc69 (.agg #[.I q39.2.1, .I q55]), .g cc69 (.bool (!(eqN 2 0 q70 [q39.2.1, q55]))), .v (.bool ((decide (s68 = (s24.1.length : Int))) || (!(eqN 2 0 q70 [q39.2.1, q55]))))]) (fun _ _ => []) z_mix rfl (dl_mono ⟨fun _ _ _ hl ⟨b72, hv, hb73⟩ => ⟨b72, hv, hb73⟩, trivial⟩) (allB_cons (allB_cons (allB_cons (allB_cons (allB_cons (allB_cons (allB_cons (allB_cons (allB_cons (allB_cons (allB_cons (allB_cons allB_nil (p1 dA)) (p1 dA)) ?_) (p1 dA)) (p1 dA)) (p1 (dG []))) (p1 (dG []))) ?_) ?_) ?_) ?_) (p1 dO)) ?_
     ·intro ρ' τ pq rs hl hd hq hk
      obtain ⟨_, e1, rfl⟩ := hd 1 rfl
      refine o_lenO rfl rfl rfl z_slT39 e1 (ho27.up (((hl61.trans hl65).trans hl68).trans hl)) ?_
      exact st_addNil (hk _ _ LR rfl)
     ·intro ρ' τ pq rs hl hd hq hk
      obtain ⟨_, e4, rfl⟩ := hd 4 rfl
      obtain ⟨w5, e5, t5⟩ := hd 5 rfl
      obtain ⟨w6, e6, t6⟩ := hd 6 rfl
      by_cases hG : (decide (s68 = (s24.1.length : Int))) = false
      ·have hC := hG
       replace hf71 := hf71 hC
       obtain ⟨rfl⟩ := t5.1 hC
       obtain ⟨rfl⟩ := t6.1 hC
       refine o_indexOw rfl (wants_of rfl e4 hG) rfl z_slT39 rfl e5 (ho27.up (((hl61.trans hl65).trans hl68).trans hl)) e6 hf71 (fun b72 hb73 => ?_)
       exact st_addNil (hk _ _ LR ⟨fun _ => ⟨b72, rfl, hb73⟩, fun hn => absurd hC hn⟩)
      ·refine st_pass rfl rfl rfl e4 (beq_off hG) rfl ?_
       exact st_addNil (hk _ _ LR ⟨fun h => absurd h hG, fun _ => rfl⟩)
     ·intro ρ' τ pq rs hl hd hq hk
      obtain ⟨_, e4, rfl⟩ := hd 4 rfl
      obtain ⟨w7, e7, t7⟩ := hd 7 rfl
      by_cases hG : (decide (s68 = (s24.1.length : Int))) = false
      ·have hC := hG
       obtain ⟨b72, rfl, hb73⟩ := t7.1 hC
       replace hf71 := hf71 hC
       obtain ⟨vs74, hrep75, hat76⟩ := Ow.at (ho27.up (((hl61.trans hl65).trans hl68).trans hl)) hb73 hf71
       obtain rfl := hrep75
       refine o_loadOwN (j := 2) (off := 0) (us := [.I (q70.getD 0 0), .I (q70.getD 1 0)]) rfl (wants_of rfl e4 hG) rfl z_agg83 e7 hat76 rfl (by exact rfl) ?_
       exact st_addNil (hk _ _ LR ⟨fun _ => rfl, fun hn => absurd hC hn⟩)
      ·refine st_pass rfl rfl rfl e4 (beq_off hG) rfl ?_
       exact st_addNil (hk _ _ LR ⟨fun h => absurd h hG, fun _ => rfl⟩)
     ·intro ρ' τ pq rs hl hd hq hk
      obtain ⟨_, e4, rfl⟩ := hd 4 rfl
      by_cases hG : (decide (s68 = (s24.1.length : Int))) = false
      ·have hC := hG
       refine o_loadN (j := 1) (vs := [.I q39.2.1, .I q55]) rfl (wants_of rfl e4 hG) rfl z_agg83 (oT hq 6) rfl rfl ?_
       exact st_addNil (hk _ _ LR ⟨fun _ => rfl, fun hn => absurd hC hn⟩)
      ·refine st_pass rfl rfl rfl e4 (beq_off hG) rfl ?_
       exact st_addNil (hk _ _ LR ⟨fun h => absurd h hG, fun _ => rfl⟩)
     ·intro ρ' τ pq rs hl hd hq hk
      obtain ⟨_, e4, rfl⟩ := hd 4 rfl
      obtain ⟨w8, e8, t8⟩ := hd 8 rfl
      obtain ⟨w9, e9, t9⟩ := hd 9 rfl
      by_cases hG : (decide (s68 = (s24.1.length : Int))) = false
      ·have hC := hG
       obtain ⟨rfl⟩ := t8.1 hC
       obtain ⟨rfl⟩ := t9.1 hC
       refine o_aggEq (b := (eqN 2 0 q70 [q39.2.1, q55])) (e := (!(eqN 2 0 q70 [q39.2.1, q55]))) rfl (wants_of rfl e4 hG) rfl z_eqg83 e8 e9 (fun w => by exact eq_arr (xs := q70) (ys := [q39.2.1, q55]) underlying83 underlying3 z_info3 z_cell3) rfl ?_
       exact st_addNil (hk _ _ LR ⟨fun _ => rfl, fun hn => absurd hC hn⟩)
      ·refine st_pass rfl rfl rfl e4 (beq_off hG) rfl ?_
       exact st_addNil (hk _ _ LR ⟨fun h => absurd h hG, fun _ => rfl⟩)
     intro ρ' τ77 vals hl77 hv hq
     refine st_ord [0, 0, 0] _ rfl ?_
     refine st_env (ρ' := [(97, .bool ((decide (s68 = (s24.1.length : Int))) || (!(eqN 2 0 q70 [q39.2.1, q55])))), (6, .Pb b60), (1, .Pb b5), (2, .N0), (3, v25), (4, .I s16.2), (5, .I s24.2), (7, .I s68)]) ⟨(lv1 hv 11 rfl rfl), oT hq 6, oT hq 1, oT hq 2, oT hq 3, oT hq 4, oT hq 5, oT hq 7, trivial⟩ ?_
     refine st_end ?_
     refine I2 h (fun h => ?_) (fun h => ?_)
     ·obtain ⟨hf88, hf89, hf95, hf96, hf110, hf111, hf115, hf116, hf117, hf123, hf124, h⟩ := h
      refine st_ord [2, 0, 0] _ rfl ?_
      refine st_freeze (fun τ78 hl79 hg80 => ?_)
      have hs81 := ho27.freeze ((((hl61.trans hl65).trans hl68).trans hl77).trans hl79) hg80
      refine st_d41 [[(b5, .cells #[v1, v2] 28 (0, 0))], [(b60, .cells #[.I q39.2.1, .I q55] 83 (0, 0))]] [] 12 4 [some (0, 0), none, none, none, some (0, 1), none, none, some (0, 2), none, none, none, some (0, 3)] [none, none, none, none, none, none, none, none, none, none, none, none] [[none, some 98, some 102, some 105, some 109]] [.t fun _ _ => True, .v (v25), .v (.I s68), .t fun τ v => ∃ (v90 : Value), (v90 : Value) = v ∧ Sl (kA .i64 2) τ v90 ((s24.1.drop (0 : Int).toNat).take ((s68 : Int) - 0).toNat), .t fun _ _ => True, .v (.agg #[.I q39.2.1, .I q55]), .t fun τ v => ∃ (v100 : Value), (v100 : Value) = v ∧ Sl (kA .i64 2) τ v100 [[q39.2.1, q55]], .t fun _ _ => True, .v (v25), .v (.I s68), .t fun τ v => ∃ (v118 : Value), (v118 : Value) = v ∧ Sl (kA .i64 2) τ v118 ((s24.1.drop s68.toNat).take (((s24.1.length : Int) : Int) - s68).toNat), .t fun _ _ => True] [[fun τ u F => F = [], fun τ u F => ∃ (v85 : Value) (g86 : Grp), F = [g86] ∧ v85 = u ∧ Ow (kA .i64 2) 83 τ v85 ([] : List (List Int)) g86, fun τ u F => ∃ (v97 : Value) (g98 : Grp), F = [g98] ∧ v97 = u ∧ Ow (kA .i64 2) 83 τ v97 (([] : List (List Int)) ++ ((s24.1.drop (0 : Int).toNat).take ((s68 : Int) - 0).toNat)) g98, fun τ u F => ∃ (v112 : Value) (g113 : Grp), F = [g113] ∧ v112 = u ∧ Ow (kA .i64 2) 83 τ v112 ((([] : List (List Int)) ++ ((s24.1.drop (0 : Int).toNat).take ((s68 : Int) - 0).toNat)) ++ [[q39.2.1, q55]]) g113, fun τ u F => ∃ (v125 : Value) (g126 : Grp), F = [g126] ∧ v125 = u ∧ Ow (kA .i64 2) 83 τ v125 (((([] : List (List Int)) ++ ((s24.1.drop (0 : Int).toNat).take ((s68 : Int) - 0).toNat)) ++ [[q39.2.1, q55]]) ++ ((s24.1.drop s68.toNat).take (((s24.1.length : Int) : Int) - s68).toNat)) g126]] rfl z_mix rfl ⟨fun _ _ _ _ _ => trivial, ⟨fun _ _ _ hl ⟨v90, hv, hs91⟩ => ⟨v90, hv, hs91.up hl⟩, ⟨fun _ _ _ _ _ => trivial, ⟨fun _ _ _ hl ⟨v100, hv, hs106⟩ => ⟨v100, hv, hs106.up hl⟩, ⟨fun _ _ _ _ _ => trivial, ⟨fun _ _ _ hl ⟨v118, hv, hs119⟩ => ⟨v118, hv, hs119.up hl⟩, ⟨fun _ _ _ _ _ => trivial, trivial⟩⟩⟩⟩⟩⟩⟩ ⟨⟨fun _ _ _ _ hl h => h, ⟨fun _ _ _ _ hl h => (let ⟨v85, g86, hF, hU, ho87⟩ := h; ⟨v85, g86, hF, hU, ho87.up hl⟩), ⟨fun _ _ _ _ hl h => (let ⟨v97, g98, hF, hU, ho99⟩ := h; ⟨v97, g98, hF, hU, ho99.up hl⟩), ⟨fun _ _ _ _ hl h => (let ⟨v112, g113, hF, hU, ho114⟩ := h; ⟨v112, g113, hF, hU, ho114.up hl⟩), ⟨fun _ _ _ _ hl h => (let ⟨v125, g126, hF, hU, ho127⟩ := h; ⟨v125, g126, hF, hU, ho127.up hl⟩), trivial⟩⟩⟩⟩⟩, trivial⟩ rfl rfl ?_ (allB_cons (allB_cons (allB_cons (allB_cons (allB_cons (allB_cons (allB_cons (allB_cons (allB_cons (allB_cons (allB_cons (allB_cons allB_nil ?_) (p4 dA)) (p4 dA)) ?_) ?_) ?_) ?_) ?_) (p4 dA)) (p4 dA)) ?_) ?_) ?_
      ·exact rfl
      ·intro ρ' τ u Fv pq rs hl hI hu hd hq hw hk
       have hI0 := hI
       obtain rfl := hI
       refine o_lit (dk := (kA .i64 2)) (xs := ([] : List (List Int))) (ps := []) (cs := []) rfl rfl rfl z_slT39 z_zero83 trivial rfl rfl rfl rfl Kd.Many.nil (fun v82 g83 ho84 => ?_)
       refine st_ord [1, 1, 0, 0] _ rfl ?_
       exact hk _ _ [g83] LR trivial (by exact ⟨v82, g83, rfl, rfl, ho84⟩)
      ·intro ρ' τ pq rs hl hd hq hw hk
       obtain ⟨_, e1, rfl⟩ := hd 1 rfl _ rfl
       obtain ⟨_, e2, rfl⟩ := hd 2 rfl _ rfl
       refine o_slice (L := 0) (H := s68) rfl rfl rfl z_slT39 rfl e1 (hs81.up hl) rfl ⟨_, e2⟩ (by decide) hf88 hf89 trivial (by simp) (fun v90 hs91 => ?_)
       exact hk _ _ LR ⟨v90, rfl, hs91⟩
      ·intro ρ' τ u Fv pq rs hl hI hu hd hq hw hk
       obtain ⟨_, e3, v90, rfl, hs91⟩ := hd 3 rfl _ rfl
       obtain ⟨v85, g86, rfl, rfl, ho87⟩ := hI
       refine st_ord [2, 0, 0, 0] _ rfl ?_
       refine o_append (dk := (kA .i64 2)) (xs := ([] : List (List Int))) (ys := ((s24.1.drop (0 : Int).toNat).take ((s68 : Int) - 0).toNat)) rfl rfl rfl rfl z_slT39 (hu (by decide) _ rfl) ho87 e3 (Sl.src hs91) hf95 hf96 (fun v92 g93 ho94 => ?_)
       refine st_ord [1, 1, 0, 0] _ rfl ?_
       exact hk _ _ [g93] LR trivial (by exact ⟨v92, g93, rfl, rfl, ho94⟩)
      ·intro ρ' τ pq rs hl hd hq hw hk
       refine o_loadN (j := 1) (vs := [.I q39.2.1, .I q55]) rfl rfl rfl z_agg83 (oT hq 6) rfl rfl ?_
       exact hk _ _ LR rfl
      ·intro ρ' τ pq rs hl hd hq hw hk
       obtain ⟨_, e5, rfl⟩ := hd 5 rfl _ rfl
       refine o_litE (eA .i64 2) [[q39.2.1, q55]] rfl rfl rfl z_slT39 z_zero83 ⟨rfl, ⟨_, e5, rfl⟩, trivial⟩ rfl rfl rfl rfl (fun v100 g101 ho102 => ?_)
       refine st_freeze (fun τ103 hl104 hg105 => ?_)
       have hs106 := ho102.freeze hl104 hg105
       exact hk _ _ hl104 ⟨v100, rfl, hs106⟩
      ·intro ρ' τ u Fv pq rs hl hI hu hd hq hw hk
       obtain ⟨_, e6, v100, rfl, hs106⟩ := hd 6 rfl _ rfl
       obtain ⟨v97, g98, rfl, rfl, ho99⟩ := hI
       refine st_ord [2, 0, 0, 0] _ rfl ?_
       refine o_append (dk := (kA .i64 2)) (xs := (([] : List (List Int)) ++ ((s24.1.drop (0 : Int).toNat).take ((s68 : Int) - 0).toNat))) (ys := [[q39.2.1, q55]]) rfl rfl rfl rfl z_slT39 (hu (by decide) _ rfl) ho99 e6 (Sl.src hs106) hf110 hf111 (fun v107 g108 ho109 => ?_)
       refine st_ord [1, 1, 0, 0] _ rfl ?_
       exact hk _ _ [g108] LR trivial (by exact ⟨v107, g108, rfl, rfl, ho109⟩)
      ·intro ρ' τ pq rs hl hd hq hw hk
       obtain ⟨_, e8, rfl⟩ := hd 8 rfl _ rfl
       obtain ⟨_, e9, rfl⟩ := hd 9 rfl _ rfl
       refine o_slice (L := s68) (H := (s24.1.length : Int)) rfl rfl rfl z_slT39 rfl e8 (hs81.up hl) ⟨_, e9⟩ rfl hf115 hf116 hf117 trivial (by simp) (fun v118 hs119 => ?_)
       exact hk _ _ LR ⟨v118, rfl, hs119⟩
      ·intro ρ' τ u Fv pq rs hl hI hu hd hq hw hk
       obtain ⟨_, e10, v118, rfl, hs119⟩ := hd 10 rfl _ rfl
       obtain ⟨v112, g113, rfl, rfl, ho114⟩ := hI
       refine st_ord [2, 0, 0, 0] _ rfl ?_
       refine o_append (dk := (kA .i64 2)) (xs := ((([] : List (List Int)) ++ ((s24.1.drop (0 : Int).toNat).take ((s68 : Int) - 0).toNat)) ++ [[q39.2.1, q55]])) (ys := ((s24.1.drop s68.toNat).take (((s24.1.length : Int) : Int) - s68).toNat)) rfl rfl rfl rfl z_slT39 (hu (by decide) _ rfl) ho114 e10 (Sl.src hs119) hf123 hf124 (fun v120 g121 ho122 => ?_)
       refine st_ord [1, 1, 0, 0] _ rfl ?_
       exact hk _ _ [g121] LR trivial (by exact ⟨v120, g121, rfl, rfl, ho122⟩)
      intro ρ' τ128 vals u Fv hl128 hI hu hv hq
      obtain ⟨v125, g126, rfl, rfl, ho127⟩ := hI
      refine st_env (ρ' := [(1, .Pb b5), (2, .N0), (4, .I s16.2), (5, .I s24.2), (109, v125)]) ⟨oT hq 1, oT hq 2, oT hq 4, oT hq 5, (by exact hu _ rfl), trivial⟩ (Z 3 ?_)
      refine st_ord [0, 1] _ rfl ?_
      exact hk35 _ _ _ ⟨(((([] : List (List Int)) ++ ((s24.1.drop (0 : Int).toNat).take ((s68 : Int) - 0).toNat)) ++ [[q39.2.1, q55]]) ++ ((s24.1.drop s68.toNat).take (((s24.1.length : Int) : Int) - s68).toNat)), _, _, h, (((((hl61.trans hl65).trans hl68).trans hl77).trans hl79).trans hl128), rfl, rfl, ho127⟩
     ·refine Z 2 ?_
      refine st_ord [0, 1] _ rfl ?_
      exact hk35 _ _ _ ⟨s24.1, _, _, h, (((hl61.trans hl65).trans hl68).trans hl77), rfl, rfl, (ho27.up (((hl61.trans hl65).trans hl68).trans hl77))⟩
    obtain ⟨e129, hL129, hA129⟩ := h
    refine st_ord [0, 1, 0] _ rfl ?_
    refine st_loop hL129 (fun (s129 : Int) ρ τ129 gs => τ64.Le τ129 ∧ ESub ρ [(6, .Pb b60), (1, .Pb b5), (2, .N0), (3, v25), (4, .I s16.2), (5, .I s24.2), (7, .I s129)] ∧ gs = [[(b5, .cells #[v1, v2] 28 (0, 0))], [(b60, .cells #[.I q39.2.1, .I q55] 83 (0, 0))], g26]) ⟨LR, rfl, rfl⟩ ?_
    rintro s129 o129 h he129 ρ129 τ129 gs129 ⟨hl129, hρ, rfl⟩ hn129
    refine st_es hρ (Z 2 ?_)
    obtain ⟨q131, hf132, q139, hf140, q147, hf148, h⟩ := h
    let cc130 : Prop := (decide (s129 < (s24.1.length : Int))) = true
    let cc138 : Prop := cc130 ∧ (decide ((q131.getD 0 0) < q39.2.1)) = false
    let cc146 : Prop := cc138 ∧ (decide ((q139.getD 0 0) = q39.2.1)) = true
    refine st_draw 34 (dl [.v (.I s129), .v (v25), .v (.I (s24.1.length : Int)), .v (.bool (decide (s129 < (s24.1.length : Int)))), .v (.bool (decide (s129 < (s24.1.length : Int)))), .g cc130 (v25), .g cc130 (.I s129), .h cc130 fun τ v => ∃ (b133 : Nat), (.pointer (some ⟨b133, s129.toNat * 2, none⟩) : Value) = v ∧ (∃ n cap, v25 = .slice (some ⟨b133, 0, none⟩) n cap), .h cc130 fun τ v => ∃ (b133 : Nat), (.pointer (some ⟨b133, s129.toNat * 2 + (0 : Int).toNat * 1, none⟩) : Value) = v ∧ (∃ n cap, v25 = .slice (some ⟨b133, 0, none⟩) n cap), .g cc130 (.I (q131.getD 0 0)), .g cc130 (.Pb b60), .g cc130 (.I q39.2.1), .g cc130 (.bool (decide ((q131.getD 0 0) < q39.2.1))), .g cc130 (.bool (decide ((q131.getD 0 0) < q39.2.1))), .g cc138 (v25), .g cc138 (.I s129), .h cc138 fun τ v => ∃ (b141 : Nat), (.pointer (some ⟨b141, s129.toNat * 2, none⟩) : Value) = v ∧ (∃ n cap, v25 = .slice (some ⟨b141, 0, none⟩) n cap), .h cc138 fun τ v => ∃ (b141 : Nat), (.pointer (some ⟨b141, s129.toNat * 2 + (0 : Int).toNat * 1, none⟩) : Value) = v ∧ (∃ n cap, v25 = .slice (some ⟨b141, 0, none⟩) n cap), .g cc138 (.I (q139.getD 0 0)), .g cc138 (.Pb b60), .g cc138 (.I q39.2.1), .g cc138 (.bool (decide ((q139.getD 0 0) = q39.2.1))), .g cc138 (.bool (decide ((q139.getD 0 0) = q39.2.1))), .g cc146 (v25), .g cc146 (.I s129), .h cc146 fun τ v => ∃ (b149 : Nat), (.pointer (some ⟨b149, s129.toNat * 2, none⟩) : Value) = v ∧ (∃ n cap, v25 = .slice (some ⟨b149, 0, none⟩) n cap), .h cc146 fun τ v => ∃ (b149 : Nat), (.pointer (some ⟨b149, s129.toNat * 2 + (1 : Int).toNat * 1, none⟩) : Value) = v ∧ (∃ n cap, v25 = .slice (some ⟨b149, 0, none⟩) n cap), .g cc146 (.I (q147.getD 1 0)), .g cc146 (.pointer (some ⟨b60, 1, none⟩)), .g cc146 (.I q55), .g cc146 (.bool (decide ((q147.getD 1 0) < q55))), .g cc138 (.bool ((decide ((q139.getD 0 0) = q39.2.1)) && (decide ((q147.getD 1 0) < q55)))), .g cc130 (.bool ((decide ((q131.getD 0 0) < q39.2.1)) || ((decide ((q139.getD 0 0) = q39.2.1)) && (decide ((q147.getD 1 0) < q55))))), .v (.bool ((decide (s129 < (s24.1.length : Int))) && ((decide ((q131.getD 0 0) < q39.2.1)) || ((decide ((q139.getD 0 0) = q39.2.1)) && (decide ((q147.getD 1 0) < q55))))))]) (fun _ _ => []) z_mix rfl (dl_mono (by exact ⟨fun _ _ _ hl ⟨b133, hv, hb134⟩ => ⟨b133, hv, hb134⟩, ⟨fun _ _ _ hl ⟨b133, hv, hb134⟩ => ⟨b133, hv, hb134⟩, ⟨fun _ _ _ hl ⟨b141, hv, hb142⟩ => ⟨b141, hv, hb142⟩, ⟨fun _ _ _ hl ⟨b141, hv, hb142⟩ => ⟨b141, hv, hb142⟩, ⟨fun _ _ _ hl ⟨b149, hv, hb150⟩ => ⟨b149, hv, hb150⟩, ⟨fun _ _ _ hl ⟨b149, hv, hb150⟩ => ⟨b149, hv, hb150⟩, trivial⟩⟩⟩⟩⟩⟩)) (allB_cons (allB_cons (allB_cons (allB_cons (allB_cons (allB_cons (allB_cons (allB_cons (allB_cons (allB_cons (allB_cons (allB_cons (allB_cons (allB_cons (allB_cons (allB_cons (allB_cons (allB_cons (allB_cons (allB_cons (allB_cons (allB_cons (allB_cons (allB_cons (allB_cons (allB_cons (allB_cons (allB_cons (allB_cons (allB_cons (allB_cons (allB_cons (allB_cons (allB_cons allB_nil (p1 dA)) (p1 dA)) ?_) (p1 dA)) (p1 dA)) (p1 (dG []))) (p1 (dG []))) ?_) ?_) ?_) ?_) ?_) (p1 (dG [9, 11]))) (p1 (dG [12]))) (p1 (dG []))) (p1 (dG []))) ?_) ?_) ?_) ?_) ?_) (p1 (dG [18, 20]))) (p1 (dG [21]))) (p1 (dG []))) (p1 (dG []))) ?_) ?_) ?_) ?_) ?_) (p1 (dG [27, 29]))) (p1 (dKG [22]))) (p1 (dOG [13]))) (p1 dK)) ?_
    ·intro ρ' τ pq rs hl hd hq hk
     obtain ⟨_, e1, rfl⟩ := hd 1 rfl
     refine o_lenO rfl rfl rfl z_slT39 e1 (ho27.up (((hl61.trans hl65).trans hl129).trans hl)) ?_
     exact st_addNil (hk _ _ LR rfl)
    ·intro ρ' τ pq rs hl hd hq hk
     obtain ⟨_, e4, rfl⟩ := hd 4 rfl
     obtain ⟨w5, e5, t5⟩ := hd 5 rfl
     obtain ⟨w6, e6, t6⟩ := hd 6 rfl
     by_cases hG : (decide (s129 < (s24.1.length : Int))) = true
     ·have hC := hG
      replace hf132 := hf132 hC
      obtain ⟨rfl⟩ := t6.1 hC
      obtain ⟨rfl⟩ := t5.1 hC
      refine o_indexOw rfl (wants_of rfl e4 hG) rfl z_slT39 rfl e5 (ho27.up (((hl61.trans hl65).trans hl129).trans hl)) e6 hf132 (fun b133 hb134 => ?_)
      exact st_addNil (hk _ _ LR ⟨fun _ => ⟨b133, rfl, hb134⟩, fun hn => absurd hC hn⟩)
     ·refine st_pass rfl rfl rfl e4 (beq_off hG) rfl ?_
      exact st_addNil (hk _ _ LR ⟨fun h => absurd h hG, fun _ => rfl⟩)
    ·intro ρ' τ pq rs hl hd hq hk
     obtain ⟨_, e4, rfl⟩ := hd 4 rfl
     obtain ⟨w7, e7, t7⟩ := hd 7 rfl
     by_cases hG : (decide (s129 < (s24.1.length : Int))) = true
     ·have hC := hG
      obtain ⟨b133, rfl, hb134⟩ := t7.1 hC
      replace hf132 := hf132 hC
      refine o_indexA rfl (wants_of rfl e4 hG) rfl z_arr83 e7 rfl (by decide) (by decide) ?_
      exact st_addNil (hk _ _ LR ⟨fun _ => ⟨b133, rfl, hb134⟩, fun hn => absurd hC hn⟩)
     ·refine st_pass rfl rfl rfl e4 (beq_off hG) rfl ?_
      exact st_addNil (hk _ _ LR ⟨fun h => absurd h hG, fun _ => rfl⟩)
    ·intro ρ' τ pq rs hl hd hq hk
     obtain ⟨_, e4, rfl⟩ := hd 4 rfl
     obtain ⟨w8, e8, t8⟩ := hd 8 rfl
     by_cases hG : (decide (s129 < (s24.1.length : Int))) = true
     ·have hC := hG
      obtain ⟨b133, rfl, hb134⟩ := t8.1 hC
      replace hf132 := hf132 hC
      obtain ⟨vs135, hrep136, hat137⟩ := Ow.at (ho27.up (((hl61.trans hl65).trans hl129).trans hl)) hb134 hf132
      obtain rfl := hrep136
      refine o_loadOw (off := 0) (j := 2) (v := .I (q131.getD 0 0)) rfl (wants_of rfl e4 hG) rfl z_sc3 e8 hat137 rfl rfl ?_
      exact st_addNil (hk _ _ LR ⟨fun _ => rfl, fun hn => absurd hC hn⟩)
     ·refine st_pass rfl rfl rfl e4 (beq_off hG) rfl ?_
      exact st_addNil (hk _ _ LR ⟨fun h => absurd h hG, fun _ => rfl⟩)
    ·intro ρ' τ pq rs hl hd hq hk
     obtain ⟨_, e4, rfl⟩ := hd 4 rfl
     by_cases hG : (decide (s129 < (s24.1.length : Int))) = true
     ·have hC := hG
      refine o_indexA rfl (wants_of rfl e4 hG) rfl z_arr83 (oT hq 6) rfl (by decide) (by decide) ?_
      exact st_addNil (hk _ _ LR ⟨fun _ => rfl, fun hn => absurd hC hn⟩)
     ·refine st_pass rfl rfl rfl e4 (beq_off hG) rfl ?_
      exact st_addNil (hk _ _ LR ⟨fun h => absurd h hG, fun _ => rfl⟩)
    ·intro ρ' τ pq rs hl hd hq hk
     obtain ⟨_, e4, rfl⟩ := hd 4 rfl
     obtain ⟨w10, e10, t10⟩ := hd 10 rfl
     by_cases hG : (decide (s129 < (s24.1.length : Int))) = true
     ·have hC := hG
      obtain ⟨rfl⟩ := t10.1 hC
      refine o_load (j := 1) (v := .I q39.2.1) rfl (wants_of rfl e4 hG) rfl z_sc3 e10 rfl rfl ?_
      exact st_addNil (hk _ _ LR ⟨fun _ => rfl, fun hn => absurd hC hn⟩)
     ·refine st_pass rfl rfl rfl e4 (beq_off hG) rfl ?_
      exact st_addNil (hk _ _ LR ⟨fun h => absurd h hG, fun _ => rfl⟩)
    ·intro ρ' τ pq rs hl hd hq hk
     obtain ⟨w13, e13, t13⟩ := hd 13 rfl
     obtain ⟨w14, e14, t14⟩ := hd 14 rfl
     obtain ⟨w15, e15, t15⟩ := hd 15 rfl
     by_cases hC : (decide (s129 < (s24.1.length : Int))) = true
     ·obtain rfl := t13.1 hC
      by_cases hG : (decide ((q131.getD 0 0) < q39.2.1)) = false
      ·replace hC := And.intro hC hG
       replace hf140 := hf140 hC
       obtain ⟨rfl⟩ := t14.1 hC
       obtain ⟨rfl⟩ := t15.1 hC
       refine o_indexOw rfl (wants_of rfl e13 hG) rfl z_slT39 rfl e14 (ho27.up (((hl61.trans hl65).trans hl129).trans hl)) e15 hf140 (fun b141 hb142 => ?_)
       exact st_addNil (hk _ _ LR ⟨fun _ => ⟨b141, rfl, hb142⟩, fun hn => absurd hC hn⟩)
      ·refine st_pass rfl rfl rfl e13 (beq_off hG) rfl ?_
       exact st_addNil (hk _ _ LR ⟨fun h => absurd h.2 hG, fun _ => rfl⟩)
     ·obtain rfl := t13.2 hC
      refine st_passU rfl rfl rfl e13 rfl ?_
      exact st_addNil (hk _ _ LR ⟨fun h => absurd h.1 hC, fun _ => rfl⟩)
    ·intro ρ' τ pq rs hl hd hq hk
     obtain ⟨w13, e13, t13⟩ := hd 13 rfl
     obtain ⟨w16, e16, t16⟩ := hd 16 rfl
     by_cases hC : (decide (s129 < (s24.1.length : Int))) = true
     ·obtain rfl := t13.1 hC
      by_cases hG : (decide ((q131.getD 0 0) < q39.2.1)) = false
      ·replace hC := And.intro hC hG
       obtain ⟨b141, rfl, hb142⟩ := t16.1 hC
       replace hf140 := hf140 hC
       refine o_indexA rfl (wants_of rfl e13 hG) rfl z_arr83 e16 rfl (by decide) (by decide) ?_
       exact st_addNil (hk _ _ LR ⟨fun _ => ⟨b141, rfl, hb142⟩, fun hn => absurd hC hn⟩)
      ·refine st_pass rfl rfl rfl e13 (beq_off hG) rfl ?_
       exact st_addNil (hk _ _ LR ⟨fun h => absurd h.2 hG, fun _ => rfl⟩)
     ·obtain rfl := t13.2 hC
      refine st_passU rfl rfl rfl e13 rfl ?_
      exact st_addNil (hk _ _ LR ⟨fun h => absurd h.1 hC, fun _ => rfl⟩)
    ·intro ρ' τ pq rs hl hd hq hk
     obtain ⟨w13, e13, t13⟩ := hd 13 rfl
     obtain ⟨w17, e17, t17⟩ := hd 17 rfl
     by_cases hC : (decide (s129 < (s24.1.length : Int))) = true
     ·obtain rfl := t13.1 hC
      by_cases hG : (decide ((q131.getD 0 0) < q39.2.1)) = false
      ·replace hC := And.intro hC hG
       obtain ⟨b141, rfl, hb142⟩ := t17.1 hC
       replace hf140 := hf140 hC
       obtain ⟨vs143, hrep144, hat145⟩ := Ow.at (ho27.up (((hl61.trans hl65).trans hl129).trans hl)) hb142 hf140
       obtain rfl := hrep144
       refine o_loadOw (off := 0) (j := 2) (v := .I (q139.getD 0 0)) rfl (wants_of rfl e13 hG) rfl z_sc3 e17 hat145 rfl rfl ?_
       exact st_addNil (hk _ _ LR ⟨fun _ => rfl, fun hn => absurd hC hn⟩)
      ·refine st_pass rfl rfl rfl e13 (beq_off hG) rfl ?_
       exact st_addNil (hk _ _ LR ⟨fun h => absurd h.2 hG, fun _ => rfl⟩)
     ·obtain rfl := t13.2 hC
      refine st_passU rfl rfl rfl e13 rfl ?_
      exact st_addNil (hk _ _ LR ⟨fun h => absurd h.1 hC, fun _ => rfl⟩)
    ·intro ρ' τ pq rs hl hd hq hk
     obtain ⟨w13, e13, t13⟩ := hd 13 rfl
     by_cases hC : (decide (s129 < (s24.1.length : Int))) = true
     ·obtain rfl := t13.1 hC
      by_cases hG : (decide ((q131.getD 0 0) < q39.2.1)) = false
      ·replace hC := And.intro hC hG
       refine o_indexA rfl (wants_of rfl e13 hG) rfl z_arr83 (oT hq 6) rfl (by decide) (by decide) ?_
       exact st_addNil (hk _ _ LR ⟨fun _ => rfl, fun hn => absurd hC hn⟩)
      ·refine st_pass rfl rfl rfl e13 (beq_off hG) rfl ?_
       exact st_addNil (hk _ _ LR ⟨fun h => absurd h.2 hG, fun _ => rfl⟩)
     ·obtain rfl := t13.2 hC
      refine st_passU rfl rfl rfl e13 rfl ?_
      exact st_addNil (hk _ _ LR ⟨fun h => absurd h.1 hC, fun _ => rfl⟩)
    ·intro ρ' τ pq rs hl hd hq hk
     obtain ⟨w13, e13, t13⟩ := hd 13 rfl
     obtain ⟨w19, e19, t19⟩ := hd 19 rfl
     by_cases hC : (decide (s129 < (s24.1.length : Int))) = true
     ·obtain rfl := t13.1 hC
      by_cases hG : (decide ((q131.getD 0 0) < q39.2.1)) = false
      ·replace hC := And.intro hC hG
       obtain ⟨rfl⟩ := t19.1 hC
       refine o_load (j := 1) (v := .I q39.2.1) rfl (wants_of rfl e13 hG) rfl z_sc3 e19 rfl rfl ?_
       exact st_addNil (hk _ _ LR ⟨fun _ => rfl, fun hn => absurd hC hn⟩)
      ·refine st_pass rfl rfl rfl e13 (beq_off hG) rfl ?_
       exact st_addNil (hk _ _ LR ⟨fun h => absurd h.2 hG, fun _ => rfl⟩)
     ·obtain rfl := t13.2 hC
      refine st_passU rfl rfl rfl e13 rfl ?_
      exact st_addNil (hk _ _ LR ⟨fun h => absurd h.1 hC, fun _ => rfl⟩)
    ·intro ρ' τ pq rs hl hd hq hk
     obtain ⟨w22, e22, t22⟩ := hd 22 rfl
     obtain ⟨w23, e23, t23⟩ := hd 23 rfl
     obtain ⟨w24, e24, t24⟩ := hd 24 rfl
     by_cases hC : ((decide (s129 < (s24.1.length : Int))) = true) ∧ (decide ((q131.getD 0 0) < q39.2.1)) = false
     ·obtain rfl := t22.1 hC
      by_cases hG : (decide ((q139.getD 0 0) = q39.2.1)) = true
      ·replace hC := And.intro hC hG
       replace hf148 := hf148 hC
       obtain ⟨rfl⟩ := t23.1 hC
       obtain ⟨rfl⟩ := t24.1 hC
       refine o_indexOw rfl (wants_of rfl e22 hG) rfl z_slT39 rfl e23 (ho27.up (((hl61.trans hl65).trans hl129).trans hl)) e24 hf148 (fun b149 hb150 => ?_)
       exact st_addNil (hk _ _ LR ⟨fun _ => ⟨b149, rfl, hb150⟩, fun hn => absurd hC hn⟩)
      ·refine st_pass rfl rfl rfl e22 (beq_off hG) rfl ?_
       exact st_addNil (hk _ _ LR ⟨fun h => absurd h.2 hG, fun _ => rfl⟩)
     ·obtain rfl := t22.2 hC
      refine st_passU rfl rfl rfl e22 rfl ?_
      exact st_addNil (hk _ _ LR ⟨fun h => absurd h.1 hC, fun _ => rfl⟩)
    ·intro ρ' τ pq rs hl hd hq hk
     obtain ⟨w22, e22, t22⟩ := hd 22 rfl
     obtain ⟨w25, e25, t25⟩ := hd 25 rfl
     by_cases hC : ((decide (s129 < (s24.1.length : Int))) = true) ∧ (decide ((q131.getD 0 0) < q39.2.1)) = false
     ·obtain rfl := t22.1 hC
      by_cases hG : (decide ((q139.getD 0 0) = q39.2.1)) = true
      ·replace hC := And.intro hC hG
       obtain ⟨b149, rfl, hb150⟩ := t25.1 hC
       replace hf148 := hf148 hC
       refine o_indexA rfl (wants_of rfl e22 hG) rfl z_arr83 e25 rfl (by decide) (by decide) ?_
       exact st_addNil (hk _ _ LR ⟨fun _ => ⟨b149, rfl, hb150⟩, fun hn => absurd hC hn⟩)
      ·refine st_pass rfl rfl rfl e22 (beq_off hG) rfl ?_
       exact st_addNil (hk _ _ LR ⟨fun h => absurd h.2 hG, fun _ => rfl⟩)
     ·obtain rfl := t22.2 hC
      refine st_passU rfl rfl rfl e22 rfl ?_
      exact st_addNil (hk _ _ LR ⟨fun h => absurd h.1 hC, fun _ => rfl⟩)
    ·intro ρ' τ pq rs hl hd hq hk
     obtain ⟨w22, e22, t22⟩ := hd 22 rfl
     obtain ⟨w26, e26, t26⟩ := hd 26 rfl
     by_cases hC : ((decide (s129 < (s24.1.length : Int))) = true) ∧ (decide ((q131.getD 0 0) < q39.2.1)) = false
     ·obtain rfl := t22.1 hC
      by_cases hG : (decide ((q139.getD 0 0) = q39.2.1)) = true
      ·replace hC := And.intro hC hG
       obtain ⟨b149, rfl, hb150⟩ := t26.1 hC
       replace hf148 := hf148 hC
       obtain ⟨vs151, hrep152, hat153⟩ := Ow.at (ho27.up (((hl61.trans hl65).trans hl129).trans hl)) hb150 hf148
       obtain rfl := hrep152
       refine o_loadOw (off := 1) (j := 2) (v := .I (q147.getD 1 0)) rfl (wants_of rfl e22 hG) rfl z_sc3 e26 hat153 rfl rfl ?_
       exact st_addNil (hk _ _ LR ⟨fun _ => rfl, fun hn => absurd hC hn⟩)
      ·refine st_pass rfl rfl rfl e22 (beq_off hG) rfl ?_
       exact st_addNil (hk _ _ LR ⟨fun h => absurd h.2 hG, fun _ => rfl⟩)
     ·obtain rfl := t22.2 hC
      refine st_passU rfl rfl rfl e22 rfl ?_
      exact st_addNil (hk _ _ LR ⟨fun h => absurd h.1 hC, fun _ => rfl⟩)
    ·intro ρ' τ pq rs hl hd hq hk
     obtain ⟨w22, e22, t22⟩ := hd 22 rfl
     by_cases hC : ((decide (s129 < (s24.1.length : Int))) = true) ∧ (decide ((q131.getD 0 0) < q39.2.1)) = false
     ·obtain rfl := t22.1 hC
      by_cases hG : (decide ((q139.getD 0 0) = q39.2.1)) = true
      ·replace hC := And.intro hC hG
       refine o_indexA rfl (wants_of rfl e22 hG) rfl z_arr83 (oT hq 6) rfl (by decide) (by decide) ?_
       exact st_addNil (hk _ _ LR ⟨fun _ => rfl, fun hn => absurd hC hn⟩)
      ·refine st_pass rfl rfl rfl e22 (beq_off hG) rfl ?_
       exact st_addNil (hk _ _ LR ⟨fun h => absurd h.2 hG, fun _ => rfl⟩)
     ·obtain rfl := t22.2 hC
      refine st_passU rfl rfl rfl e22 rfl ?_
      exact st_addNil (hk _ _ LR ⟨fun h => absurd h.1 hC, fun _ => rfl⟩)
    ·intro ρ' τ pq rs hl hd hq hk
     obtain ⟨w22, e22, t22⟩ := hd 22 rfl
     obtain ⟨w28, e28, t28⟩ := hd 28 rfl
     by_cases hC : ((decide (s129 < (s24.1.length : Int))) = true) ∧ (decide ((q131.getD 0 0) < q39.2.1)) = false
     ·obtain rfl := t22.1 hC
      by_cases hG : (decide ((q139.getD 0 0) = q39.2.1)) = true
      ·replace hC := And.intro hC hG
       obtain ⟨rfl⟩ := t28.1 hC
       refine o_load (j := 1) (v := .I q55) rfl (wants_of rfl e22 hG) rfl z_sc3 e28 rfl rfl ?_
       exact st_addNil (hk _ _ LR ⟨fun _ => rfl, fun hn => absurd hC hn⟩)
      ·refine st_pass rfl rfl rfl e22 (beq_off hG) rfl ?_
       exact st_addNil (hk _ _ LR ⟨fun h => absurd h.2 hG, fun _ => rfl⟩)
     ·obtain rfl := t22.2 hC
      refine st_passU rfl rfl rfl e22 rfl ?_
      exact st_addNil (hk _ _ LR ⟨fun h => absurd h.1 hC, fun _ => rfl⟩)
    intro ρ' τ154 vals hl154 hv hq
    refine st_ord [0, 0, 0] _ rfl ?_
    refine st_env (ρ' := [(83, .bool ((decide (s129 < (s24.1.length : Int))) && ((decide ((q131.getD 0 0) < q39.2.1)) || ((decide ((q139.getD 0 0) = q39.2.1)) && (decide ((q147.getD 1 0) < q55)))))), (6, .Pb b60), (1, .Pb b5), (2, .N0), (3, v25), (4, .I s16.2), (5, .I s24.2), (7, .I s129)]) ⟨(lv1 hv 33 rfl rfl), oT hq 6, oT hq 1, oT hq 2, oT hq 3, oT hq 4, oT hq 5, oT hq 7, trivial⟩ ?_
    refine st_end ?_
    refine I2 h (fun h => ?_) (fun h => ?_)
    ·refine Z 8 ?_
     exact hn129 _ _ _ _ h ⟨(hl129.trans hl154), rfl, rfl⟩
    ·refine st_exit rfl ?_
     obtain rfl := he129 _ h
     replace h := hA129
     exact hk68 _ _ _ ⟨s129, h, (hl129.trans hl154), rfl, rfl⟩
  ·refine Z 2 ?_
   obtain rfl := he24 _ h
   replace h := hA24
   exact hk20 _ _ _ ⟨s24.1, _, _, h, hl24, rfl, rfl, ho27⟩
 ·refine st_exit rfl ?_
  obtain rfl := he16 _ h
  replace h := hA16
  refine st_ord [1] _ rfl ?_
  exact hk6 _ _ _ ⟨s16.1, _, _, h, hl16, rfl, rfl, ho19⟩
theorem fleet_Fleet_Contested_ok {a0 : List (Int × (Int × Int × Int × Int × Int × Bool × Bool × Int × Int × List (Int × Int) × Int × Int)) × List ((Int × Int) × List Int)} {ba0 : Nat} {v1 : Value} {g2 : Grp} {v3 : Value} {g4 : Grp} {r : (List (Int × Int))} (h : fleet_Fleet_Contested a0 r) (σ : Sto) (ho5 : Mp (Value.int .i64) (rK (kP (kI .i64) (kP (kI .i64) (kP (kI .i64) (kP (kI .i64) (kP (kI .i64) (kP kB (kP kB (kP (kI .i64) (kP (kI .i64) (kP (kSl (kP (kI .i64) (kI .i64))) (kP (kI .i64) (kI .i64))))))))))))) σ v1 a0.1 g2) (ho6 : Mp kPr (rSl (kI .i64)) σ v3 a0.2 g4) :
    Does prog 26 [.Pb ba0] σ [[(ba0, .cells [v1, v3].toArray 76 (0, 0))], g2, g4] (fun v τ gs => ∃ (v92 : Value), gs = [[(ba0, .cells [v1, v3].toArray 76 (0, 0))], g2, g4] ∧ v92 = v ∧ Sl (kP (kI .i64) (kI .i64)) τ v92 r) := by
 refine CO func26 ntmps26 rfl (fun cs fs => Z 14 ?_)
 refine o_makeMap (fk := kPr) (rv := (rF (Value.int .i64))) rfl rfl rfl (fun v7 g8 ho9 => Z 3 ?_)
 refine st_cut (fun ρ τ10 gs => ∃ (s10 : (List ((Int × Int) × Int))) (v11 : Value) (g12 : Grp), fleet_Fleet_Contested_j1 s10 r ∧ σ.Le τ10 ∧ ESub ρ [(2, .N0), (3, v11)] ∧ gs = [[(ba0, .cells #[v1, v3] 76 (0, 0))], g2, g4, g12] ∧ Mp kPr (rF (Value.int .i64)) τ10 v11 s10 g12) ?_ (fun hk10 => ?_)
 ·rintro ρ10 τ10 gs10 ⟨s10, v11, g12, h, hl10, hρ, rfl, ho13⟩
  refine st_es hρ (Z 5 ?_)
  refine st_cut (fun ρ τ14 gs => ∃ (s14 : K40) (v15 : Value) (g16 : Grp), fleet_Fleet_Contested_j2 s14 r ∧ τ10.Le τ14 ∧ ESub ρ [(2, .N0), (8, v15)] ∧ gs = [[(ba0, .cells #[v1, v3] 76 (0, 0))], g2, g4, g16] ∧ Ow (kP (kI .i64) (kI .i64)) 62 τ14 v15 s14 g16) ?_ (fun hk14 => ?_)
  ·rintro ρ14 τ14 gs14 ⟨s14, v15, g16, h, hl14, hρ, rfl, ho17⟩
   refine st_es hρ (Z 3 ?_)
   obtain ⟨hf20, h⟩ := h
   refine st_ord [3, 0, 0, 0] _ rfl ?_
   refine st_call (foot := [g16]) rfl rfl rfl rfl rfl rfl (callV_fn z_en48 (sortF_does ⟨Tryz.sortf48, Tryz.sortn48⟩ ho17 hf20)) ?_
   rintro _ τ18 _ hl19 ⟨g21, rfl, rfl, ho22⟩
   refine Z 6 ?_
   refine st_freeze (fun τ23 hl24 hg25 => ?_)
   have hs26 := ho22.freeze hl24 hg25
   obtain rfl := Eq.symm h
   exact st_ret (gs' := [[(ba0, .cells #[v1, v3] 76 (0, 0))], g2, g4]) func26 rfl (List.Sublist.refl _) (((hl10.trans hl14).trans hl19).trans hl24) ⟨_, rfl, rfl, hs26⟩
  refine Z 3 ?_
  refine o_range (jm := 3) rfl rfl rfl z_map104 rfl ho13 rfl (fun v30 g31 hm32 => ?_)
  refine st_end ?_
  have hL33 := h
  refine st_addNil ?_
  refine st_ord [2, 4, 2, 2, 0, 0] _ rfl ?_
  refine st_loopD hL33 (fun (s33 : K44) ρ τ33 gs => τ10.Le τ33 ∧ ∃ (v34 : Value) (g35 g37 : Grp), ESub ρ [(2, .N0), (8, v34), (41, v30)] ∧ gs = [[(ba0, .cells #[v1, v3] 76 (0, 0))], g12, g2, g4, g35, g37] ∧ Ow (kP (kI .i64) (kI .i64)) 62 τ33 v34 s33.1 g35 ∧ MIt kPr (rF (Value.int .i64)) τ33 v30 v11 s33.2 g37 g12) ⟨LR, _, _, _, rfl, rfl, Ow.nil, hm32⟩ ?_
  rintro s33 hD33 ρ33 τ33 gs33 ⟨hl33, v34, g35, g37, hρ, rfl, ho36, hm38⟩
  refine st_es hρ (Z 2 ?_)
  refine o_next (j := 5) (jm := 1) rfl rfl rfl kPr_inj rfl hm38 rfl rfl (fun hc => ?_) (fun p39 g40 v41 hp42 hv43 hm44 he45 => ?_)
  ·obtain ⟨o33, h, he33, hn33⟩ := hD33 none hc
   replace h := h.1 rfl
   refine Z 5 ?_
   replace h := he33 _ h
   refine st_ord [0, 1, 1, 1] _ rfl ?_
   exact hk14 _ _ _ ⟨s33.1, _, _, h, hl33, rfl, rfl, ho36⟩
  ·obtain ⟨o33, h, he33, hn33⟩ := hD33 (some p39) hp42
   replace h := h.2 _ rfl
   obtain rfl : v41 = .I p39.2 := hv43
   refine Z 8 ?_
   refine o_entry (j := 5) (jm := 1) (p := p39) rfl rfl rfl rfl he45 rfl rfl (fun v46 hv47 => ?_)
   obtain rfl : v46 = .I p39.2 := hv47
   refine Z 2 ?_
   refine o_alloc rfl rfl rfl z_zero62 (fun b48 => ZZ 8 [0] ?_)
   refine I2 h (fun h => ?_) (fun h => ?_)
   ·refine ZZ 3 [0] ?_
    refine o_litE (eP (eI .i64) (eI .i64)) [p39.1] rfl rfl rfl z_slT68 z_zero62 ⟨rfl, ⟨_, rfl, rfl⟩, trivial⟩ rfl rfl rfl rfl (fun v49 g50 ho51 => ?_)
    obtain ⟨hf55, hf56, h⟩ := h
    refine st_ord [6, 0, 0, 0, 0, 0, 0, 0] _ rfl ?_
    refine o_append (dk := (kP (kI .i64) (kI .i64))) (xs := s33.1) (ys := [p39.1]) rfl rfl rfl rfl z_slT68 rfl ho36 rfl (Ow.src (j := 1) ho51 rfl) hf55 hf56 (fun v52 g53 ho54 => Z 3 ?_)
    refine st_ord [3, 3, 3, 3, 0, 2] _ rfl ?_
    exact hn33 _ _ _ _ h ⟨hl33, _, _, _, rfl, rfl, ho54, hm44⟩
   ·refine Z 2 ?_
    refine st_ord [1, 1, 1, 1, 1, 1] _ rfl ?_
    exact hn33 _ _ _ _ h ⟨hl33, _, _, _, rfl, rfl, ho36, hm44⟩
 refine ZZ 6 [1] ?_
 refine o_range (jm := 3) rfl rfl rfl z_map74 rfl ho6 rfl (fun v58 g59 hm60 => ?_)
 refine st_end ?_
 have hL61 := h
 refine st_ord [2, 3, 2, 1, 0] _ rfl ?_
 refine st_loopD hL61 (fun (s61 : K28) ρ τ61 gs => σ.Le τ61 ∧ ∃ (v62 : Value) (g63 g65 : Grp), ESub ρ [(2, .N0), (3, v62), (18, v58)] ∧ gs = [[(ba0, .cells #[v1, v3] 76 (0, 0))], g4, g2, g63, g65] ∧ Mp kPr (rF (Value.int .i64)) τ61 v62 s61.1 g63 ∧ MIt kPr (rSl (kI .i64)) τ61 v58 v3 s61.2 g65 g4) ⟨LR, _, _, _, rfl, rfl, ho9, hm60⟩ ?_
 rintro s61 hD61 ρ61 τ61 gs61 ⟨hl61, v62, g63, g65, hρ, rfl, ho64, hm66⟩
 refine st_es hρ (Z 2 ?_)
 refine o_next (j := 4) (jm := 1) rfl rfl rfl kPr_inj rfl hm66 rfl rfl (fun hc => ?_) (fun p67 g68 v69 hp70 hv71 hm72 he73 => ?_)
 ·obtain ⟨o61, h, he61, hn61⟩ := hD61 none hc
  replace h := h.1 rfl
  refine Z 5 ?_
  replace h := he61 _ h
  refine st_ord [0, 1, 0, 0] _ rfl ?_
  exact hk10 _ _ _ ⟨s61.1, _, _, h, hl61, rfl, rfl, ho64⟩
 ·obtain ⟨o61, h, he61, hn61⟩ := hD61 (some p67) hp70
  replace h := h.2 _ rfl
  refine Z 8 ?_
  refine o_entry (j := 4) (jm := 1) (p := p67) rfl rfl rfl rfl he73 rfl rfl (fun v74 hv75 => Z 2 ?_)
  refine o_alloc rfl rfl rfl z_zero89 (fun b76 => ZZ 6 [0] ?_)
  refine o_lenI rfl rfl rfl z_slT31 rfl hv75 (Z 2 ?_)
  obtain ⟨e77, hL77, hA77⟩ := h
  refine st_ord [1, 0, 3, 0, 0, 0] _ rfl ?_
  refine st_loop hL77 (fun (s77 : (List ((Int × Int) × Int)) × Int) ρ τ77 gs => τ61.Le τ77 ∧ ∃ (v78 : Value) (g79 : Grp), ESub ρ [(2, .N0), (3, v78), (18, v58), (4, .Pb b76), (24, v74), (25, .I (p67.2.length : Int)), (26, .I s77.2)] ∧ gs = [[(ba0, .cells #[v1, v3] 76 (0, 0))], [(b76, .cells #[.I p67.1.1, .I p67.1.2] 89 (0, 0))], g68, g4, g2, g79] ∧ Mp kPr (rF (Value.int .i64)) τ77 v78 s77.1 g79) ⟨LR, _, _, rfl, rfl, ho64⟩ ?_
  rintro s77 o77 h he77 ρ77 τ77 gs77 ⟨hl77, v78, g79, hρ, rfl, ho80⟩ hn77
  refine st_es hρ (Z 5 ?_)
  refine I2 h (fun h => ?_) (fun h => ?_)
  ·refine Z 5 ?_
   obtain ⟨q81, hf82, h⟩ := h
   refine o_index rfl rfl rfl z_slT31 rfl rfl (hv75.up hl77) rfl hf82 (fun b83 of84 vs hc85 hrep => ?_)
   obtain rfl := hrep
   refine o_loadI (v := .I q81) rfl rfl rfl z_sc3 rfl (hc85 0 _ rfl) (Z 2 ?_)
   refine st_incr (gs := [[(ba0, .cells #[v1, v3] 76 (0, 0))], [(b76, .cells #[.I p67.1.1, .I p67.1.2] 89 (0, 0))], g68, g4, g2]) (j := 1) (y := p67.1.2) (q := q81) (tm := 104) (tl := 89) (ti := 3) (tk := 62) z_mix rfl z_map104 z_keyP62 z_zeroV3 z_field89_1 z_sc3 z_struct62 rfl rfl rfl rfl rfl ho80 (fun ρ' τ88 g86 hl89 ho87 hq => ?_)
   refine st_env (ρ' := [(2, .N0), (3, v78), (18, v58), (4, .Pb b76), (24, v74), (25, .I (p67.2.length : Int)), (26, .I s77.2)]) ⟨oT hq 2, oT hq 3, oT hq 18, oT hq 4, oT hq 24, oT hq 25, oT hq 26, trivial⟩ (Z 5 ?_)
   exact hn77 _ _ _ _ h ⟨(hl77.trans hl89), _, _, rfl, rfl, ho87⟩
  ·refine Z 2 ?_
   obtain rfl := he77 _ h
   replace h := hA77
   refine st_ord [0, 2, 2, 2, 1] _ rfl ?_
   exact hn61 _ _ _ _ h ⟨(hl61.trans hl77), _, _, _, rfl, rfl, ho80, (hm72.up hl77)⟩
theorem strconv_Itoa_ok {a0 : Int} {r : ByteArray} (h : strconv_Itoa a0 r) (σ : Sto) (hT : Tab prog σ) :
    Does prog 93 [.I a0] σ [] (fun v τ gs => gs = [] ∧ .string r = v) := by
 obtain ⟨hk, rfl⟩ := h
 rw [itoa_lib]
 exact does_grow fun w hw => Tryz.strconv_Itoa a0 (i64_lo hk) (i64_hi hk) w (hT w hw)
theorem say_Number_ok {a0 : Int} {r : ByteArray} (h : say_Number a0 r) (σ : Sto) (hT : Tab prog σ) :
    Does prog 73 [.I a0] σ [] (fun v τ gs => gs = [] ∧ .string r = v) := by
 refine CO func73 ntmps73 rfl (fun cs fs => Z 2 ?_)
 refine o_assign rfl rfl rfl (ev_str z_str19) (Z 4 ?_)
 obtain ⟨r1, hr2, h⟩ := h
 refine SC z_en93 (strconv_Itoa_ok hr2 σ hT) ?_
 rintro _ τ3 _ hl4 ⟨rfl, rfl⟩
 refine Z 2 ?_
 obtain rfl := h.symm
 exact RT func73 rfl hl4 ⟨rfl, rfl⟩
theorem fleet_line_ok {a0 : ByteArray} {a1 : List Int} {v1 : Value} {r : ByteArray} (h : fleet_line a0 a1 r) (σ : Sto) (hs2 : Sl (kI .i64) σ v1 a1) (hT : Tab prog σ) :
    Does prog 50 [.string a0, v1] σ [] (fun v τ gs => gs = [] ∧ .string r = v) := by
 refine CO func50 ntmps50 rfl (fun cs fs => Z 2 ?_)
 refine o_assign rfl rfl rfl (ev_str z_str19) (Z 2 ?_)
 refine cutS σ (fun (s3 : ByteArray) => fleet_line_j1 s3 r) (fun s3 => [(0, .string s3), (4, .E0)]) (fun s3 => []) (fun s3 τ3 h hl3 => (Z 5 ?_)) (fun hk3 => ?_)
 ·obtain rfl := h.symm
  exact RT func50 rfl hl3 ⟨rfl, rfl⟩
 refine Z 3 ?_
 refine o_lenI rfl rfl rfl z_slT31 rfl hs2 (Z 2 ?_)
 obtain ⟨e4, hL4, hA4⟩ := h
 refine st_loop hL4 (fun (s4 : ByteArray × Int) ρ τ4 gs => σ.Le τ4 ∧ ESub ρ [(0, .string s4.1), (4, .E0), (7, v1), (8, .I (a1.length : Int)), (9, .I s4.2)] ∧ gs = []) ⟨LR, rfl, rfl⟩ ?_
 rintro s4 o4 h he4 ρ4 τ4 gs4 ⟨hl4, hρ, rfl⟩ hn4
 refine st_es hρ (Z 5 ?_)
 refine I2 h (fun h => ?_) (fun h => ?_)
 ·refine Z 5 ?_
  obtain ⟨q5, hf6, h⟩ := h
  refine o_index rfl rfl rfl z_slT31 rfl rfl (hs2.up hl4) rfl hf6 (fun b7 of8 vs hc9 hrep => ?_)
  obtain rfl := hrep
  refine o_loadI (v := .I q5) rfl rfl rfl z_sc3 rfl (hc9 0 _ rfl) (Z 5 ?_)
  obtain ⟨r10, hr11, h⟩ := h
  refine SC z_en73 (say_Number_ok hr11 τ4 (hT.up hl4)) ?_
  rintro _ τ12 _ hl13 ⟨rfl, rfl⟩
  obtain ⟨hf14, h⟩ := h
  refine o_sadd rfl rfl rfl (ev_str z_str20) rfl hf14 ?_
  obtain ⟨hf15, h⟩ := h
  refine o_sadd rfl rfl rfl rfl rfl hf15 (Z 7 ?_)
  exact hn4 _ _ _ _ h ⟨(hl4.trans hl13), rfl, rfl⟩
 ·refine st_exit rfl ?_
  obtain rfl := he4 _ h
  replace h := hA4
  exact hk3 _ _ _ ⟨s4.1, h, hl4, rfl, rfl⟩
theorem fleet_Fleet_zones_ok {a0 : List (Int × (Int × Int × Int × Int × Int × Bool × Bool × Int × Int × List (Int × Int) × Int × Int)) × List ((Int × Int) × List Int)} {a1 : Int} {ba0 : Nat} {v1 : Value} {g2 : Grp} {v3 : Value} {g4 : Grp} {r : List Int} (h : fleet_Fleet_zones a0 a1 r) (σ : Sto) (ho5 : Mp (Value.int .i64) (rK (kP (kI .i64) (kP (kI .i64) (kP (kI .i64) (kP (kI .i64) (kP (kI .i64) (kP kB (kP kB (kP (kI .i64) (kP (kI .i64) (kP (kSl (kP (kI .i64) (kI .i64))) (kP (kI .i64) (kI .i64))))))))))))) σ v1 a0.1 g2) (ho6 : Mp kPr (rSl (kI .i64)) σ v3 a0.2 g4) :
    Does prog 51 [.Pb ba0, .I a1] σ [[(ba0, .cells [v1, v3].toArray 76 (0, 0))], g2, g4] (fun v τ gs => ∃ (v51 : Value), gs = [[(ba0, .cells [v1, v3].toArray 76 (0, 0))], g2, g4] ∧ v51 = v ∧ Sl (kI .i64) τ v51 r) := by
 refine CO func51 ntmps51 rfl (fun cs fs => Z 9 ?_)
 refine st_cut (fun ρ τ7 gs => ∃ (s7 : List Int) (v8 : Value) (g9 : Grp), fleet_Fleet_zones_j1 s7 r ∧ σ.Le τ7 ∧ ESub ρ [(4, .N0), (5, v8)] ∧ gs = [[(ba0, .cells #[v1, v3] 76 (0, 0))], g2, g4, g9] ∧ Ow (kI .i64) 3 τ7 v8 s7 g9) ?_ (fun hk7 => ?_)
 ·rintro ρ7 τ7 gs7 ⟨s7, v8, g9, h, hl7, hρ, rfl, ho10⟩
  refine st_es hρ (Z 3 ?_)
  obtain ⟨hf13, h⟩ := h
  refine st_ord [3, 0, 0, 0] _ rfl ?_
  refine st_call (foot := [g9]) rfl rfl rfl rfl rfl rfl (callV_fn z_en67 (sortI_does Tryz.sort67 ho10 hf13)) ?_
  rintro _ τ11 _ hl12 ⟨g14, rfl, rfl, ho15⟩
  refine Z 6 ?_
  refine st_freeze (fun τ16 hl17 hg18 => ?_)
  have hs19 := ho15.freeze hl17 hg18
  obtain rfl := Eq.symm h
  exact st_ret (gs' := [[(ba0, .cells #[v1, v3] 76 (0, 0))], g2, g4]) func51 rfl (List.Sublist.refl _) ((hl7.trans hl12).trans hl17) ⟨_, rfl, rfl, hs19⟩
 refine ZZ 6 [0] ?_
 refine o_range (jm := 2) rfl rfl rfl z_map74 rfl ho6 rfl (fun v23 g24 hm25 => ?_)
 refine st_end ?_
 have hL26 := h
 refine st_addNil ?_
 refine st_ord [2, 3, 2, 0, 0] _ rfl ?_
 refine st_loopD hL26 (fun (s26 : K46) ρ τ26 gs => σ.Le τ26 ∧ ∃ (v27 : Value) (g28 g30 : Grp), ESub ρ [(1, .I a1), (4, .N0), (5, v27), (11, v23)] ∧ gs = [[(ba0, .cells #[v1, v3] 76 (0, 0))], g4, g2, g28, g30] ∧ Ow (kI .i64) 3 τ26 v27 s26.1 g28 ∧ MIt kPr (rSl (kI .i64)) τ26 v23 v3 s26.2 g30 g4) ⟨LR, _, _, _, rfl, rfl, Ow.nil, hm25⟩ ?_
 rintro s26 hD26 ρ26 τ26 gs26 ⟨hl26, v27, g28, g30, hρ, rfl, ho29, hm31⟩
 refine st_es hρ (Z 2 ?_)
 refine o_next (j := 4) (jm := 1) rfl rfl rfl kPr_inj rfl hm31 rfl rfl (fun hc => ?_) (fun p32 g33 v34 hp35 hv36 hm37 he38 => ?_)
 ·obtain ⟨o26, h, he26, hn26⟩ := hD26 none hc
  replace h := h.1 rfl
  refine Z 5 ?_
  replace h := he26 _ h
  refine st_ord [0, 1, 0, 0] _ rfl ?_
  exact hk7 _ _ _ ⟨s26.1, _, _, h, hl26, rfl, rfl, ho29⟩
 ·obtain ⟨o26, h, he26, hn26⟩ := hD26 (some p32) hp35
  replace h := h.2 _ rfl
  refine Z 8 ?_
  refine o_entry (j := 4) (jm := 1) (p := p32) rfl rfl rfl rfl he38 rfl rfl (fun v39 hv40 => ?_)
  refine o_extract rfl rfl rfl rfl rfl ?_
  refine o_alloc rfl rfl rfl z_zero89 (fun b41 => ZZ 9 [0, 0] ?_)
  refine I2 h (fun h => ?_) (fun h => ?_)
  ·refine ZZ 4 [0] ?_
   refine o_litE (eI .i64) [p32.1.2] rfl rfl rfl z_slT31 z_zero3 ⟨rfl, ⟨_, rfl, rfl⟩, trivial⟩ rfl rfl rfl rfl (fun v42 g43 ho44 => ?_)
   obtain ⟨hf48, hf49, h⟩ := h
   refine st_ord [5, 0, 0, 0, 0, 0, 0] _ rfl ?_
   refine o_append (dk := (kI .i64)) (xs := s26.1) (ys := [p32.1.2]) rfl rfl rfl rfl z_slT31 rfl ho29 rfl (Ow.src (j := 1) ho44 rfl) hf48 hf49 (fun v45 g46 ho47 => Z 3 ?_)
   refine st_ord [3, 3, 3, 0, 2] _ rfl ?_
   exact hn26 _ _ _ _ h ⟨hl26, _, _, _, rfl, rfl, ho47, hm37⟩
  ·refine Z 2 ?_
   refine st_ord [1, 1, 1, 1, 1] _ rfl ?_
   exact hn26 _ _ _ _ h ⟨hl26, _, _, _, rfl, rfl, ho29, hm37⟩
theorem fleet_Fleet_Cells_ok {a0 : List (Int × (Int × Int × Int × Int × Int × Bool × Bool × Int × Int × List (Int × Int) × Int × Int)) × List ((Int × Int) × List Int)} {a1 a2 : Int} {ba0 : Nat} {v1 : Value} {g2 : Grp} {v3 : Value} {g4 : Grp} {r : List Int} (h : fleet_Fleet_Cells a0 a1 a2 r) (σ : Sto) (ho5 : Mp (Value.int .i64) (rK (kP (kI .i64) (kP (kI .i64) (kP (kI .i64) (kP (kI .i64) (kP (kI .i64) (kP kB (kP kB (kP (kI .i64) (kP (kI .i64) (kP (kSl (kP (kI .i64) (kI .i64))) (kP (kI .i64) (kI .i64))))))))))))) σ v1 a0.1 g2) (ho6 : Mp kPr (rSl (kI .i64)) σ v3 a0.2 g4) :
    Does prog 20 [.Pb ba0, .I a1, .I a2] σ [[(ba0, .cells [v1, v3].toArray 76 (0, 0))], g2, g4] (fun v τ gs => ∃ (v15 : Value), gs = [[(ba0, .cells [v1, v3].toArray 76 (0, 0))], g2, g4] ∧ v15 = v ∧ Sl (kI .i64) τ v15 r) := by
 refine CO func20 ntmps20 rfl (fun cs fs => ZZ 21 [0] ?_)
 refine o_lookR (rv := (rSl (kI .i64))) (q0 := []) (j := 2) (a := (a1, a2)) rfl rfl rfl z_map74 z_keyP89 z_zeroV31 Sl.nil rfl ho6 rfl rfl (fun v7 hv8 => ?_)
 obtain ⟨r9, hr10, h⟩ := h
 refine SC z_en42 (slices_Clone_int_int_ok hr10 σ hv8) ?_
 rintro _ τ11 _ hl12 ⟨v13, rfl, rfl, hs14⟩
 refine Z 2 ?_
 obtain rfl := Eq.symm h
 exact st_ret (gs' := [[(ba0, .cells #[v1, v3] 76 (0, 0))], g2, g4]) func20 rfl (List.Sublist.refl _) hl12 ⟨_, rfl, rfl, hs14⟩
theorem fleet_Fleet_Lines_ok {a0 : List (Int × (Int × Int × Int × Int × Int × Bool × Bool × Int × Int × List (Int × Int) × Int × Int)) × List ((Int × Int) × List Int)} {ba0 : Nat} {v1 : Value} {g2 : Grp} {v3 : Value} {g4 : Grp} {r : List ByteArray} (h : fleet_Fleet_Lines a0 r) (σ : Sto) (ho5 : Mp (Value.int .i64) (rK (kP (kI .i64) (kP (kI .i64) (kP (kI .i64) (kP (kI .i64) (kP (kI .i64) (kP kB (kP kB (kP (kI .i64) (kP (kI .i64) (kP (kSl (kP (kI .i64) (kI .i64))) (kP (kI .i64) (kI .i64))))))))))))) σ v1 a0.1 g2) (ho6 : Mp kPr (rSl (kI .i64)) σ v3 a0.2 g4) (hT : Tab prog σ) :
    Does prog 27 [.Pb ba0] σ [[(ba0, .cells [v1, v3].toArray 76 (0, 0))], g2, g4] (fun v τ gs => ∃ (v237 : Value), gs = [[(ba0, .cells [v1, v3].toArray 76 (0, 0))], g2, g4] ∧ v237 = v ∧ Sl kS τ v237 r) := by
 refine CO func27 ntmps27 rfl (fun cs fs => Z 2 ?_)
 refine o_boxC rfl rfl rfl rfl rfl rfl (fun b7 => Z 4 ?_)
 refine o_alloc rfl rfl rfl z_zero70 (fun b8 => ZZ 5 [1] ?_)
 obtain ⟨r9, hr10, h⟩ := h
 refine st_ord [2, 2, 2, 0, 0] _ rfl ?_
 refine st_call (foot := [[(ba0, .cells #[v1, v3] 76 (0, 0))], g2, g4]) rfl rfl rfl rfl rfl rfl (callV_fn z_en25 (fleet_Fleet_Robots_ok hr10 σ ho5 ho6)) ?_
 rintro _ τ11 _ hl12 ⟨f13, q14, rfl, rfl, hit15⟩
 refine Z 2 ?_
 obtain ⟨t24, w24, hR24, hA24⟩ := h
 refine st_env (ρ' := [(1, .Pb b7), (2, .N0), (3, .Pb b8), (12, .func (.func f13) #[] q14)]) ⟨rfl, rfl, rfl, rfl, trivial⟩ ?_
 refine st_addNil ?_
 refine st_ord [1, 4, 3, 1, 1, 0] _ rfl ?_
 refine st_rangeS (r0 := List.flatten [[(b7, .cells #[.Pb ba0] 23 (0, 0))], [(b8, .cells #[.N0] 70 (0, 0))], []]) (B := fleet_Fleet_Lines_l1 a0) (s0 := []) ranges_fctx rfl (hit15 a0 _ _ _ _ τ11 LR (ho5.up hl12) (ho6.up hl12)) LR hR24 ((ordG_perm [0, 2, 2, 0, 0, 0] [[(ba0, .cells #[v1, v3] 76 (0, 0))], g2, g4, [(b7, .cells #[.Pb ba0] 23 (0, 0))], [(b8, .cells #[.N0] 70 (0, 0))], []] rfl rfl).trans (by simp)) rfl (fun _ _ _ h => by cases h; rfl) (fun (s24 : K20) τ24 gs => τ11.Le τ24 ∧ ∃ (v25 : Value) (g26 : Grp), gs = [[(ba0, .cells #[v1, v3] 76 (0, 0))], [(b7, .cells #[.Pb ba0] 23 (0, 0))], [(b8, .cells #[v25] 70 (0, 0))], g2, g4, g26] ∧ Ow kS 9 τ24 v25 s24 g26) (fun _ _ _ _ => False) (fun _ _ _ _ hl ⟨hb, v25, g26, hg, ho27⟩ => ⟨hb.trans hl, v25, g26, hg, ho27.up hl⟩) (fun _ _ _ _ _ _ h => h.elim) ⟨LR, _, _, rfl, Ow.nil⟩ ?_ ?_ ?_
 ·rintro x24 s24 o24 τ24 gs24 vx24 hl24 h rfl ⟨hb24, v25, g26, rfl, ho27⟩ l24 rc24 caller24 cs24 fs24
  refine Z 3 ?_
  refine st_begin (ZZ 8 [1, 0] ?_)
  refine o_lookR (rv := (rK (kP (kI .i64) (kP (kI .i64) (kP (kI .i64) (kP (kI .i64) (kP (kI .i64) (kP kB (kP kB (kP (kI .i64) (kP (kI .i64) (kP (kSl (kP (kI .i64) (kI .i64))) (kP (kI .i64) (kI .i64)))))))))))))) (q0 := (0, 0, 0, 0, 0, false, false, 0, 0, [], 0, 0)) (j := 3) (a := x24) rfl rfl rfl z_map73 (keyI underlying3) z_zeroV49 ⟨[.I 0, .I 0, .I 0, .I 0, .I 0, .bool false, .bool false, .I 0, .I 0, .N0, .I 0, .I 0], ⟨[.I 0], _, rfl, rfl, ⟨[.I 0], _, rfl, rfl, ⟨[.I 0], _, rfl, rfl, ⟨[.I 0], _, rfl, rfl, ⟨[.I 0], _, rfl, rfl, ⟨[.bool false], _, rfl, rfl, ⟨[.bool false], _, rfl, rfl, ⟨[.I 0], _, rfl, rfl, ⟨[.I 0], _, rfl, rfl, ⟨[.N0], _, rfl, ⟨_, rfl, Sl.nil⟩, ⟨[.I 0], _, rfl, rfl, rfl⟩⟩⟩⟩⟩⟩⟩⟩⟩⟩⟩, rfl⟩ rfl (ho5.up (hl12.trans hl24)) rfl rfl (fun v28 hv29 => ?_)
  obtain ⟨_, ⟨_, _, rfl, rfl, ⟨_, _, rfl, rfl, ⟨_, _, rfl, rfl, ⟨_, _, rfl, rfl, ⟨_, _, rfl, rfl, ⟨_, _, rfl, rfl, ⟨_, _, rfl, rfl, ⟨_, _, rfl, rfl, ⟨_, _, rfl, rfl, ⟨_, _, rfl, ⟨v30, rfl, hs31⟩, ⟨_, _, rfl, rfl, rfl⟩⟩⟩⟩⟩⟩⟩⟩⟩⟩⟩, rfl⟩ := hv29
  refine o_alloc rfl rfl rfl z_zero49 (fun b32 => ?_)
  refine o_store (j := 0) (vs := [.I (((mget a0.1 x24).getD (0, 0, 0, 0, 0, false, false, 0, 0, [], 0, 0)).1), .I (((mget a0.1 x24).getD (0, 0, 0, 0, 0, false, false, 0, 0, [], 0, 0)).2.1), .I (((mget a0.1 x24).getD (0, 0, 0, 0, 0, false, false, 0, 0, [], 0, 0)).2.2.1), .I (((mget a0.1 x24).getD (0, 0, 0, 0, 0, false, false, 0, 0, [], 0, 0)).2.2.2.1), .I (((mget a0.1 x24).getD (0, 0, 0, 0, 0, false, false, 0, 0, [], 0, 0)).t4.1), .bool (((mget a0.1 x24).getD (0, 0, 0, 0, 0, false, false, 0, 0, [], 0, 0)).t4.2.1), .bool (((mget a0.1 x24).getD (0, 0, 0, 0, 0, false, false, 0, 0, [], 0, 0)).t4.2.2.1), .I (((mget a0.1 x24).getD (0, 0, 0, 0, 0, false, false, 0, 0, [], 0, 0)).t4.2.2.2.1), .I (((mget a0.1 x24).getD (0, 0, 0, 0, 0, false, false, 0, 0, [], 0, 0)).t4.t4.1), v30, .I (((mget a0.1 x24).getD (0, 0, 0, 0, 0, false, false, 0, 0, [], 0, 0)).t4.t4.2.2.1), .I (((mget a0.1 x24).getD (0, 0, 0, 0, 0, false, false, 0, 0, [], 0, 0)).t4.t4.2.2.2)]) (cs' := [.I (((mget a0.1 x24).getD (0, 0, 0, 0, 0, false, false, 0, 0, [], 0, 0)).1), .I (((mget a0.1 x24).getD (0, 0, 0, 0, 0, false, false, 0, 0, [], 0, 0)).2.1), .I (((mget a0.1 x24).getD (0, 0, 0, 0, 0, false, false, 0, 0, [], 0, 0)).2.2.1), .I (((mget a0.1 x24).getD (0, 0, 0, 0, 0, false, false, 0, 0, [], 0, 0)).2.2.2.1), .I (((mget a0.1 x24).getD (0, 0, 0, 0, 0, false, false, 0, 0, [], 0, 0)).t4.1), .bool (((mget a0.1 x24).getD (0, 0, 0, 0, 0, false, false, 0, 0, [], 0, 0)).t4.2.1), .bool (((mget a0.1 x24).getD (0, 0, 0, 0, 0, false, false, 0, 0, [], 0, 0)).t4.2.2.1), .I (((mget a0.1 x24).getD (0, 0, 0, 0, 0, false, false, 0, 0, [], 0, 0)).t4.2.2.2.1), .I (((mget a0.1 x24).getD (0, 0, 0, 0, 0, false, false, 0, 0, [], 0, 0)).t4.t4.1), v30, .I (((mget a0.1 x24).getD (0, 0, 0, 0, 0, false, false, 0, 0, [], 0, 0)).t4.t4.2.2.1), .I (((mget a0.1 x24).getD (0, 0, 0, 0, 0, false, false, 0, 0, [], 0, 0)).t4.t4.2.2.2)]) rfl rfl rfl z_size49 rfl rfl rfl (o4 (o4 (ones_cons rfl (ones_cons hs31.one' (ones_cons rfl (ones_cons rfl ones_nil)))))) rfl rfl rfl (Z 4 ?_)
  refine o_litE (eI .i64) [x24] rfl rfl rfl z_slT31 z_zero3 ⟨rfl, ⟨_, rfl, rfl⟩, trivial⟩ rfl rfl rfl rfl (fun v33 g34 ho35 => ?_)
  obtain ⟨r40, hr41, h⟩ := h
  refine st_freeze (fun τ36 hl37 hg38 => ?_)
  have hs39 := ho35.freeze hl37 hg38
  refine st_call (foot := []) rfl rfl rfl rfl (evs_cons (ev_str z_str0) (evs_cons rfl rfl)) rfl (callV_fn z_en50 (fleet_line_ok hr41 τ36 hs39 (hT.up ((hl12.trans hl24).trans hl37)))) ?_
  rintro _ τ42 _ hl43 ⟨rfl, rfl⟩
  refine Z 3 ?_
  refine cutS τ42 (fun (s44 : ByteArray) => fleet_Fleet_Lines_j2 a0 x24 s24 s44 o24) (fun s44 => [(1, .Pb b7), (2, .N0), (3, .Pb b8), (13, .I x24), (4, .I x24), (5, .Pb b32), (6, .string s44)]) (fun s44 => [[(ba0, .cells #[v1, v3] 76 (0, 0))], [(b7, .cells #[.Pb ba0] 23 (0, 0))], [(b8, .cells #[v25] 70 (0, 0))], [(b32, .cells #[.I (((mget a0.1 x24).getD (0, 0, 0, 0, 0, false, false, 0, 0, [], 0, 0)).1), .I (((mget a0.1 x24).getD (0, 0, 0, 0, 0, false, false, 0, 0, [], 0, 0)).2.1), .I (((mget a0.1 x24).getD (0, 0, 0, 0, 0, false, false, 0, 0, [], 0, 0)).2.2.1), .I (((mget a0.1 x24).getD (0, 0, 0, 0, 0, false, false, 0, 0, [], 0, 0)).2.2.2.1), .I (((mget a0.1 x24).getD (0, 0, 0, 0, 0, false, false, 0, 0, [], 0, 0)).t4.1), .bool (((mget a0.1 x24).getD (0, 0, 0, 0, 0, false, false, 0, 0, [], 0, 0)).t4.2.1), .bool (((mget a0.1 x24).getD (0, 0, 0, 0, 0, false, false, 0, 0, [], 0, 0)).t4.2.2.1), .I (((mget a0.1 x24).getD (0, 0, 0, 0, 0, false, false, 0, 0, [], 0, 0)).t4.2.2.2.1), .I (((mget a0.1 x24).getD (0, 0, 0, 0, 0, false, false, 0, 0, [], 0, 0)).t4.t4.1), v30, .I (((mget a0.1 x24).getD (0, 0, 0, 0, 0, false, false, 0, 0, [], 0, 0)).t4.t4.2.2.1), .I (((mget a0.1 x24).getD (0, 0, 0, 0, 0, false, false, 0, 0, [], 0, 0)).t4.t4.2.2.2)] 49 (0, 0))], g2, g4, g26]) (fun s44 τ44 h hl44 => ?_) (fun hk44 => ?_)
  ·refine st_seq ?_
   refine cutS τ44 (fun (s45 : ByteArray) => fleet_Fleet_Lines_j3 a0 x24 s24 s45 o24) (fun s45 => [(1, .Pb b7), (2, .N0), (3, .Pb b8), (13, .I x24), (4, .I x24), (5, .Pb b32), (6, .string s45)]) (fun s45 => [[(ba0, .cells #[v1, v3] 76 (0, 0))], [(b7, .cells #[.Pb ba0] 23 (0, 0))], [(b8, .cells #[v25] 70 (0, 0))], [(b32, .cells #[.I (((mget a0.1 x24).getD (0, 0, 0, 0, 0, false, false, 0, 0, [], 0, 0)).1), .I (((mget a0.1 x24).getD (0, 0, 0, 0, 0, false, false, 0, 0, [], 0, 0)).2.1), .I (((mget a0.1 x24).getD (0, 0, 0, 0, 0, false, false, 0, 0, [], 0, 0)).2.2.1), .I (((mget a0.1 x24).getD (0, 0, 0, 0, 0, false, false, 0, 0, [], 0, 0)).2.2.2.1), .I (((mget a0.1 x24).getD (0, 0, 0, 0, 0, false, false, 0, 0, [], 0, 0)).t4.1), .bool (((mget a0.1 x24).getD (0, 0, 0, 0, 0, false, false, 0, 0, [], 0, 0)).t4.2.1), .bool (((mget a0.1 x24).getD (0, 0, 0, 0, 0, false, false, 0, 0, [], 0, 0)).t4.2.2.1), .I (((mget a0.1 x24).getD (0, 0, 0, 0, 0, false, false, 0, 0, [], 0, 0)).t4.2.2.2.1), .I (((mget a0.1 x24).getD (0, 0, 0, 0, 0, false, false, 0, 0, [], 0, 0)).t4.t4.1), v30, .I (((mget a0.1 x24).getD (0, 0, 0, 0, 0, false, false, 0, 0, [], 0, 0)).t4.t4.2.2.1), .I (((mget a0.1 x24).getD (0, 0, 0, 0, 0, false, false, 0, 0, [], 0, 0)).t4.t4.2.2.2)] 49 (0, 0))], g2, g4, g26]) (fun s45 τ45 h hl45 => ?_) (fun hk45 => ?_)
   ·refine st_seq ?_
    obtain ⟨r53, hr54, hf57, r65, hr66, hf69, hf80, hf81, h⟩ := h
    refine st_ord [0, 0, 1, 1, 1, 0, 0] _ rfl ?_
    refine st_d41 [[(ba0, .cells #[v1, v3] 76 (0, 0))], [(b7, .cells #[.Pb ba0] 23 (0, 0))], [(b32, .cells #[.I (((mget a0.1 x24).getD (0, 0, 0, 0, 0, false, false, 0, 0, [], 0, 0)).1), .I (((mget a0.1 x24).getD (0, 0, 0, 0, 0, false, false, 0, 0, [], 0, 0)).2.1), .I (((mget a0.1 x24).getD (0, 0, 0, 0, 0, false, false, 0, 0, [], 0, 0)).2.2.1), .I (((mget a0.1 x24).getD (0, 0, 0, 0, 0, false, false, 0, 0, [], 0, 0)).2.2.2.1), .I (((mget a0.1 x24).getD (0, 0, 0, 0, 0, false, false, 0, 0, [], 0, 0)).t4.1), .bool (((mget a0.1 x24).getD (0, 0, 0, 0, 0, false, false, 0, 0, [], 0, 0)).t4.2.1), .bool (((mget a0.1 x24).getD (0, 0, 0, 0, 0, false, false, 0, 0, [], 0, 0)).t4.2.2.1), .I (((mget a0.1 x24).getD (0, 0, 0, 0, 0, false, false, 0, 0, [], 0, 0)).t4.2.2.2.1), .I (((mget a0.1 x24).getD (0, 0, 0, 0, 0, false, false, 0, 0, [], 0, 0)).t4.t4.1), v30, .I (((mget a0.1 x24).getD (0, 0, 0, 0, 0, false, false, 0, 0, [], 0, 0)).t4.t4.2.2.1), .I (((mget a0.1 x24).getD (0, 0, 0, 0, 0, false, false, 0, 0, [], 0, 0)).t4.t4.2.2.2)] 49 (0, 0))], g2, g4] [[(b8, .cells #[v25] 70 (0, 0))], g26] 17 2 [some (0, 0), none, none, none, none, none, none, none, none, none, none, none, none, none, none, none, some (0, 1)] [none, none, none, none, none, none, none, none, none, none, none, none, none, none, none, none, none] [[none, some 49, some 65]] [.v (v25), .v (.string s45), .v (.pointer (some ⟨b32, 9, none⟩)), .v (v30), .v (.I ((((mget a0.1 x24).getD (0, 0, 0, 0, 0, false, false, 0, 0, [], 0, 0)).t4.t4.2.1).length : Int)), .t fun τ v => ∃ (v46 : Value), (v46 : Value) = v ∧ Sl (kI .i64) τ v46 [((((mget a0.1 x24).getD (0, 0, 0, 0, 0, false, false, 0, 0, [], 0, 0)).t4.t4.2.1).length : Int)], .v (.string r53), .v (.string (s45 ++ r53)), .v (.pointer (some ⟨b32, 10, none⟩)), .v (.I (((mget a0.1 x24).getD (0, 0, 0, 0, 0, false, false, 0, 0, [], 0, 0)).t4.t4.2.2.1)), .v (.pointer (some ⟨b32, 11, none⟩)), .v (.I (((mget a0.1 x24).getD (0, 0, 0, 0, 0, false, false, 0, 0, [], 0, 0)).t4.t4.2.2.2)), .t fun τ v => ∃ (v58 : Value), (v58 : Value) = v ∧ Sl (kI .i64) τ v58 [((mget a0.1 x24).getD (0, 0, 0, 0, 0, false, false, 0, 0, [], 0, 0)).t4.t4.2.2.1, ((mget a0.1 x24).getD (0, 0, 0, 0, 0, false, false, 0, 0, [], 0, 0)).t4.t4.2.2.2], .v (.string r65), .v (.string ((s45 ++ r53) ++ r65)), .t fun τ v => ∃ (v70 : Value), (v70 : Value) = v ∧ Sl kS τ v70 [((s45 ++ r53) ++ r65)], .t fun _ _ => True] [[fun τ u F => F = [[(b8, .cells #[v25] 70 (0, 0))], g26], fun τ u F => F = [[(b8, .cells #[v25] 70 (0, 0))], g26], fun τ u F => ∃ (v82 : Value) (g83 : Grp), F = [g83, [(b8, .cells #[v25] 70 (0, 0))]] ∧ v82 = u ∧ Ow kS 9 τ v82 (s24 ++ [((s45 ++ r53) ++ r65)]) g83]] rfl z_mix rfl ⟨fun _ _ _ hl ⟨v46, hv, hs52⟩ => ⟨v46, hv, hs52.up hl⟩, ⟨fun _ _ _ hl ⟨v58, hv, hs64⟩ => ⟨v58, hv, hs64.up hl⟩, ⟨fun _ _ _ hl ⟨v70, hv, hs76⟩ => ⟨v70, hv, hs76.up hl⟩, ⟨fun _ _ _ _ _ => trivial, trivial⟩⟩⟩⟩ ⟨⟨fun _ _ _ _ hl h => h, ⟨fun _ _ _ _ hl h => h, ⟨fun _ _ _ _ hl h => (let ⟨v82, g83, hF, hU, ho84⟩ := h; ⟨v82, g83, hF, hU, ho84.up hl⟩), trivial⟩⟩⟩, trivial⟩ rfl rfl ?_ (allB_cons (allB_cons (allB_cons (allB_cons (allB_cons (allB_cons (allB_cons (allB_cons (allB_cons (allB_cons (allB_cons (allB_cons (allB_cons (allB_cons (allB_cons (allB_cons (allB_cons allB_nil ?_) (p4 dA)) (p4 dA)) ?_) ?_) ?_) ?_) ?_) (p4 dA)) ?_) (p4 dA)) ?_) ?_) ?_) ?_) ?_) ?_) ?_
    ·exact rfl
    ·intro ρ' τ u Fv pq rs hl hI hu hd hq hw hk
     have hI0 := hI
     obtain rfl := hI
     refine o_load (j := 5) (v := v25) rfl rfl rfl z_sc70 (oT hq 3) rfl rfl ?_
     exact hk _ _ [[(b8, .cells #[v25] 70 (0, 0))], g26] LR rfl (by exact hI0)
    ·intro ρ' τ pq rs hl hd hq hw hk
     obtain ⟨_, e2, rfl⟩ := hd 2 rfl _ rfl
     refine o_load (j := 2) (v := v30) rfl rfl rfl z_sc30 e2 rfl rfl ?_
     exact hk _ _ LR rfl
    ·intro ρ' τ pq rs hl hd hq hw hk
     obtain ⟨_, e3, rfl⟩ := hd 3 rfl _ rfl
     refine o_lenI rfl rfl rfl z_slT30 e3 (hs31.up ((((hl37.trans hl43).trans hl44).trans hl45).trans hl)) ?_
     exact hk _ _ LR rfl
    ·intro ρ' τ pq rs hl hd hq hw hk
     obtain ⟨_, e4, rfl⟩ := hd 4 rfl _ rfl
     refine o_litE (eI .i64) [((((mget a0.1 x24).getD (0, 0, 0, 0, 0, false, false, 0, 0, [], 0, 0)).t4.t4.2.1).length : Int)] rfl rfl rfl z_slT31 z_zero3 ⟨rfl, ⟨_, e4, rfl⟩, trivial⟩ rfl rfl rfl rfl (fun v46 g47 ho48 => ?_)
     refine st_freeze (fun τ49 hl50 hg51 => ?_)
     have hs52 := ho48.freeze hl50 hg51
     exact hk _ _ hl50 ⟨v46, rfl, hs52⟩
    ·intro ρ' τ pq rs hl hd hq hw hk
     obtain ⟨_, e5, v46, rfl, hs52⟩ := hd 5 rfl _ rfl
     refine st_call (foot := []) rfl rfl rfl rfl (evs_cons (ev_str z_str23) (evs_cons e5 rfl)) rfl (callV_fn z_en50 (fleet_line_ok hr54 τ hs52 (hT.up ((((((hl12.trans hl24).trans hl37).trans hl43).trans hl44).trans hl45).trans hl)))) ?_
     rintro _ τ55 _ hl56 ⟨rfl, rfl⟩
     exact hk _ _ hl56 rfl
    ·intro ρ' τ pq rs hl hd hq hw hk
     obtain ⟨_, e1, rfl⟩ := hd 1 rfl _ rfl
     obtain ⟨_, e6, rfl⟩ := hd 6 rfl _ rfl
     refine o_sadd rfl rfl rfl e1 e6 hf57 ?_
     exact hk _ _ LR rfl
    ·intro ρ' τ pq rs hl hd hq hw hk
     obtain ⟨_, e8, rfl⟩ := hd 8 rfl _ rfl
     refine o_load (j := 2) (v := .I (((mget a0.1 x24).getD (0, 0, 0, 0, 0, false, false, 0, 0, [], 0, 0)).t4.t4.2.2.1)) rfl rfl rfl z_sc3 e8 rfl rfl ?_
     exact hk _ _ LR rfl
    ·intro ρ' τ pq rs hl hd hq hw hk
     obtain ⟨_, e10, rfl⟩ := hd 10 rfl _ rfl
     refine o_load (j := 2) (v := .I (((mget a0.1 x24).getD (0, 0, 0, 0, 0, false, false, 0, 0, [], 0, 0)).t4.t4.2.2.2)) rfl rfl rfl z_sc3 e10 rfl rfl ?_
     exact hk _ _ LR rfl
    ·intro ρ' τ pq rs hl hd hq hw hk
     obtain ⟨_, e9, rfl⟩ := hd 9 rfl _ rfl
     obtain ⟨_, e11, rfl⟩ := hd 11 rfl _ rfl
     refine o_litE (eI .i64) [((mget a0.1 x24).getD (0, 0, 0, 0, 0, false, false, 0, 0, [], 0, 0)).t4.t4.2.2.1, ((mget a0.1 x24).getD (0, 0, 0, 0, 0, false, false, 0, 0, [], 0, 0)).t4.t4.2.2.2] rfl rfl rfl z_slT31 z_zero3 ⟨rfl, ⟨_, e9, rfl⟩, ⟨rfl, ⟨_, e11, rfl⟩, trivial⟩⟩ rfl rfl rfl rfl (fun v58 g59 ho60 => ?_)
     refine st_freeze (fun τ61 hl62 hg63 => ?_)
     have hs64 := ho60.freeze hl62 hg63
     exact hk _ _ hl62 ⟨v58, rfl, hs64⟩
    ·intro ρ' τ pq rs hl hd hq hw hk
     obtain ⟨_, e12, v58, rfl, hs64⟩ := hd 12 rfl _ rfl
     refine st_call (foot := []) rfl rfl rfl rfl (evs_cons (ev_str z_str24) (evs_cons e12 rfl)) rfl (callV_fn z_en50 (fleet_line_ok hr66 τ hs64 (hT.up ((((((hl12.trans hl24).trans hl37).trans hl43).trans hl44).trans hl45).trans hl)))) ?_
     rintro _ τ67 _ hl68 ⟨rfl, rfl⟩
     exact hk _ _ hl68 rfl
    ·intro ρ' τ pq rs hl hd hq hw hk
     obtain ⟨_, e7, rfl⟩ := hd 7 rfl _ rfl
     obtain ⟨_, e13, rfl⟩ := hd 13 rfl _ rfl
     refine o_sadd rfl rfl rfl e7 e13 hf69 ?_
     exact hk _ _ LR rfl
    ·intro ρ' τ pq rs hl hd hq hw hk
     obtain ⟨_, e14, rfl⟩ := hd 14 rfl _ rfl
     refine o_litE eS [((s45 ++ r53) ++ r65)] rfl rfl rfl z_slT70 z_zero9 ⟨rfl, ⟨_, e14, rfl⟩, trivial⟩ rfl rfl rfl rfl (fun v70 g71 ho72 => ?_)
     refine st_freeze (fun τ73 hl74 hg75 => ?_)
     have hs76 := ho72.freeze hl74 hg75
     exact hk _ _ hl74 ⟨v70, rfl, hs76⟩
    ·intro ρ' τ u Fv pq rs hl hI hu hd hq hw hk
     obtain ⟨_, e0, rfl⟩ := hd 0 rfl _ rfl
     obtain ⟨_, e15, v70, rfl, hs76⟩ := hd 15 rfl _ rfl
     have hI0 := hI
     obtain rfl := hI
     refine st_ord [6, 0, 0, 0, 0, 0, 0, 0] _ rfl ?_
     refine o_append (dk := kS) (xs := s24) (ys := [((s45 ++ r53) ++ r65)]) rfl rfl rfl rfl z_slT70 e0 (ho27.up ((((hl37.trans hl43).trans hl44).trans hl45).trans hl)) e15 (Sl.src hs76) hf80 hf81 (fun v77 g78 ho79 => ?_)
     refine st_ord [1, 1, 1, 1, 1, 0, 0, 0] _ rfl ?_
     exact hk _ _ [g78, [(b8, .cells #[v25] 70 (0, 0))]] LR trivial (by exact ⟨v77, g78, rfl, rfl, ho79⟩)
    intro ρ' τ85 vals u Fv hl85 hI hu hv hq
    obtain ⟨v82, g83, rfl, rfl, ho84⟩ := hI
    refine st_env (ρ' := [(1, .Pb b7), (2, .N0), (3, .Pb b8), (13, .I x24), (4, .I x24), (65, v82)]) ⟨oT hq 1, oT hq 2, oT hq 3, oT hq 13, oT hq 4, (by exact hu _ rfl), trivial⟩ ?_
    refine o_store (j := 6) (vs := [v82]) (cs' := [v82]) rfl rfl rfl z_size70 rfl rfl (oneL_ow ho84) (ones_cons ho84.one' ones_nil) rfl rfl rfl (ZZ 5 [1] ?_)
    obtain ⟨r86, hr87, h⟩ := h
    refine st_ord [0, 2, 2, 0, 0, 0, 0] _ rfl ?_
    refine st_call (foot := [[(ba0, .cells #[v1, v3] 76 (0, 0))], g2, g4]) rfl rfl rfl rfl rfl rfl (callV_fn z_en51 (fleet_Fleet_zones_ok hr87 τ85 (ho5.up ((((((hl12.trans hl24).trans hl37).trans hl43).trans hl44).trans hl45).trans hl85)) (ho6.up ((((((hl12.trans hl24).trans hl37).trans hl43).trans hl44).trans hl45).trans hl85)))) ?_
    rintro _ τ88 _ hl89 ⟨v90, rfl, rfl, hs91⟩
    refine o_lenI rfl rfl rfl z_slT31 rfl hs91 (Z 2 ?_)
    obtain ⟨e92, hL92, hA92⟩ := h
    refine st_ord [0, 2, 4, 0, 0, 1] _ rfl ?_
    refine st_loop hL92 (fun (s92 : Int × List ByteArray) ρ τ92 gs => τ88.Le τ92 ∧ ∃ (v93 : Value) (g94 : Grp), ESub ρ [(1, .Pb b7), (2, .N0), (3, .Pb b8), (13, .I x24), (4, .I x24), (68, v90), (69, .I (r86.length : Int)), (70, .I s92.1)] ∧ gs = [[(ba0, .cells #[v1, v3] 76 (0, 0))], [(b7, .cells #[.Pb ba0] 23 (0, 0))], [(b8, .cells #[v93] 70 (0, 0))], g2, g4, g94] ∧ Ow kS 9 τ92 v93 s92.2 g94) ⟨LR, _, _, rfl, rfl, (ho84.up hl89)⟩ ?_
    rintro s92 o92 h he92 ρ92 τ92 gs92 ⟨hl92, v93, g94, hρ, rfl, ho95⟩ hn92
    refine st_es hρ (Z 5 ?_)
    refine I2 h (fun h => ?_) (fun h => ?_)
    ·refine Z 5 ?_
     obtain ⟨q96, hf97, h⟩ := h
     refine o_index rfl rfl rfl z_slT31 rfl rfl (hs91.up hl92) rfl hf97 (fun b98 of99 vs hc100 hrep => ?_)
     obtain rfl := hrep
     refine o_loadI (v := .I q96) rfl rfl rfl z_sc3 rfl (hc100 0 _ rfl) (Z 2 ?_)
     obtain ⟨r107, hr108, hf116, hf117, r125, hr126, hf139, hf140, h⟩ := h
     refine st_ord [0, 0, 1, 1, 0, 0] _ rfl ?_
     refine st_d42 [[(ba0, .cells #[v1, v3] 76 (0, 0))], [(b7, .cells #[.Pb ba0] 23 (0, 0))], g2, g4] [[(b8, .cells #[v93] 70 (0, 0))], g94] [] 12 2 3 [some (0, 0), none, none, some (1, 0), none, none, none, none, some (1, 1), some (1, 2), none, some (0, 1)] [none, none, none, none, none, none, none, none, none, none, none, none] [[none, some 74, some 85], [none, some 77, some 82, some 83]] [.v (v93), .v (.I x24), .v (.I q96), .t fun _ _ => True, .v (.Pb ba0), .v (.I x24), .v (.I q96), .t fun τ v => ∃ (v111 : Value), (v111 : Value) = v ∧ Sl (kI .i64) τ v111 r107, .t fun _ _ => True, .v (.string r125), .t fun τ v => ∃ (v129 : Value), (v129 : Value) = v ∧ Sl kS τ v129 [r125], .t fun _ _ => True] [[fun τ u F => F = [[(b8, .cells #[v93] 70 (0, 0))], g94], fun τ u F => F = [[(b8, .cells #[v93] 70 (0, 0))], g94], fun τ u F => ∃ (v141 : Value) (g142 : Grp), F = [g142, [(b8, .cells #[v93] 70 (0, 0))]] ∧ v141 = u ∧ Ow kS 9 τ v141 (s92.2 ++ [r125]) g142], [fun τ u F => F = [], fun τ u F => ∃ (v104 : Value) (g105 : Grp), F = [g105] ∧ v104 = u ∧ Ow (kI .i64) 3 τ v104 [x24, q96] g105, fun τ u F => ∃ (v118 : Value) (g119 : Grp), F = [g119] ∧ v118 = u ∧ Ow (kI .i64) 3 τ v118 ([x24, q96] ++ r107) g119, fun τ u F => F = []]] rfl z_mix rfl ⟨fun _ _ _ _ _ => trivial, ⟨fun _ _ _ hl ⟨v111, hv, hs112⟩ => ⟨v111, hv, hs112.up hl⟩, ⟨fun _ _ _ _ _ => trivial, ⟨fun _ _ _ hl ⟨v129, hv, hs135⟩ => ⟨v129, hv, hs135.up hl⟩, ⟨fun _ _ _ _ _ => trivial, trivial⟩⟩⟩⟩⟩ ⟨⟨fun _ _ _ _ hl h => h, ⟨fun _ _ _ _ hl h => h, ⟨fun _ _ _ _ hl h => (let ⟨v141, g142, hF, hU, ho143⟩ := h; ⟨v141, g142, hF, hU, ho143.up hl⟩), trivial⟩⟩⟩, ⟨⟨fun _ _ _ _ hl h => h, ⟨fun _ _ _ _ hl h => (let ⟨v104, g105, hF, hU, ho106⟩ := h; ⟨v104, g105, hF, hU, ho106.up hl⟩), ⟨fun _ _ _ _ hl h => (let ⟨v118, g119, hF, hU, ho120⟩ := h; ⟨v118, g119, hF, hU, ho120.up hl⟩), ⟨fun _ _ _ _ hl h => h, trivial⟩⟩⟩⟩, trivial⟩⟩ rfl rfl ?_ ?_ (allB_cons (allB_cons (allB_cons (allB_cons (allB_cons (allB_cons (allB_cons (allB_cons (allB_cons (allB_cons (allB_cons (allB_cons allB_nil ?_) (p4 dA)) (p4 dA)) ?_) ?_) (p4 dA)) (p4 dA)) ?_) ?_) ?_) ?_) ?_) ?_
     ·exact rfl
     ·exact rfl
     ·intro ρ' τ u Fv pq rs hl hI hu hd hq hw hk
      have hI0 := hI
      obtain rfl := hI
      refine o_load (j := 4) (v := v93) rfl rfl rfl z_sc70 (oT hq 3) rfl rfl ?_
      exact hk _ _ [[(b8, .cells #[v93] 70 (0, 0))], g94] LR rfl (by exact hI0)
     ·intro ρ' τ u Fv pq rs hl hI hu hd hq hw hk
      obtain ⟨_, e1, rfl⟩ := hd 1 rfl _ rfl
      obtain ⟨_, e2, rfl⟩ := hd 2 rfl _ rfl
      have hI0 := hI
      obtain rfl := hI
      refine o_litE (eI .i64) [x24, q96] rfl rfl rfl z_slT31 z_zero3 ⟨rfl, ⟨_, e1, rfl⟩, ⟨rfl, ⟨_, e2, rfl⟩, trivial⟩⟩ rfl rfl rfl rfl (fun v101 g102 ho103 => ?_)
      refine st_ord [1, 1, 1, 1, 0, 0] _ rfl ?_
      exact hk _ _ [g102] LR trivial (by exact ⟨v101, g102, rfl, rfl, ho103⟩)
     ·intro ρ' τ pq rs hl hd hq hw hk
      refine o_load (j := 1) (v := .Pb ba0) rfl rfl rfl z_sc23 (oT hq 1) rfl rfl ?_
      exact hk _ _ LR rfl
     ·intro ρ' τ pq rs hl hd hq hw hk
      obtain ⟨_, e4, rfl⟩ := hd 4 rfl _ rfl
      obtain ⟨_, e5, rfl⟩ := hd 5 rfl _ rfl
      obtain ⟨_, e6, rfl⟩ := hd 6 rfl _ rfl
      refine st_ord [0, 1, 1, 0, 0] _ rfl ?_
      refine st_call (foot := [[(ba0, .cells #[v1, v3] 76 (0, 0))], g2, g4]) rfl rfl rfl rfl (evs_cons e4 (evs_cons e5 (evs_cons e6 rfl))) rfl (callV_fn z_en20 (fleet_Fleet_Cells_ok hr108 τ (ho5.up (((((((((hl12.trans hl24).trans hl37).trans hl43).trans hl44).trans hl45).trans hl85).trans hl89).trans hl92).trans hl)) (ho6.up (((((((((hl12.trans hl24).trans hl37).trans hl43).trans hl44).trans hl45).trans hl85).trans hl89).trans hl92).trans hl)))) ?_
      rintro _ τ109 _ hl110 ⟨v111, rfl, rfl, hs112⟩
      refine st_ord [0, 2, 0, 0, 0] _ rfl ?_
      exact hk _ _ hl110 ⟨v111, rfl, hs112⟩
     ·intro ρ' τ u Fv pq rs hl hI hu hd hq hw hk
      obtain ⟨_, e7, v111, rfl, hs112⟩ := hd 7 rfl _ rfl
      obtain ⟨v104, g105, rfl, rfl, ho106⟩ := hI
      refine st_ord [4, 0, 0, 0, 0, 0] _ rfl ?_
      refine o_append (dk := (kI .i64)) (xs := [x24, q96]) (ys := r107) rfl rfl rfl rfl z_slT31 (hu (by decide) _ rfl) ho106 e7 (Sl.src hs112) hf116 hf117 (fun v113 g114 ho115 => ?_)
      refine st_ord [1, 1, 1, 1, 0, 0] _ rfl ?_
      exact hk _ _ [g114] LR trivial (by exact ⟨v113, g114, rfl, rfl, ho115⟩)
     ·intro ρ' τ u Fv pq rs hl hI hu hd hq hw hk
      obtain ⟨v118, g119, rfl, rfl, ho120⟩ := hI
      refine st_ord [4, 0, 0, 0, 0, 0] _ rfl ?_
      refine st_freeze (fun τ121 hl122 hg123 => ?_)
      have hs124 := ho120.freeze hl122 hg123
      refine st_call (foot := []) rfl rfl rfl rfl (evs_cons (ev_str z_str25) (evs_cons (hu (by decide) _ rfl) rfl)) rfl (callV_fn z_en50 (fleet_line_ok hr126 τ121 hs124 (hT.up ((((((((((hl12.trans hl24).trans hl37).trans hl43).trans hl44).trans hl45).trans hl85).trans hl89).trans hl92).trans hl).trans hl122)))) ?_
      rintro _ τ127 _ hl128 ⟨rfl, rfl⟩
      exact hk _ _ [] (hl122.trans hl128) rfl (by exact rfl)
     ·intro ρ' τ pq rs hl hd hq hw hk
      obtain ⟨_, e9, rfl⟩ := hd 9 rfl _ rfl
      refine o_litE eS [r125] rfl rfl rfl z_slT70 z_zero9 ⟨rfl, ⟨_, e9, rfl⟩, trivial⟩ rfl rfl rfl rfl (fun v129 g130 ho131 => ?_)
      refine st_freeze (fun τ132 hl133 hg134 => ?_)
      have hs135 := ho131.freeze hl133 hg134
      exact hk _ _ hl133 ⟨v129, rfl, hs135⟩
     ·intro ρ' τ u Fv pq rs hl hI hu hd hq hw hk
      obtain ⟨_, e0, rfl⟩ := hd 0 rfl _ rfl
      obtain ⟨_, e10, v129, rfl, hs135⟩ := hd 10 rfl _ rfl
      have hI0 := hI
      obtain rfl := hI
      refine st_ord [5, 0, 0, 0, 0, 0, 0] _ rfl ?_
      refine o_append (dk := kS) (xs := s92.2) (ys := [r125]) rfl rfl rfl rfl z_slT70 e0 (ho95.up hl) e10 (Sl.src hs135) hf139 hf140 (fun v136 g137 ho138 => ?_)
      refine st_ord [1, 1, 1, 1, 0, 0, 0] _ rfl ?_
      exact hk _ _ [g137, [(b8, .cells #[v93] 70 (0, 0))]] LR trivial (by exact ⟨v136, g137, rfl, rfl, ho138⟩)
     intro ρ' τ144 vals u u1 Fv Fv1 hl144 hI hu hI1 hu1 hv hq
     obtain ⟨v141, g142, rfl, rfl, ho143⟩ := hI
     obtain rfl := hI1
     refine st_env (ρ' := [(1, .Pb b7), (2, .N0), (3, .Pb b8), (13, .I x24), (4, .I x24), (68, v90), (69, .I (r86.length : Int)), (70, .I s92.1), (85, v141)]) ⟨oT hq 1, oT hq 2, oT hq 3, oT hq 13, oT hq 4, oT hq 68, oT hq 69, oT hq 70, (by exact hu _ rfl), trivial⟩ ?_
     refine o_store (j := 5) (vs := [v141]) (cs' := [v141]) rfl rfl rfl z_size70 rfl rfl (oneL_ow ho143) (ones_cons ho143.one' ones_nil) rfl rfl rfl (Z 6 ?_)
     refine st_ord [0, 0, 3, 0, 0, 0] _ rfl ?_
     exact hn92 _ _ _ _ h ⟨(hl92.trans hl144), _, _, rfl, rfl, ho143⟩
    ·refine Z 2 ?_
     obtain rfl := he92 _ h
     replace h := hA92
     exact st_rend (List.Sublist.refl _) ((((((hl37.trans hl43).trans hl44).trans hl45).trans hl85).trans hl89).trans hl92) ⟨_, h, (((((((hl24.trans hl37).trans hl43).trans hl44).trans hl45).trans hl85).trans hl89).trans hl92), _, _, rfl, ho95⟩
   refine ZZ 5 [3] ?_
   refine I2 h (fun h => ?_) (fun h => ?_)
   ·refine ZZ 6 [3, 3] ?_
    refine o_litE (eI .i64) [((mget a0.1 x24).getD (0, 0, 0, 0, 0, false, false, 0, 0, [], 0, 0)).t4.2.2.2.1, ((mget a0.1 x24).getD (0, 0, 0, 0, 0, false, false, 0, 0, [], 0, 0)).t4.t4.1] rfl rfl rfl z_slT31 z_zero3 ⟨rfl, ⟨_, rfl, rfl⟩, ⟨rfl, ⟨_, rfl, rfl⟩, trivial⟩⟩ rfl rfl rfl rfl (fun v146 g147 ho148 => ?_)
    obtain ⟨r153, hr154, h⟩ := h
    refine st_freeze (fun τ149 hl150 hg151 => ?_)
    have hs152 := ho148.freeze hl150 hg151
    refine st_call (foot := []) rfl rfl rfl rfl (evs_cons (ev_str z_str22) (evs_cons rfl rfl)) rfl (callV_fn z_en50 (fleet_line_ok hr154 τ149 hs152 (hT.up (((((hl12.trans hl24).trans hl37).trans hl43).trans hl44).trans hl150)))) ?_
    rintro _ τ155 _ hl156 ⟨rfl, rfl⟩
    obtain ⟨hf157, h⟩ := h
    refine o_sadd rfl rfl rfl rfl rfl hf157 (Z 2 ?_)
    exact hk45 _ _ _ ⟨(s44 ++ r153), h, (hl150.trans hl156), rfl, rfl⟩
   ·refine st_skip ?_
    exact hk45 _ _ _ ⟨s44, h, LR, rfl, rfl⟩
  refine ZZ 5 [0] ?_
  refine I2 h (fun h => ?_) (fun h => ?_)
  ·refine ZZ 12 [0, 0, 0, 0, 0] ?_
   refine o_litE (eI .i64) [((mget a0.1 x24).getD (0, 0, 0, 0, 0, false, false, 0, 0, [], 0, 0)).1, ((mget a0.1 x24).getD (0, 0, 0, 0, 0, false, false, 0, 0, [], 0, 0)).2.1, ((mget a0.1 x24).getD (0, 0, 0, 0, 0, false, false, 0, 0, [], 0, 0)).2.2.1, ((mget a0.1 x24).getD (0, 0, 0, 0, 0, false, false, 0, 0, [], 0, 0)).2.2.2.1, ((mget a0.1 x24).getD (0, 0, 0, 0, 0, false, false, 0, 0, [], 0, 0)).t4.1] rfl rfl rfl z_slT31 z_zero3 ⟨rfl, ⟨_, rfl, rfl⟩, ⟨rfl, ⟨_, rfl, rfl⟩, ⟨rfl, ⟨_, rfl, rfl⟩, ⟨rfl, ⟨_, rfl, rfl⟩, ⟨rfl, ⟨_, rfl, rfl⟩, trivial⟩⟩⟩⟩⟩ rfl rfl rfl rfl (fun v158 g159 ho160 => ?_)
   obtain ⟨r165, hr166, h⟩ := h
   refine st_freeze (fun τ161 hl162 hg163 => ?_)
   have hs164 := ho160.freeze hl162 hg163
   refine st_call (foot := []) rfl rfl rfl rfl (evs_cons (ev_str z_str21) (evs_cons rfl rfl)) rfl (callV_fn z_en50 (fleet_line_ok hr166 τ161 hs164 (hT.up ((((hl12.trans hl24).trans hl37).trans hl43).trans hl162)))) ?_
   rintro _ τ167 _ hl168 ⟨rfl, rfl⟩
   obtain ⟨hf169, h⟩ := h
   refine o_sadd rfl rfl rfl rfl rfl hf169 (Z 2 ?_)
   refine st_ord [1, 1, 1, 0, 0, 0, 0] _ rfl ?_
   exact hk44 _ _ _ ⟨(r40 ++ r165), h, (hl162.trans hl168), rfl, rfl⟩
  ·refine st_skip ?_
   refine st_ord [1, 1, 1, 0, 0, 0, 0] _ rfl ?_
   exact hk44 _ _ _ ⟨r40, h, LR, rfl, rfl⟩
 ·rintro p177 τ178 gs24 ht hl179 ⟨hb, v180, g181, rfl, ho182⟩ 
  subst ht
  replace h := hA24
  refine Z 2 ?_
  refine st_cut (fun ρ τ183 gs => ∃ (s183 : K20) (v184 : Value) (g185 : Grp), fleet_Fleet_Lines_j5 s183 r ∧ τ178.Le τ183 ∧ ESub ρ [(2, .N0), (3, .Pb b8)] ∧ gs = [[(ba0, .cells #[v1, v3] 76 (0, 0))], [(b8, .cells #[v184] 70 (0, 0))], g2, g4, g185] ∧ Ow kS 9 τ183 v184 s183 g185) ?_ (fun hk183 => ?_)
  ·rintro ρ183 τ183 gs183 ⟨s183, v184, g185, h, hl183, hρ, rfl, ho186⟩
   refine st_es hρ (ZZ 5 [1] ?_)
   refine st_ord [4, 0, 0, 0, 0] _ rfl ?_
   refine st_freeze (fun τ187 hl188 hg189 => ?_)
   have hs190 := ho186.freeze hl188 hg189
   refine st_ord [0, 1, 1] _ rfl ?_
   obtain rfl := Eq.symm h
   exact st_ret (gs' := [[(ba0, .cells #[v1, v3] 76 (0, 0))], g2, g4]) func27 rfl (List.Sublist.refl _) (((hl12.trans hl179).trans hl183).trans hl188) ⟨_, rfl, rfl, hs190⟩
  refine ZZ 3 [1] ?_
  obtain ⟨r193, hr194, h⟩ := h
  refine st_ord [0, 2, 2, 0, 0, 0] _ rfl ?_
  refine st_call (foot := [[(ba0, .cells #[v1, v3] 76 (0, 0))], g2, g4]) rfl rfl rfl rfl rfl rfl (callV_fn z_en26 (fleet_Fleet_Contested_ok hr194 τ178 (ho5.up (hl12.trans hl179)) (ho6.up (hl12.trans hl179)))) ?_
  rintro _ τ195 _ hl196 ⟨v197, rfl, rfl, hs198⟩
  refine o_lenI rfl rfl rfl z_slT68 rfl hs198 (Z 2 ?_)
  obtain ⟨e199, hL199, hA199⟩ := h
  refine st_ord [0, 3, 0, 0, 1] _ rfl ?_
  refine st_loop hL199 (fun (s199 : Int × List ByteArray) ρ τ199 gs => τ195.Le τ199 ∧ ∃ (v200 : Value) (g201 : Grp), ESub ρ [(2, .N0), (3, .Pb b8), (88, v197), (89, .I (r193.length : Int)), (90, .I s199.1)] ∧ gs = [[(ba0, .cells #[v1, v3] 76 (0, 0))], [(b8, .cells #[v200] 70 (0, 0))], g2, g4, g201] ∧ Ow kS 9 τ199 v200 s199.2 g201) ⟨LR, _, _, rfl, rfl, (ho182.up hl196)⟩ ?_
  rintro s199 o199 h he199 ρ199 τ199 gs199 ⟨hl199, v200, g201, hρ, rfl, ho202⟩ hn199
  refine st_es hρ (Z 5 ?_)
  refine I2 h (fun h => ?_) (fun h => ?_)
  ·refine Z 5 ?_
   obtain ⟨q203, hf204, h⟩ := h
   refine o_index rfl rfl rfl z_slT68 rfl rfl (hs198.up hl199) rfl hf204 (fun b205 of206 vs hc207 hrep => ?_)
   obtain ⟨_, _, rfl, rfl, rfl⟩ := hrep
   refine o_loadIN (vs := [.I q203.1, .I q203.2]) rfl rfl rfl z_agg62 rfl rfl (celn_part 0 rfl hc207) ?_
   refine o_alloc rfl rfl rfl z_zero62 (fun b208 => ZZ 2 [0] ?_)
   obtain ⟨r216, hr217, hf230, hf231, h⟩ := h
   refine st_ord [0, 0, 1, 1, 0, 0] _ rfl ?_
   refine st_d41 [[(b208, .cells #[.I q203.1, .I q203.2] 62 (0, 0))], [(ba0, .cells #[v1, v3] 76 (0, 0))], g2, g4] [[(b8, .cells #[v200] 70 (0, 0))], g201] 9 2 [some (0, 0), none, none, none, none, none, none, none, some (0, 1)] [none, none, none, none, none, none, none, none, none] [[none, some 94, some 102]] [.v (v200), .v (.Pb b208), .v (.I q203.1), .v (.pointer (some ⟨b208, 1, none⟩)), .v (.I q203.2), .t fun τ v => ∃ (v209 : Value), (v209 : Value) = v ∧ Sl (kI .i64) τ v209 [q203.1, q203.2], .v (.string r216), .t fun τ v => ∃ (v220 : Value), (v220 : Value) = v ∧ Sl kS τ v220 [r216], .t fun _ _ => True] [[fun τ u F => F = [[(b8, .cells #[v200] 70 (0, 0))], g201], fun τ u F => F = [[(b8, .cells #[v200] 70 (0, 0))], g201], fun τ u F => ∃ (v232 : Value) (g233 : Grp), F = [g233, [(b8, .cells #[v200] 70 (0, 0))]] ∧ v232 = u ∧ Ow kS 9 τ v232 (s199.2 ++ [r216]) g233]] rfl z_mix rfl ⟨fun _ _ _ hl ⟨v209, hv, hs215⟩ => ⟨v209, hv, hs215.up hl⟩, ⟨fun _ _ _ hl ⟨v220, hv, hs226⟩ => ⟨v220, hv, hs226.up hl⟩, ⟨fun _ _ _ _ _ => trivial, trivial⟩⟩⟩ ⟨⟨fun _ _ _ _ hl h => h, ⟨fun _ _ _ _ hl h => h, ⟨fun _ _ _ _ hl h => (let ⟨v232, g233, hF, hU, ho234⟩ := h; ⟨v232, g233, hF, hU, ho234.up hl⟩), trivial⟩⟩⟩, trivial⟩ rfl rfl ?_ (allB_cons (allB_cons (allB_cons (allB_cons (allB_cons (allB_cons (allB_cons (allB_cons (allB_cons allB_nil ?_) (p4 dA)) ?_) (p4 dA)) ?_) ?_) ?_) ?_) ?_) ?_
   ·exact rfl
   ·intro ρ' τ u Fv pq rs hl hI hu hd hq hw hk
    have hI0 := hI
    obtain rfl := hI
    refine o_load (j := 4) (v := v200) rfl rfl rfl z_sc70 (oT hq 3) rfl rfl ?_
    exact hk _ _ [[(b8, .cells #[v200] 70 (0, 0))], g201] LR rfl (by exact hI0)
   ·intro ρ' τ pq rs hl hd hq hw hk
    obtain ⟨_, e1, rfl⟩ := hd 1 rfl _ rfl
    refine o_load (j := 0) (v := .I q203.1) rfl rfl rfl z_sc3 e1 rfl rfl ?_
    exact hk _ _ LR rfl
   ·intro ρ' τ pq rs hl hd hq hw hk
    obtain ⟨_, e3, rfl⟩ := hd 3 rfl _ rfl
    refine o_load (j := 0) (v := .I q203.2) rfl rfl rfl z_sc3 e3 rfl rfl ?_
    exact hk _ _ LR rfl
   ·intro ρ' τ pq rs hl hd hq hw hk
    obtain ⟨_, e2, rfl⟩ := hd 2 rfl _ rfl
    obtain ⟨_, e4, rfl⟩ := hd 4 rfl _ rfl
    refine o_litE (eI .i64) [q203.1, q203.2] rfl rfl rfl z_slT31 z_zero3 ⟨rfl, ⟨_, e2, rfl⟩, ⟨rfl, ⟨_, e4, rfl⟩, trivial⟩⟩ rfl rfl rfl rfl (fun v209 g210 ho211 => ?_)
    refine st_freeze (fun τ212 hl213 hg214 => ?_)
    have hs215 := ho211.freeze hl213 hg214
    exact hk _ _ hl213 ⟨v209, rfl, hs215⟩
   ·intro ρ' τ pq rs hl hd hq hw hk
    obtain ⟨_, e5, v209, rfl, hs215⟩ := hd 5 rfl _ rfl
    refine st_call (foot := []) rfl rfl rfl rfl (evs_cons (ev_str z_str26) (evs_cons e5 rfl)) rfl (callV_fn z_en50 (fleet_line_ok hr217 τ hs215 (hT.up ((((hl12.trans hl179).trans hl196).trans hl199).trans hl)))) ?_
    rintro _ τ218 _ hl219 ⟨rfl, rfl⟩
    exact hk _ _ hl219 rfl
   ·intro ρ' τ pq rs hl hd hq hw hk
    obtain ⟨_, e6, rfl⟩ := hd 6 rfl _ rfl
    refine o_litE eS [r216] rfl rfl rfl z_slT70 z_zero9 ⟨rfl, ⟨_, e6, rfl⟩, trivial⟩ rfl rfl rfl rfl (fun v220 g221 ho222 => ?_)
    refine st_freeze (fun τ223 hl224 hg225 => ?_)
    have hs226 := ho222.freeze hl224 hg225
    exact hk _ _ hl224 ⟨v220, rfl, hs226⟩
   ·intro ρ' τ u Fv pq rs hl hI hu hd hq hw hk
    obtain ⟨_, e0, rfl⟩ := hd 0 rfl _ rfl
    obtain ⟨_, e7, v220, rfl, hs226⟩ := hd 7 rfl _ rfl
    have hI0 := hI
    obtain rfl := hI
    refine st_ord [5, 0, 0, 0, 0, 0, 0] _ rfl ?_
    refine o_append (dk := kS) (xs := s199.2) (ys := [r216]) rfl rfl rfl rfl z_slT70 e0 (ho202.up hl) e7 (Sl.src hs226) hf230 hf231 (fun v227 g228 ho229 => ?_)
    refine st_ord [1, 1, 1, 1, 0, 0, 0] _ rfl ?_
    exact hk _ _ [g228, [(b8, .cells #[v200] 70 (0, 0))]] LR trivial (by exact ⟨v227, g228, rfl, rfl, ho229⟩)
   intro ρ' τ235 vals u Fv hl235 hI hu hv hq
   obtain ⟨v232, g233, rfl, rfl, ho234⟩ := hI
   refine st_env (ρ' := [(2, .N0), (3, .Pb b8), (88, v197), (89, .I (r193.length : Int)), (90, .I s199.1), (102, v232)]) ⟨oT hq 2, oT hq 3, oT hq 88, oT hq 89, oT hq 90, (by exact hu _ rfl), trivial⟩ ?_
   refine o_store (j := 5) (vs := [v232]) (cs' := [v232]) rfl rfl rfl z_size70 rfl rfl (oneL_ow ho234) (ones_cons ho234.one' ones_nil) rfl rfl rfl (Z 6 ?_)
   refine st_ord [1, 4, 1, 1, 1] _ rfl ?_
   exact hn199 _ _ _ _ h ⟨(hl199.trans hl235), _, _, rfl, rfl, ho234⟩
  ·refine st_exit rfl ?_
   obtain rfl := he199 _ h
   replace h := hA199
   exact hk183 _ _ _ ⟨s199.2, _, _, h, (hl196.trans hl199), rfl, rfl, ho202⟩
 ·exact fun _ _ _ _ _ _ h => h.elim
theorem ref07_Digits_ok {a0 : Int} {r : ByteArray} (h : ref07_Digits a0 r) (σ : Sto)  :
    Does prog 79 [.I a0] σ [] (fun v τ gs => gs = [] ∧ .string r = v) := by
 refine CO func79 ntmps79 rfl (fun cs fs => Z 2 ?_)
 refine o_assign rfl rfl rfl (ev_str z_str19) (Z 7 ?_)
 refine I2 h (fun h => ?_) (fun h => ?_)
 ·refine Z 2 ?_
  refine o_assign rfl rfl rfl (ev_str z_str19) (Z 2 ?_)
  refine cutS σ (fun (s1 : K48) => ref07_Digits_j1 s1 r) (fun s1 => [(0, .I s1.1), (2, .E0), (3, .string s1.2)]) (fun s1 => []) (fun s1 τ1 h hl1 => (Z 3 ?_)) (fun hk1 => ?_)
  ·obtain ⟨hf2, h⟩ := h
   refine o_sadd rfl rfl rfl (ev_str z_str27) rfl hf2 (Z 2 ?_)
   obtain rfl := h.symm
   exact RT func79 rfl hl1 ⟨rfl, rfl⟩
  obtain ⟨e3, hL3, hA3⟩ := h
  refine st_loop hL3 (fun (s3 : K48) ρ τ3 gs => σ.Le τ3 ∧ ESub ρ [(0, .I s3.1), (2, .E0), (3, .string s3.2)] ∧ gs = []) ⟨LR, rfl, rfl⟩ ?_
  rintro s3 o3 h he3 ρ3 τ3 gs3 ⟨hl3, hρ, rfl⟩ hn3
  refine st_es hρ (Z 6 ?_)
  refine I2 h (fun h => ?_) (fun h => ?_)
  ·refine Z 8 ?_
   refine o_litE (eI .u8) [(u8.wrap (i64.wrap (48 - (s3.1.tmod 10))))] rfl rfl rfl z_slT158 z_zero5 ⟨rfl, ⟨_, rfl, rfl⟩, trivial⟩ rfl rfl rfl rfl (fun v4 g5 ho6 => ?_)
   refine st_freeze (fun τ7 hl8 hg9 => ?_)
   have hs10 := ho6.freeze hl8 hg9
   refine o_bstr (xs := [(u8.wrap (i64.wrap (48 - (s3.1.tmod 10))))]) rfl rfl rfl underlying158 underlying5 underlying9 rfl hs10 ?_
   refine o_move rfl rfl rfl rfl ?_
   obtain ⟨hf11, h⟩ := h
   refine o_sadd rfl rfl rfl rfl rfl hf11 (Z 8 ?_)
   exact hn3 _ _ _ _ h ⟨(hl3.trans hl8), rfl, rfl⟩
  ·refine st_exit rfl ?_
   obtain rfl := he3 _ h
   replace h := hA3
   exact hk1 _ _ _ ⟨(s3.1, s3.2), h, hl3, rfl, rfl⟩
 ·refine Z 3 ?_
  refine o_assign rfl rfl rfl (ev_str z_str19) (Z 2 ?_)
  refine cutS σ (fun (s13 : K48) => ref07_Digits_j3 s13 r) (fun s13 => [(0, .I s13.1), (2, .E0), (4, .string s13.2)]) (fun s13 => []) (fun s13 τ13 h hl13 => (Z 5 ?_)) (fun hk13 => ?_)
  ·refine o_litE (eI .u8) [(u8.wrap (i64.wrap (48 + s13.1)))] rfl rfl rfl z_slT158 z_zero5 ⟨rfl, ⟨_, rfl, rfl⟩, trivial⟩ rfl rfl rfl rfl (fun v14 g15 ho16 => ?_)
   refine st_freeze (fun τ17 hl18 hg19 => ?_)
   have hs20 := ho16.freeze hl18 hg19
   refine o_bstr (xs := [(u8.wrap (i64.wrap (48 + s13.1)))]) rfl rfl rfl underlying158 underlying5 underlying9 rfl hs20 ?_
   refine o_move rfl rfl rfl rfl ?_
   obtain ⟨hf21, h⟩ := h
   refine o_sadd rfl rfl rfl rfl rfl hf21 (Z 2 ?_)
   obtain rfl := h.symm
   exact RT func79 rfl (hl13.trans hl18) ⟨rfl, rfl⟩
  obtain ⟨e22, hL22, hA22⟩ := h
  refine st_loop hL22 (fun (s22 : K48) ρ τ22 gs => σ.Le τ22 ∧ ESub ρ [(0, .I s22.1), (2, .E0), (4, .string s22.2)] ∧ gs = []) ⟨LR, rfl, rfl⟩ ?_
  rintro s22 o22 h he22 ρ22 τ22 gs22 ⟨hl22, hρ, rfl⟩ hn22
  refine st_es hρ (Z 6 ?_)
  refine I2 h (fun h => ?_) (fun h => ?_)
  ·refine Z 8 ?_
   refine o_litE (eI .u8) [(u8.wrap (i64.wrap (48 + (s22.1.tmod 10))))] rfl rfl rfl z_slT158 z_zero5 ⟨rfl, ⟨_, rfl, rfl⟩, trivial⟩ rfl rfl rfl rfl (fun v23 g24 ho25 => ?_)
   refine st_freeze (fun τ26 hl27 hg28 => ?_)
   have hs29 := ho25.freeze hl27 hg28
   refine o_bstr (xs := [(u8.wrap (i64.wrap (48 + (s22.1.tmod 10))))]) rfl rfl rfl underlying158 underlying5 underlying9 rfl hs29 ?_
   refine o_move rfl rfl rfl rfl ?_
   obtain ⟨hf30, h⟩ := h
   refine o_sadd rfl rfl rfl rfl rfl hf30 (Z 8 ?_)
   exact hn22 _ _ _ _ h ⟨(hl22.trans hl27), rfl, rfl⟩
  ·refine st_exit rfl ?_
   obtain rfl := he22 _ h
   replace h := hA22
   exact hk13 _ _ _ ⟨(s22.1, s22.2), h, hl22, rfl, rfl⟩
theorem ref30_line_ok {a0 : ByteArray} {a1 : List Int} {v1 : Value} {r : ByteArray} (h : ref30_line a0 a1 r) (σ : Sto) (hs2 : Sl (kI .i64) σ v1 a1) :
    Does prog 62 [.string a0, v1] σ [] (fun v τ gs => gs = [] ∧ .string r = v) := by
 refine CO func62 ntmps62 rfl (fun cs fs => Z 2 ?_)
 refine o_assign rfl rfl rfl (ev_str z_str19) (Z 2 ?_)
 refine cutS σ (fun (s3 : ByteArray) => ref30_line_j1 s3 r) (fun s3 => [(0, .string s3), (4, .E0)]) (fun s3 => []) (fun s3 τ3 h hl3 => (Z 5 ?_)) (fun hk3 => ?_)
 ·obtain rfl := h.symm
  exact RT func62 rfl hl3 ⟨rfl, rfl⟩
 refine Z 4 ?_
 obtain ⟨e4, hL4, hA4⟩ := h
 refine st_loop hL4 (fun (s4 : ByteArray × Int) ρ τ4 gs => σ.Le τ4 ∧ ESub ρ [(0, .string s4.1), (1, v1), (4, .E0), (5, .I s4.2)] ∧ gs = []) ⟨LR, rfl, rfl⟩ ?_
 rintro s4 o4 h he4 ρ4 τ4 gs4 ⟨hl4, hρ, rfl⟩ hn4
 refine st_es hρ (Z 5 ?_)
 refine o_lenI rfl rfl rfl z_slT31 rfl (hs2.up hl4) (Z 2 ?_)
 refine I2 h (fun h => ?_) (fun h => ?_)
 ·refine Z 5 ?_
  obtain ⟨hf5, h⟩ := h
  refine o_sadd rfl rfl rfl rfl (ev_str z_str20) hf5 (Z 2 ?_)
  obtain ⟨q6, hf7, h⟩ := h
  refine o_index rfl rfl rfl z_slT31 rfl rfl (hs2.up hl4) rfl hf7 (fun b8 of9 vs hc10 hrep => ?_)
  obtain rfl := hrep
  refine o_loadI (v := .I q6) rfl rfl rfl z_sc3 rfl (hc10 0 _ rfl) ?_
  obtain ⟨r11, hr12, h⟩ := h
  refine SC z_en79 (ref07_Digits_ok hr12 τ4) ?_
  rintro _ τ13 _ hl14 ⟨rfl, rfl⟩
  obtain ⟨hf15, h⟩ := h
  refine o_sadd rfl rfl rfl rfl rfl hf15 (Z 8 ?_)
  exact hn4 _ _ _ _ h ⟨(hl4.trans hl14), rfl, rfl⟩
 ·refine st_exit rfl ?_
  obtain rfl := he4 _ h
  replace h := hA4
  exact hk3 _ _ _ ⟨s4.1, h, hl4, rfl, rfl⟩
theorem ref30_zones_ok {a0 : List (TyR) × List (Int × Int × List Int)} {a1 : Int} {v1 v2 : Value} {r : List Int} (h : ref30_zones a0 a1 r) (σ : Sto) (hs3 : Sl (kP (kI .i64) (kP (kA .i64 6) (kP (kSl (kA .i64 2)) (kP (kSl (kI .i64)) (kP kS kS))))) σ v1 a0.1) (hs4 : Sl (kP (kI .i64) (kP (kI .i64) (kSl (kI .i64)))) σ v2 a0.2) :
    Does prog 63 [.agg [v1, v2].toArray, .I a1] σ [] (fun v τ gs => ∃ (v111 : Value), gs = [] ∧ v111 = v ∧ Sl (kI .i64) τ v111 r) := by
 refine CO func63 ntmps63 rfl (fun cs fs => Z 2 ?_)
 refine o_box (cs := [v1, v2]) rfl rfl rfl rfl rfl (fun b5 => Z 7 ?_)
 refine st_cut (fun ρ τ6 gs => ∃ (s6 : List Int) (v7 : Value) (g8 : Grp), ref30_zones_j1 s6 r ∧ σ.Le τ6 ∧ ESub ρ [(4, .N0), (5, v7)] ∧ gs = [g8] ∧ Ow (kI .i64) 3 τ6 v7 s6 g8) ?_ (fun hk6 => ?_)
 ·rintro ρ6 τ6 gs6 ⟨s6, v7, g8, h, hl6, hρ, rfl, ho9⟩
  refine st_es hρ (Z 5 ?_)
  refine st_freeze (fun τ10 hl11 hg12 => ?_)
  have hs13 := ho9.freeze hl11 hg12
  obtain rfl := h.symm
  exact RT func63 rfl (hl6.trans hl11) ⟨_, rfl, rfl, hs13⟩
 refine Z 4 ?_
 obtain ⟨e16, hL16, hA16⟩ := h
 refine st_addNil ?_
 refine st_ord [1, 0] _ rfl ?_
 refine st_loop hL16 (fun (s16 : K34) ρ τ16 gs => σ.Le τ16 ∧ ∃ (v17 : Value) (g18 : Grp), ESub ρ [(1, .I a1), (2, .Pb b5), (4, .N0), (5, v17), (6, .I s16.2)] ∧ gs = [[(b5, .cells #[v1, v2] 28 (0, 0))], g18] ∧ Ow (kI .i64) 3 τ16 v17 s16.1 g18) ⟨LR, _, _, rfl, rfl, Ow.nil⟩ ?_
 rintro s16 o16 h he16 ρ16 τ16 gs16 ⟨hl16, v17, g18, hρ, rfl, ho19⟩ hn16
 refine st_es hρ (ZZ 6 [0] ?_)
 refine o_lenI rfl rfl rfl z_slT26 rfl (hs4.up hl16) (Z 2 ?_)
 refine I2 h (fun h => ?_) (fun h => ?_)
 ·refine Z 2 ?_
  refine st_cut (fun ρ τ20 gs => ∃ (s20 : List Int) (v21 : Value) (g22 : Grp), ref30_zones_j3 s16 s20 o16 ∧ τ16.Le τ20 ∧ ESub ρ [(1, .I a1), (2, .Pb b5), (4, .N0), (5, v21), (6, .I s16.2)] ∧ gs = [[(b5, .cells #[v1, v2] 28 (0, 0))], g22] ∧ Ow (kI .i64) 3 τ20 v21 s20 g22) ?_ (fun hk20 => ?_)
  ·rintro ρ20 τ20 gs20 ⟨s20, v21, g22, h, hl20, hρ, rfl, ho23⟩
   refine st_es hρ (Z 5 ?_)
   exact hn16 _ _ _ _ h ⟨(hl16.trans hl20), _, _, rfl, rfl, ho23⟩
  refine ZZ 7 [0] ?_
  obtain ⟨q24, hf25, h⟩ := h
  refine o_index rfl rfl rfl z_slT26 rfl rfl (hs4.up hl16) rfl hf25 (fun b26 of27 vs hc29 hrep => ?_)
  obtain ⟨_, _, rfl, rfl, ⟨_, _, rfl, rfl, ⟨v28, rfl, hs30⟩⟩⟩ := hrep
  refine o_fieldAddr rfl rfl rfl z_field80_0 rfl ?_
  refine o_loadI (v := .I q24.1) rfl rfl rfl z_sc3 rfl (hc29 0 _ rfl) (Z 3 ?_)
  refine I2 h (fun h => ?_) (fun h => ?_)
  ·refine st_exit rfl ?_
   exact hk20 _ _ _ ⟨s16.1, _, _, h, LR, rfl, rfl, ho19⟩
  ·refine Z 6 ?_
   refine cutS τ16 (fun (s31 : Int) => ref30_zones_j4 a0 s16 s31 o16) (fun s31 => [(1, .I a1), (2, .Pb b5), (4, .N0), (5, v17), (6, .I s16.2), (7, .I s31)]) (fun s31 => [[(b5, .cells #[v1, v2] 28 (0, 0))], g18]) (fun s31 τ31 h hl31 => ?_) (fun hk31 => ?_)
   ·obtain ⟨hf42, hf43, hf49, hf50, q54, hf55, hf72, hf73, hf77, hf78, hf79, hf85, hf86, h⟩ := h
    refine st_ord [1, 0] _ rfl ?_
    refine st_freeze (fun τ32 hl33 hg34 => ?_)
    have hs35 := ho19.freeze (hl31.trans hl33) hg34
    refine st_d41 [[(b5, .cells #[v1, v2] 28 (0, 0))]] [] 17 4 [some (0, 0), none, none, none, some (0, 1), none, none, none, none, none, none, none, some (0, 2), none, none, none, some (0, 3)] [none, none, none, none, none, none, none, none, none, none, none, none, none, none, none, none, none] [[none, some 42, some 46, some 54, some 58]] [.t fun _ _ => True, .v (v17), .v (.I s31), .t fun τ v => ∃ (v44 : Value), (v44 : Value) = v ∧ Sl (kI .i64) τ v44 ((s16.1.drop (0 : Int).toNat).take ((s31 : Int) - 0).toNat), .t fun _ _ => True, .v (.pointer (some ⟨b5, 1, none⟩)), .v (v2), .v (.I s16.2), .t fun τ v => ∃ (b56 of57 : Nat) (vsb56 : K4), (.pointer (some ⟨b56, of57, none⟩) : Value) = v ∧ CelN τ ⟨b56, of57, none⟩ vsb56 ∧ (kP (kI .i64) (kP (kI .i64) (kSl (kI .i64)))).rep τ vsb56 q54, .t fun τ v => ∃ (b56 of57 : Nat) (vsb56 : K4), (.pointer (some ⟨b56, of57 + 1, none⟩) : Value) = v ∧ CelN τ ⟨b56, of57, none⟩ vsb56 ∧ (kP (kI .i64) (kP (kI .i64) (kSl (kI .i64)))).rep τ vsb56 q54, .v (.I q54.2.1), .t fun τ v => ∃ (v62 : Value), (v62 : Value) = v ∧ Sl (kI .i64) τ v62 [q54.2.1], .t fun _ _ => True, .v (v17), .v (.I s31), .t fun τ v => ∃ (v80 : Value), (v80 : Value) = v ∧ Sl (kI .i64) τ v80 ((s16.1.drop s31.toNat).take (((s16.1.length : Int) : Int) - s31).toNat), .t fun _ _ => True] [[fun τ u F => F = [], fun τ u F => ∃ (v39 : Value) (g40 : Grp), F = [g40] ∧ v39 = u ∧ Ow (kI .i64) 3 τ v39 ([] : List Int) g40, fun τ u F => ∃ (v51 : Value) (g52 : Grp), F = [g52] ∧ v51 = u ∧ Ow (kI .i64) 3 τ v51 (([] : List Int) ++ ((s16.1.drop (0 : Int).toNat).take ((s31 : Int) - 0).toNat)) g52, fun τ u F => ∃ (v74 : Value) (g75 : Grp), F = [g75] ∧ v74 = u ∧ Ow (kI .i64) 3 τ v74 ((([] : List Int) ++ ((s16.1.drop (0 : Int).toNat).take ((s31 : Int) - 0).toNat)) ++ [q54.2.1]) g75, fun τ u F => ∃ (v87 : Value) (g88 : Grp), F = [g88] ∧ v87 = u ∧ Ow (kI .i64) 3 τ v87 (((([] : List Int) ++ ((s16.1.drop (0 : Int).toNat).take ((s31 : Int) - 0).toNat)) ++ [q54.2.1]) ++ ((s16.1.drop s31.toNat).take (((s16.1.length : Int) : Int) - s31).toNat)) g88]] rfl z_mix rfl ⟨fun _ _ _ _ _ => trivial, ⟨fun _ _ _ hl ⟨v44, hv, hs45⟩ => ⟨v44, hv, hs45.up hl⟩, ⟨fun _ _ _ _ _ => trivial, ⟨fun _ _ _ hl ⟨b56, of57, vsb56, hv, hc59, hrepb56⟩ => ⟨b56, of57, vsb56, hv, hc59.up hl, Kd.mono _ hl hrepb56⟩, ⟨fun _ _ _ hl ⟨b56, of57, vsb56, hv, hc59, hrepb56⟩ => ⟨b56, of57, vsb56, hv, hc59.up hl, Kd.mono _ hl hrepb56⟩, ⟨fun _ _ _ hl ⟨v62, hv, hs68⟩ => ⟨v62, hv, hs68.up hl⟩, ⟨fun _ _ _ _ _ => trivial, ⟨fun _ _ _ hl ⟨v80, hv, hs81⟩ => ⟨v80, hv, hs81.up hl⟩, ⟨fun _ _ _ _ _ => trivial, trivial⟩⟩⟩⟩⟩⟩⟩⟩⟩ ⟨⟨fun _ _ _ _ hl h => h, ⟨fun _ _ _ _ hl h => (let ⟨v39, g40, hF, hU, ho41⟩ := h; ⟨v39, g40, hF, hU, ho41.up hl⟩), ⟨fun _ _ _ _ hl h => (let ⟨v51, g52, hF, hU, ho53⟩ := h; ⟨v51, g52, hF, hU, ho53.up hl⟩), ⟨fun _ _ _ _ hl h => (let ⟨v74, g75, hF, hU, ho76⟩ := h; ⟨v74, g75, hF, hU, ho76.up hl⟩), ⟨fun _ _ _ _ hl h => (let ⟨v87, g88, hF, hU, ho89⟩ := h; ⟨v87, g88, hF, hU, ho89.up hl⟩), trivial⟩⟩⟩⟩⟩, trivial⟩ rfl rfl ?_ (allB_cons (allB_cons (allB_cons (allB_cons (allB_cons (allB_cons (allB_cons (allB_cons (allB_cons (allB_cons (allB_cons (allB_cons (allB_cons (allB_cons (allB_cons (allB_cons (allB_cons allB_nil ?_) (p4 dA)) (p4 dA)) ?_) ?_) (p4 dA)) ?_) (p4 dA)) ?_) ?_) ?_) ?_) ?_) (p4 dA)) (p4 dA)) ?_) ?_) ?_
    ·exact rfl
    ·intro ρ' τ u Fv pq rs hl hI hu hd hq hw hk
     have hI0 := hI
     obtain rfl := hI
     refine o_lit (dk := (kI .i64)) (xs := ([] : List Int)) (ps := []) (cs := []) rfl rfl rfl z_slT31 z_zero3 trivial rfl rfl rfl rfl Kd.Many.nil (fun v36 g37 ho38 => ?_)
     refine st_ord [1, 0, 0] _ rfl ?_
     exact hk _ _ [g37] LR trivial (by exact ⟨v36, g37, rfl, rfl, ho38⟩)
    ·intro ρ' τ pq rs hl hd hq hw hk
     obtain ⟨_, e1, rfl⟩ := hd 1 rfl _ rfl
     obtain ⟨_, e2, rfl⟩ := hd 2 rfl _ rfl
     refine o_slice (L := 0) (H := s31) rfl rfl rfl z_slT31 rfl e1 (hs35.up hl) rfl ⟨_, e2⟩ (by decide) hf42 hf43 trivial (by simp) (fun v44 hs45 => ?_)
     exact hk _ _ LR ⟨v44, rfl, hs45⟩
    ·intro ρ' τ u Fv pq rs hl hI hu hd hq hw hk
     obtain ⟨_, e3, v44, rfl, hs45⟩ := hd 3 rfl _ rfl
     obtain ⟨v39, g40, rfl, rfl, ho41⟩ := hI
     refine st_ord [1, 0, 0] _ rfl ?_
     refine o_append (dk := (kI .i64)) (xs := ([] : List Int)) (ys := ((s16.1.drop (0 : Int).toNat).take ((s31 : Int) - 0).toNat)) rfl rfl rfl rfl z_slT31 (hu (by decide) _ rfl) ho41 e3 (Sl.src hs45) hf49 hf50 (fun v46 g47 ho48 => ?_)
     refine st_ord [1, 0, 0] _ rfl ?_
     exact hk _ _ [g47] LR trivial (by exact ⟨v46, g47, rfl, rfl, ho48⟩)
    ·intro ρ' τ pq rs hl hd hq hw hk
     obtain ⟨_, e5, rfl⟩ := hd 5 rfl _ rfl
     refine o_load (j := 0) (v := v2) rfl rfl rfl z_sc26 e5 rfl rfl ?_
     exact hk _ _ LR rfl
    ·intro ρ' τ pq rs hl hd hq hw hk
     obtain ⟨_, e6, rfl⟩ := hd 6 rfl _ rfl
     obtain ⟨_, e7, rfl⟩ := hd 7 rfl _ rfl
     refine o_index rfl rfl rfl z_slT26 rfl e6 (hs4.up (((hl16.trans hl31).trans hl33).trans hl)) e7 hf55 (fun b56 of57 vsb56 hc59 hrepb56 => ?_)
     exact hk _ _ LR ⟨b56, of57, _, rfl, hc59, hrepb56⟩
    ·intro ρ' τ pq rs hl hd hq hw hk
     obtain ⟨_, e8, b56, of57, vsb56, rfl, hc59, hrepb56⟩ := hd 8 rfl _ rfl
     have hrepb56 := hrepb56
     obtain ⟨_, _, rfl, rfl, ⟨_, _, rfl, rfl, ⟨v58, rfl, hs61⟩⟩⟩ := hrepb56
     refine o_fieldAddr rfl rfl rfl z_field80_1 e8 ?_
     exact hk _ _ LR ⟨b56, of57, _, rfl, hc59, hrepb56⟩
    ·intro ρ' τ pq rs hl hd hq hw hk
     obtain ⟨_, e9, b56, of57, vsb56, rfl, hc59, hrepb56⟩ := hd 9 rfl _ rfl
     have hrepb56 := hrepb56
     obtain ⟨_, _, rfl, rfl, ⟨_, _, rfl, rfl, ⟨v58, rfl, hs61⟩⟩⟩ := hrepb56
     refine o_loadI (v := .I q54.2.1) rfl rfl rfl z_sc3 e9 (hc59 1 _ rfl) ?_
     exact hk _ _ LR rfl
    ·intro ρ' τ pq rs hl hd hq hw hk
     obtain ⟨_, e10, rfl⟩ := hd 10 rfl _ rfl
     refine o_litE (eI .i64) [q54.2.1] rfl rfl rfl z_slT31 z_zero3 ⟨rfl, ⟨_, e10, rfl⟩, trivial⟩ rfl rfl rfl rfl (fun v62 g63 ho64 => ?_)
     refine st_freeze (fun τ65 hl66 hg67 => ?_)
     have hs68 := ho64.freeze hl66 hg67
     exact hk _ _ hl66 ⟨v62, rfl, hs68⟩
    ·intro ρ' τ u Fv pq rs hl hI hu hd hq hw hk
     obtain ⟨_, e11, v62, rfl, hs68⟩ := hd 11 rfl _ rfl
     obtain ⟨v51, g52, rfl, rfl, ho53⟩ := hI
     refine st_ord [1, 0, 0] _ rfl ?_
     refine o_append (dk := (kI .i64)) (xs := (([] : List Int) ++ ((s16.1.drop (0 : Int).toNat).take ((s31 : Int) - 0).toNat))) (ys := [q54.2.1]) rfl rfl rfl rfl z_slT31 (hu (by decide) _ rfl) ho53 e11 (Sl.src hs68) hf72 hf73 (fun v69 g70 ho71 => ?_)
     refine st_ord [1, 0, 0] _ rfl ?_
     exact hk _ _ [g70] LR trivial (by exact ⟨v69, g70, rfl, rfl, ho71⟩)
    ·intro ρ' τ pq rs hl hd hq hw hk
     obtain ⟨_, e13, rfl⟩ := hd 13 rfl _ rfl
     obtain ⟨_, e14, rfl⟩ := hd 14 rfl _ rfl
     refine o_slice (L := s31) (H := (s16.1.length : Int)) rfl rfl rfl z_slT31 rfl e13 (hs35.up hl) ⟨_, e14⟩ rfl hf77 hf78 hf79 trivial (by simp) (fun v80 hs81 => ?_)
     exact hk _ _ LR ⟨v80, rfl, hs81⟩
    ·intro ρ' τ u Fv pq rs hl hI hu hd hq hw hk
     obtain ⟨_, e15, v80, rfl, hs81⟩ := hd 15 rfl _ rfl
     obtain ⟨v74, g75, rfl, rfl, ho76⟩ := hI
     refine st_ord [1, 0, 0] _ rfl ?_
     refine o_append (dk := (kI .i64)) (xs := ((([] : List Int) ++ ((s16.1.drop (0 : Int).toNat).take ((s31 : Int) - 0).toNat)) ++ [q54.2.1])) (ys := ((s16.1.drop s31.toNat).take (((s16.1.length : Int) : Int) - s31).toNat)) rfl rfl rfl rfl z_slT31 (hu (by decide) _ rfl) ho76 e15 (Sl.src hs81) hf85 hf86 (fun v82 g83 ho84 => ?_)
     refine st_ord [1, 0, 0] _ rfl ?_
     exact hk _ _ [g83] LR trivial (by exact ⟨v82, g83, rfl, rfl, ho84⟩)
    intro ρ' τ90 vals u Fv hl90 hI hu hv hq
    obtain ⟨v87, g88, rfl, rfl, ho89⟩ := hI
    refine st_env (ρ' := [(1, .I a1), (2, .Pb b5), (4, .N0), (6, .I s16.2), (58, v87)]) ⟨oT hq 1, oT hq 2, oT hq 4, oT hq 6, (by exact hu _ rfl), trivial⟩ (Z 3 ?_)
    exact hk20 _ _ _ ⟨(((([] : List Int) ++ ((s16.1.drop (0 : Int).toNat).take ((s31 : Int) - 0).toNat)) ++ [q54.2.1]) ++ ((s16.1.drop s31.toNat).take (((s16.1.length : Int) : Int) - s31).toNat)), _, _, h, ((hl31.trans hl33).trans hl90), rfl, rfl, ho89⟩
   obtain ⟨e91, hL91, hA91⟩ := h
   refine st_loop hL91 (fun (s91 : Int) ρ τ91 gs => τ16.Le τ91 ∧ ESub ρ [(1, .I a1), (2, .Pb b5), (4, .N0), (5, v17), (6, .I s16.2), (7, .I s91)] ∧ gs = [[(b5, .cells #[v1, v2] 28 (0, 0))], g18]) ⟨LR, rfl, rfl⟩ ?_
   rintro s91 o91 h he91 ρ91 τ91 gs91 ⟨hl91, hρ, rfl⟩ hn91
   refine st_es hρ (Z 2 ?_)
   obtain ⟨q93, hf94, q100, hf101, h⟩ := h
   let cc92 : Prop := (decide (s91 < (s16.1.length : Int))) = true
   refine st_draw 17 (dl [.v (.I s91), .v (v17), .v (.I (s16.1.length : Int)), .v (.bool (decide (s91 < (s16.1.length : Int)))), .v (.bool (decide (s91 < (s16.1.length : Int)))), .g cc92 (v17), .g cc92 (.I s91), .h cc92 fun τ v => ∃ (b95 : Nat), (.pointer (some ⟨b95, s91.toNat * 1, none⟩) : Value) = v ∧ (∃ n cap, v17 = .slice (some ⟨b95, 0, none⟩) n cap), .g cc92 (.I q93), .g cc92 (.pointer (some ⟨b5, 1, none⟩)), .g cc92 (v2), .g cc92 (.I s16.2), .h cc92 fun τ v => ∃ (b102 of103 : Nat) (vsb102 : K4), (.pointer (some ⟨b102, of103, none⟩) : Value) = v ∧ CelN τ ⟨b102, of103, none⟩ vsb102 ∧ (kP (kI .i64) (kP (kI .i64) (kSl (kI .i64)))).rep τ vsb102 q100, .h cc92 fun τ v => ∃ (b102 of103 : Nat) (vsb102 : K4), (.pointer (some ⟨b102, of103 + 1, none⟩) : Value) = v ∧ CelN τ ⟨b102, of103, none⟩ vsb102 ∧ (kP (kI .i64) (kP (kI .i64) (kSl (kI .i64)))).rep τ vsb102 q100, .g cc92 (.I q100.2.1), .g cc92 (.bool (decide (q93 < q100.2.1))), .v (.bool ((decide (s91 < (s16.1.length : Int))) && (decide (q93 < q100.2.1))))]) (fun _ _ => []) z_mix rfl (dl_mono ⟨fun _ _ _ hl ⟨b95, hv, hb96⟩ => ⟨b95, hv, hb96⟩, ⟨fun _ _ _ hl ⟨b102, of103, vsb102, hv, hc105, hrepb102⟩ => ⟨b102, of103, vsb102, hv, hc105.up hl, Kd.mono _ hl hrepb102⟩, ⟨fun _ _ _ hl ⟨b102, of103, vsb102, hv, hc105, hrepb102⟩ => ⟨b102, of103, vsb102, hv, hc105.up hl, Kd.mono _ hl hrepb102⟩, trivial⟩⟩⟩) (allB_cons (allB_cons (allB_cons (allB_cons (allB_cons (allB_cons (allB_cons (allB_cons (allB_cons (allB_cons (allB_cons (allB_cons (allB_cons (allB_cons (allB_cons (allB_cons (allB_cons allB_nil (p1 dA)) (p1 dA)) ?_) (p1 dA)) (p1 dA)) (p1 (dG []))) (p1 (dG []))) ?_) ?_) (p1 (dG []))) ?_) (p1 (dG []))) ?_) ?_) ?_) (p1 (dG [8, 14]))) (p1 dK)) ?_
   ·intro ρ' τ pq rs hl hd hq hk
    obtain ⟨_, e1, rfl⟩ := hd 1 rfl
    refine o_lenO rfl rfl rfl z_slT31 e1 (ho19.up (hl91.trans hl)) ?_
    exact st_addNil (hk _ _ LR rfl)
   ·intro ρ' τ pq rs hl hd hq hk
    obtain ⟨_, e4, rfl⟩ := hd 4 rfl
    obtain ⟨w5, e5, t5⟩ := hd 5 rfl
    obtain ⟨w6, e6, t6⟩ := hd 6 rfl
    by_cases hG : (decide (s91 < (s16.1.length : Int))) = true
    ·have hC := hG
     replace hf94 := hf94 hC
     obtain ⟨rfl⟩ := t5.1 hC
     obtain ⟨rfl⟩ := t6.1 hC
     refine o_indexOw rfl (wants_of rfl e4 hG) rfl z_slT31 rfl e5 (ho19.up (hl91.trans hl)) e6 hf94 (fun b95 hb96 => ?_)
     exact st_addNil (hk _ _ LR ⟨fun _ => ⟨b95, rfl, hb96⟩, fun hn => absurd hC hn⟩)
    ·refine st_pass rfl rfl rfl e4 (beq_off hG) rfl ?_
     exact st_addNil (hk _ _ LR ⟨fun h => absurd h hG, fun _ => rfl⟩)
   ·intro ρ' τ pq rs hl hd hq hk
    obtain ⟨_, e4, rfl⟩ := hd 4 rfl
    obtain ⟨w7, e7, t7⟩ := hd 7 rfl
    by_cases hG : (decide (s91 < (s16.1.length : Int))) = true
    ·have hC := hG
     obtain ⟨b95, rfl, hb96⟩ := t7.1 hC
     replace hf94 := hf94 hC
     obtain ⟨vs97, hrep98, hat99⟩ := Ow.at (ho19.up (hl91.trans hl)) hb96 hf94
     obtain rfl := hrep98
     refine o_loadOw (off := 0) (j := 1) (v := .I q93) rfl (wants_of rfl e4 hG) rfl z_sc3 e7 hat99 rfl rfl ?_
     exact st_addNil (hk _ _ LR ⟨fun _ => rfl, fun hn => absurd hC hn⟩)
    ·refine st_pass rfl rfl rfl e4 (beq_off hG) rfl ?_
     exact st_addNil (hk _ _ LR ⟨fun h => absurd h hG, fun _ => rfl⟩)
   ·intro ρ' τ pq rs hl hd hq hk
    obtain ⟨_, e4, rfl⟩ := hd 4 rfl
    obtain ⟨w9, e9, t9⟩ := hd 9 rfl
    by_cases hG : (decide (s91 < (s16.1.length : Int))) = true
    ·have hC := hG
     obtain ⟨rfl⟩ := t9.1 hC
     refine o_load (j := 0) (v := v2) rfl (wants_of rfl e4 hG) rfl z_sc26 e9 rfl rfl ?_
     exact st_addNil (hk _ _ LR ⟨fun _ => rfl, fun hn => absurd hC hn⟩)
    ·refine st_pass rfl rfl rfl e4 (beq_off hG) rfl ?_
     exact st_addNil (hk _ _ LR ⟨fun h => absurd h hG, fun _ => rfl⟩)
   ·intro ρ' τ pq rs hl hd hq hk
    obtain ⟨_, e4, rfl⟩ := hd 4 rfl
    obtain ⟨w10, e10, t10⟩ := hd 10 rfl
    obtain ⟨w11, e11, t11⟩ := hd 11 rfl
    by_cases hG : (decide (s91 < (s16.1.length : Int))) = true
    ·have hC := hG
     replace hf101 := hf101 hC
     obtain ⟨rfl⟩ := t10.1 hC
     obtain ⟨rfl⟩ := t11.1 hC
     refine o_index rfl (wants_of rfl e4 hG) rfl z_slT26 rfl e10 (hs4.up ((hl16.trans hl91).trans hl)) e11 hf101 (fun b102 of103 vsb102 hc105 hrepb102 => ?_)
     exact st_addNil (hk _ _ LR ⟨fun _ => ⟨b102, of103, _, rfl, hc105, hrepb102⟩, fun hn => absurd hC hn⟩)
    ·refine st_pass rfl rfl rfl e4 (beq_off hG) rfl ?_
     exact st_addNil (hk _ _ LR ⟨fun h => absurd h hG, fun _ => rfl⟩)
   ·intro ρ' τ pq rs hl hd hq hk
    obtain ⟨_, e4, rfl⟩ := hd 4 rfl
    obtain ⟨w12, e12, t12⟩ := hd 12 rfl
    by_cases hG : (decide (s91 < (s16.1.length : Int))) = true
    ·have hC := hG
     obtain ⟨b102, of103, vsb102, rfl, hc105, hrepb102⟩ := t12.1 hC
     have hrepb102 := hrepb102
     obtain ⟨_, _, rfl, rfl, ⟨_, _, rfl, rfl, ⟨v104, rfl, hs107⟩⟩⟩ := hrepb102
     refine o_fieldAddr rfl (wants_of rfl e4 hG) rfl z_field80_1 e12 ?_
     exact st_addNil (hk _ _ LR ⟨fun _ => ⟨b102, of103, _, rfl, hc105, hrepb102⟩, fun hn => absurd hC hn⟩)
    ·refine st_pass rfl rfl rfl e4 (beq_off hG) rfl ?_
     exact st_addNil (hk _ _ LR ⟨fun h => absurd h hG, fun _ => rfl⟩)
   ·intro ρ' τ pq rs hl hd hq hk
    obtain ⟨_, e4, rfl⟩ := hd 4 rfl
    obtain ⟨w13, e13, t13⟩ := hd 13 rfl
    by_cases hG : (decide (s91 < (s16.1.length : Int))) = true
    ·have hC := hG
     obtain ⟨b102, of103, vsb102, rfl, hc105, hrepb102⟩ := t13.1 hC
     have hrepb102 := hrepb102
     obtain ⟨_, _, rfl, rfl, ⟨_, _, rfl, rfl, ⟨v104, rfl, hs107⟩⟩⟩ := hrepb102
     refine o_loadI (v := .I q100.2.1) rfl (wants_of rfl e4 hG) rfl z_sc3 e13 (hc105 1 _ rfl) ?_
     exact st_addNil (hk _ _ LR ⟨fun _ => rfl, fun hn => absurd hC hn⟩)
    ·refine st_pass rfl rfl rfl e4 (beq_off hG) rfl ?_
     exact st_addNil (hk _ _ LR ⟨fun h => absurd h hG, fun _ => rfl⟩)
   intro ρ' τ108 vals hl108 hv hq
   refine st_ord [0, 0] _ rfl ?_
   refine st_env (ρ' := [(39, .bool ((decide (s91 < (s16.1.length : Int))) && (decide (q93 < q100.2.1)))), (1, .I a1), (2, .Pb b5), (4, .N0), (5, v17), (6, .I s16.2), (7, .I s91)]) ⟨(lv1 hv 16 rfl rfl), oT hq 1, oT hq 2, oT hq 4, oT hq 5, oT hq 6, oT hq 7, trivial⟩ ?_
   refine st_end ?_
   refine I2 h (fun h => ?_) (fun h => ?_)
   ·refine Z 8 ?_
    exact hn91 _ _ _ _ h ⟨(hl91.trans hl108), rfl, rfl⟩
   ·refine st_exit rfl ?_
    obtain rfl := he91 _ h
    replace h := hA91
    exact hk31 _ _ _ ⟨s91, h, (hl91.trans hl108), rfl, rfl⟩
 ·refine st_exit rfl ?_
  obtain rfl := he16 _ h
  replace h := hA16
  refine st_ord [1] _ rfl ?_
  exact hk6 _ _ _ ⟨s16.1, _, _, h, hl16, rfl, rfl, ho19⟩
theorem ref30_Lines_ok {a0 : List (TyR) × List (Int × Int × List Int)} {v1 v2 : Value} {r : List ByteArray} (h : ref30_Lines a0 r) (σ : Sto) (hs3 : Sl (kP (kI .i64) (kP (kA .i64 6) (kP (kSl (kA .i64 2)) (kP (kSl (kI .i64)) (kP kS kS))))) σ v1 a0.1) (hs4 : Sl (kP (kI .i64) (kP (kI .i64) (kSl (kI .i64)))) σ v2 a0.2) :
    Does prog 36 [.agg [v1, v2].toArray] σ [] (fun v τ gs => ∃ (v252 : Value), gs = [] ∧ v252 = v ∧ Sl kS τ v252 r) := by
 refine CO func36 ntmps36 rfl (fun cs fs => Z 2 ?_)
 refine o_box (cs := [v1, v2]) rfl rfl rfl rfl rfl (fun b5 => ZZ 9 [0] ?_)
 obtain ⟨r6, hr7, h⟩ := h
 refine SC z_en16 (ref30_Robots_ok hr7 σ hs3 hs4) ?_
 rintro _ τ8 _ hl9 ⟨v10, rfl, rfl, hs11⟩
 refine Z 3 ?_
 refine st_cut (fun ρ τ12 gs => ∃ (s12 : K20) (v13 : Value) (g14 : Grp), ref30_Lines_j1 a0 s12 r ∧ τ8.Le τ12 ∧ ESub ρ [(1, .Pb b5), (2, .N0), (3, v13)] ∧ gs = [[(b5, .cells #[v1, v2] 28 (0, 0))], g14] ∧ Ow kS 9 τ12 v13 s12 g14) ?_ (fun hk12 => ?_)
 ·rintro ρ12 τ12 gs12 ⟨s12, v13, g14, h, hl12, hρ, rfl, ho15⟩
  refine st_es hρ (ZZ 3 [0] ?_)
  obtain ⟨r16, hr17, h⟩ := h
  refine SC z_en34 (ref30_Contested_ok hr17 τ12 (hs3.up (hl9.trans hl12)) (hs4.up (hl9.trans hl12))) ?_
  rintro _ τ18 _ hl19 ⟨v20, rfl, rfl, hs21⟩
  refine Z 3 ?_
  refine st_cut (fun ρ τ22 gs => ∃ (s22 : K20) (v23 : Value) (g24 : Grp), ref30_Lines_j2 s22 r ∧ τ18.Le τ22 ∧ ESub ρ [(2, .N0), (3, v23)] ∧ gs = [g24] ∧ Ow kS 9 τ22 v23 s22 g24) ?_ (fun hk22 => ?_)
  ·rintro ρ22 τ22 gs22 ⟨s22, v23, g24, h, hl22, hρ, rfl, ho25⟩
   refine st_es hρ (Z 5 ?_)
   refine st_freeze (fun τ26 hl27 hg28 => ?_)
   have hs29 := ho25.freeze hl27 hg28
   obtain rfl := h.symm
   exact RT func36 rfl ((((hl9.trans hl12).trans hl19).trans hl22).trans hl27) ⟨_, rfl, rfl, hs29⟩
  refine Z 4 ?_
  obtain ⟨e32, hL32, hA32⟩ := h
  refine st_ord [1] _ rfl ?_
  refine st_loop hL32 (fun (s32 : K33) ρ τ32 gs => τ18.Le τ32 ∧ ∃ (v33 : Value) (g34 : Grp), ESub ρ [(2, .N0), (3, v33), (10, v20), (11, .I s32.2)] ∧ gs = [g34] ∧ Ow kS 9 τ32 v33 s32.1 g34) ⟨LR, _, _, rfl, rfl, (ho15.up hl19)⟩ ?_
  rintro s32 o32 h he32 ρ32 τ32 gs32 ⟨hl32, v33, g34, hρ, rfl, ho35⟩ hn32
  refine st_es hρ (Z 5 ?_)
  refine o_lenI rfl rfl rfl z_slT39 rfl (hs21.up hl32) (Z 2 ?_)
  refine I2 h (fun h => ?_) (fun h => ?_)
  ·refine Z 3 ?_
   obtain ⟨q36, hf37, q41, hf42, r53, hr54, hf67, hf68, h⟩ := h
   refine st_d41 [] [g34] 15 1 [none, none, none, none, none, none, none, none, none, none, none, none, none, none, some (0, 0)] [none, none, none, none, none, none, none, none, none, none, none, none, none, none, none] [[none, some 133]] [.v (v33), .v (v20), .v (.I s32.2), .t fun τ v => ∃ (b38 of39 : Nat) (vsb38 : K4), (.pointer (some ⟨b38, of39, none⟩) : Value) = v ∧ CelN τ ⟨b38, of39, none⟩ vsb38 ∧ (kA .i64 2).rep τ vsb38 q36, .t fun τ v => ∃ (b38 of39 : Nat) (vsb38 : K4), (.pointer (some ⟨b38, of39 + (0 : Int).toNat * 1, none⟩) : Value) = v ∧ CelN τ ⟨b38, of39, none⟩ vsb38 ∧ (kA .i64 2).rep τ vsb38 q36, .v (.I (q36.getD 0 0)), .v (v20), .v (.I s32.2), .t fun τ v => ∃ (b43 of44 : Nat) (vsb43 : K4), (.pointer (some ⟨b43, of44, none⟩) : Value) = v ∧ CelN τ ⟨b43, of44, none⟩ vsb43 ∧ (kA .i64 2).rep τ vsb43 q41, .t fun τ v => ∃ (b43 of44 : Nat) (vsb43 : K4), (.pointer (some ⟨b43, of44 + (1 : Int).toNat * 1, none⟩) : Value) = v ∧ CelN τ ⟨b43, of44, none⟩ vsb43 ∧ (kA .i64 2).rep τ vsb43 q41, .v (.I (q41.getD 1 0)), .t fun τ v => ∃ (v46 : Value), (v46 : Value) = v ∧ Sl (kI .i64) τ v46 [(q36.getD 0 0), (q41.getD 1 0)], .v (.string r53), .t fun τ v => ∃ (v57 : Value), (v57 : Value) = v ∧ Sl kS τ v57 [r53], .t fun _ _ => True] [[fun τ u F => F = [g34], fun τ u F => ∃ (v69 : Value) (g70 : Grp), F = [g70] ∧ v69 = u ∧ Ow kS 9 τ v69 (s32.1 ++ [r53]) g70]] rfl z_mix rfl ⟨fun _ _ _ hl ⟨b38, of39, vsb38, hv, hc40, hrepb38⟩ => ⟨b38, of39, vsb38, hv, hc40.up hl, Kd.mono _ hl hrepb38⟩, ⟨fun _ _ _ hl ⟨b38, of39, vsb38, hv, hc40, hrepb38⟩ => ⟨b38, of39, vsb38, hv, hc40.up hl, Kd.mono _ hl hrepb38⟩, ⟨fun _ _ _ hl ⟨b43, of44, vsb43, hv, hc45, hrepb43⟩ => ⟨b43, of44, vsb43, hv, hc45.up hl, Kd.mono _ hl hrepb43⟩, ⟨fun _ _ _ hl ⟨b43, of44, vsb43, hv, hc45, hrepb43⟩ => ⟨b43, of44, vsb43, hv, hc45.up hl, Kd.mono _ hl hrepb43⟩, ⟨fun _ _ _ hl ⟨v46, hv, hs52⟩ => ⟨v46, hv, hs52.up hl⟩, ⟨fun _ _ _ hl ⟨v57, hv, hs63⟩ => ⟨v57, hv, hs63.up hl⟩, ⟨fun _ _ _ _ _ => trivial, trivial⟩⟩⟩⟩⟩⟩⟩ ⟨⟨fun _ _ _ _ hl h => h, ⟨fun _ _ _ _ hl h => (let ⟨v69, g70, hF, hU, ho71⟩ := h; ⟨v69, g70, hF, hU, ho71.up hl⟩), trivial⟩⟩, trivial⟩ rfl rfl ?_ (allB_cons (allB_cons (allB_cons (allB_cons (allB_cons (allB_cons (allB_cons (allB_cons (allB_cons (allB_cons (allB_cons (allB_cons (allB_cons (allB_cons (allB_cons allB_nil (p4 dA)) (p4 dA)) (p4 dA)) ?_) ?_) ?_) (p4 dA)) (p4 dA)) ?_) ?_) ?_) ?_) ?_) ?_) ?_) ?_
   ·exact rfl
   ·intro ρ' τ pq rs hl hd hq hw hk
    obtain ⟨_, e1, rfl⟩ := hd 1 rfl _ rfl
    obtain ⟨_, e2, rfl⟩ := hd 2 rfl _ rfl
    refine o_index rfl rfl rfl z_slT39 rfl e1 (hs21.up (hl32.trans hl)) e2 hf37 (fun b38 of39 vsb38 hc40 hrepb38 => ?_)
    exact hk _ _ LR ⟨b38, of39, _, rfl, hc40, hrepb38⟩
   ·intro ρ' τ pq rs hl hd hq hw hk
    obtain ⟨_, e3, b38, of39, vsb38, rfl, hc40, hrepb38⟩ := hd 3 rfl _ rfl
    have hrepb38 := hrepb38
    obtain rfl := hrepb38
    refine o_indexA rfl rfl rfl z_arr83 e3 rfl (by decide) (by decide) ?_
    exact hk _ _ LR ⟨b38, of39, _, rfl, hc40, hrepb38⟩
   ·intro ρ' τ pq rs hl hd hq hw hk
    obtain ⟨_, e4, b38, of39, vsb38, rfl, hc40, hrepb38⟩ := hd 4 rfl _ rfl
    have hrepb38 := hrepb38
    obtain rfl := hrepb38
    refine o_loadI (v := .I (q36.getD 0 0)) rfl rfl rfl z_sc3 e4 (cel_arr (f := (Value.int .i64)) (zz := 0) (n := 2) (xs := q36) (p := 0) (q := 0) hc40 rfl (by omega) (by omega)) ?_
    exact hk _ _ LR rfl
   ·intro ρ' τ pq rs hl hd hq hw hk
    obtain ⟨_, e6, rfl⟩ := hd 6 rfl _ rfl
    obtain ⟨_, e7, rfl⟩ := hd 7 rfl _ rfl
    refine o_index rfl rfl rfl z_slT39 rfl e6 (hs21.up (hl32.trans hl)) e7 hf42 (fun b43 of44 vsb43 hc45 hrepb43 => ?_)
    exact hk _ _ LR ⟨b43, of44, _, rfl, hc45, hrepb43⟩
   ·intro ρ' τ pq rs hl hd hq hw hk
    obtain ⟨_, e8, b43, of44, vsb43, rfl, hc45, hrepb43⟩ := hd 8 rfl _ rfl
    have hrepb43 := hrepb43
    obtain rfl := hrepb43
    refine o_indexA rfl rfl rfl z_arr83 e8 rfl (by decide) (by decide) ?_
    exact hk _ _ LR ⟨b43, of44, _, rfl, hc45, hrepb43⟩
   ·intro ρ' τ pq rs hl hd hq hw hk
    obtain ⟨_, e9, b43, of44, vsb43, rfl, hc45, hrepb43⟩ := hd 9 rfl _ rfl
    have hrepb43 := hrepb43
    obtain rfl := hrepb43
    refine o_loadI (v := .I (q41.getD 1 0)) rfl rfl rfl z_sc3 e9 (cel_arr (f := (Value.int .i64)) (zz := 0) (n := 2) (xs := q41) (p := 0) (q := 1) hc45 rfl (by omega) (by omega)) ?_
    exact hk _ _ LR rfl
   ·intro ρ' τ pq rs hl hd hq hw hk
    obtain ⟨_, e5, rfl⟩ := hd 5 rfl _ rfl
    obtain ⟨_, e10, rfl⟩ := hd 10 rfl _ rfl
    refine o_litE (eI .i64) [(q36.getD 0 0), (q41.getD 1 0)] rfl rfl rfl z_slT31 z_zero3 ⟨rfl, ⟨_, e5, rfl⟩, ⟨rfl, ⟨_, e10, rfl⟩, trivial⟩⟩ rfl rfl rfl rfl (fun v46 g47 ho48 => ?_)
    refine st_freeze (fun τ49 hl50 hg51 => ?_)
    have hs52 := ho48.freeze hl50 hg51
    exact hk _ _ hl50 ⟨v46, rfl, hs52⟩
   ·intro ρ' τ pq rs hl hd hq hw hk
    obtain ⟨_, e11, v46, rfl, hs52⟩ := hd 11 rfl _ rfl
    refine st_call (foot := []) rfl rfl rfl rfl (evs_cons (ev_str z_str26) (evs_cons e11 rfl)) rfl (callV_fn z_en62 (ref30_line_ok hr54 τ hs52)) ?_
    rintro _ τ55 _ hl56 ⟨rfl, rfl⟩
    exact hk _ _ hl56 rfl
   ·intro ρ' τ pq rs hl hd hq hw hk
    obtain ⟨_, e12, rfl⟩ := hd 12 rfl _ rfl
    refine o_litE eS [r53] rfl rfl rfl z_slT70 z_zero9 ⟨rfl, ⟨_, e12, rfl⟩, trivial⟩ rfl rfl rfl rfl (fun v57 g58 ho59 => ?_)
    refine st_freeze (fun τ60 hl61 hg62 => ?_)
    have hs63 := ho59.freeze hl61 hg62
    exact hk _ _ hl61 ⟨v57, rfl, hs63⟩
   ·intro ρ' τ u Fv pq rs hl hI hu hd hq hw hk
    obtain ⟨_, e0, rfl⟩ := hd 0 rfl _ rfl
    obtain ⟨_, e13, v57, rfl, hs63⟩ := hd 13 rfl _ rfl
    have hI0 := hI
    obtain rfl := hI
    refine o_append (dk := kS) (xs := s32.1) (ys := [r53]) rfl rfl rfl rfl z_slT70 e0 (ho35.up hl) e13 (Sl.src hs63) hf67 hf68 (fun v64 g65 ho66 => ?_)
    exact hk _ _ [g65] LR trivial (by exact ⟨v64, g65, rfl, rfl, ho66⟩)
   intro ρ' τ72 vals u Fv hl72 hI hu hv hq
   obtain ⟨v69, g70, rfl, rfl, ho71⟩ := hI
   refine st_env (ρ' := [(2, .N0), (10, v20), (11, .I s32.2), (133, v69)]) ⟨oT hq 2, oT hq 10, oT hq 11, (by exact hu _ rfl), trivial⟩ (Z 8 ?_)
   exact hn32 _ _ _ _ h ⟨(hl32.trans hl72), _, _, rfl, rfl, ho71⟩
  ·refine st_exit rfl ?_
   obtain rfl := he32 _ h
   replace h := hA32
   exact hk22 _ _ _ ⟨s32.1, _, _, h, hl32, rfl, rfl, ho35⟩
 refine Z 4 ?_
 obtain ⟨e74, hL74, hA74⟩ := h
 refine st_addNil ?_
 refine st_ord [1, 0] _ rfl ?_
 refine st_loop hL74 (fun (s74 : K33) ρ τ74 gs => τ8.Le τ74 ∧ ∃ (v75 : Value) (g76 : Grp), ESub ρ [(1, .Pb b5), (2, .N0), (3, v75), (4, v10), (5, .I s74.2)] ∧ gs = [[(b5, .cells #[v1, v2] 28 (0, 0))], g76] ∧ Ow kS 9 τ74 v75 s74.1 g76) ⟨LR, _, _, rfl, rfl, Ow.nil⟩ ?_
 rintro s74 o74 h he74 ρ74 τ74 gs74 ⟨hl74, v75, g76, hρ, rfl, ho77⟩ hn74
 refine st_es hρ (Z 5 ?_)
 refine o_lenI rfl rfl rfl z_slT31 rfl (hs11.up hl74) (Z 2 ?_)
 refine I2 h (fun h => ?_) (fun h => ?_)
 ·refine Z 2 ?_
  refine st_cut (fun ρ τ78 gs => ∃ (s78 : K20) (v79 : Value) (g80 : Grp), ref30_Lines_j5 s74 s78 o74 ∧ τ74.Le τ78 ∧ ESub ρ [(1, .Pb b5), (2, .N0), (4, v10), (5, .I s74.2), (3, v79)] ∧ gs = [[(b5, .cells #[v1, v2] 28 (0, 0))], g80] ∧ Ow kS 9 τ78 v79 s78 g80) ?_ (fun hk78 => ?_)
  ·rintro ρ78 τ78 gs78 ⟨s78, v79, g80, h, hl78, hρ, rfl, ho81⟩
   refine st_es hρ (Z 5 ?_)
   exact hn74 _ _ _ _ h ⟨(hl74.trans hl78), _, _, rfl, rfl, ho81⟩
  refine Z 2 ?_
  obtain ⟨q82, hf83, r87, hr88, h⟩ := h
  refine st_draw 7 (dl [.v (.agg #[v1, v2]), .v (v10), .v (.I s74.2), .t fun τ v => ∃ (b84 of85 : Nat) (vsb84 : K4), (.pointer (some ⟨b84, of85, none⟩) : Value) = v ∧ CelN τ ⟨b84, of85, none⟩ vsb84 ∧ (kI .i64).rep τ vsb84 q82, .v (.I q82), .t fun τ v => ∃ (v91 : Value), (.agg #[.I r87.1, .I r87.2.1, .I r87.2.2.1, .I r87.2.2.2.1, .I r87.t4.1, .bool r87.t4.2.1, .bool r87.t4.2.2.1, .I r87.t4.2.2.2.1, .I r87.t4.t4.1, v91, .I r87.t4.t4.2.2.1, .I r87.t4.t4.2.2.2] : Value) = v ∧ Sl (kA .i64 2) τ v91 r87.t4.t4.2.1, .t fun τ v => ∃ (b93 : Nat), (.Pb b93 : Value) = v]) (oneG 6 (.cells #[.I 0, .I 0, .I 0, .I 0, .I 0, .bool false, .bool false, .I 0, .I 0, .N0, .I 0, .I 0] 55 (0, 0))) z_mix rfl (dl_mono ⟨fun _ _ _ hl ⟨b84, of85, vsb84, hv, hc86, hrepb84⟩ => ⟨b84, of85, vsb84, hv, hc86.up hl, Kd.mono _ hl hrepb84⟩, ⟨fun _ _ _ hl ⟨v91, hv, hs92⟩ => ⟨v91, hv, hs92.up hl⟩, ⟨fun _ _ _ hl ⟨b93, hv⟩ => ⟨b93, hv⟩, trivial⟩⟩⟩) (allB_cons (allB_cons (allB_cons (allB_cons (allB_cons (allB_cons (allB_cons allB_nil ?_) (p1o dA)) (p1o dA)) ?_) ?_) ?_) ?_) ?_
  ·intro ρ' τ pq rs hl hd hq hk
   refine o_loadN (j := 0) (vs := [v1, v2]) rfl rfl rfl z_agg28 (oT hq 1) rfl rfl ?_
   exact st_addNil (hk _ _ LR rfl)
  ·intro ρ' τ pq rs hl hd hq hk
   obtain ⟨_, e1, rfl⟩ := hd 1 rfl
   obtain ⟨_, e2, rfl⟩ := hd 2 rfl
   refine o_index rfl rfl rfl z_slT31 rfl e1 (hs11.up (hl74.trans hl)) e2 hf83 (fun b84 of85 vsb84 hc86 hrepb84 => ?_)
   exact st_addNil (hk _ _ LR ⟨b84, of85, _, rfl, hc86, hrepb84⟩)
  ·intro ρ' τ pq rs hl hd hq hk
   obtain ⟨_, e3, b84, of85, vsb84, rfl, hc86, hrepb84⟩ := hd 3 rfl
   have hrepb84 := hrepb84
   obtain rfl := hrepb84
   refine o_loadI (v := .I q82) rfl rfl rfl z_sc3 e3 (hc86 0 _ rfl) ?_
   exact st_addNil (hk _ _ LR rfl)
  ·intro ρ' τ pq rs hl hd hq hk
   obtain ⟨_, e0, rfl⟩ := hd 0 rfl
   obtain ⟨_, e4, rfl⟩ := hd 4 rfl
   refine st_call (foot := []) rfl rfl rfl rfl (evs_cons e0 (evs_cons e4 rfl)) rfl (callV_fn z_en18 (ref30_Robot_ok hr88 τ (hs3.up ((hl9.trans hl74).trans hl)) (hs4.up ((hl9.trans hl74).trans hl)))) ?_
   rintro _ τ89 _ hl90 ⟨v91, rfl, rfl, hs92⟩
   exact st_addNil (hk _ _ hl90 ⟨v91, rfl, hs92⟩)
  ·intro ρ' τ pq rs hl hd hq hk
   refine o_alloc rfl rfl rfl z_zero55 (fun b93 => ?_)
   exact hk _ _ LR ⟨b93, rfl⟩
  intro ρ' τ94 vals hl94 hv hq
  obtain ⟨l5, v91, t5, hs92⟩ := hv 5 (by decide)
  replace l5 : Eng.look ρ' 25 = some (.agg #[.I r87.1, .I r87.2.1, .I r87.2.2.1, .I r87.2.2.2.1, .I r87.t4.1, .bool r87.t4.2.1, .bool r87.t4.2.2.1, .I r87.t4.2.2.2.1, .I r87.t4.t4.1, v91, .I r87.t4.t4.2.2.1, .I r87.t4.t4.2.2.2]) := l5.trans (congrArg some (Eq.symm t5))
  obtain ⟨l6, b93, t6⟩ := hv 6 (by decide)
  replace l6 : Eng.look ρ' 6 = some (.Pb b93) := l6.trans (congrArg some (Eq.symm t6))
  refine st_gs [[(b5, .cells #[v1, v2] 28 (0, 0))], g76, [(b93, .cells #[.I 0, .I 0, .I 0, .I 0, .I 0, .bool false, .bool false, .I 0, .I 0, .N0, .I 0, .I 0] 55 (0, 0))]] (by rw [oneG_flat (by decide) (Eq.symm t6)]; rfl) ?_
  refine st_env (ρ' := [(25, .agg #[.I r87.1, .I r87.2.1, .I r87.2.2.1, .I r87.2.2.2.1, .I r87.t4.1, .bool r87.t4.2.1, .bool r87.t4.2.2.1, .I r87.t4.2.2.2.1, .I r87.t4.t4.1, v91, .I r87.t4.t4.2.2.1, .I r87.t4.t4.2.2.2]), (6, .Pb b93), (1, .Pb b5), (2, .N0), (3, v75), (4, v10), (5, .I s74.2)]) ⟨l5, l6, oT hq 1, oT hq 2, oT hq 3, oT hq 4, oT hq 5, trivial⟩ ?_
  refine o_store (j := 2) (vs := [.I r87.1, .I r87.2.1, .I r87.2.2.1, .I r87.2.2.2.1, .I r87.t4.1, .bool r87.t4.2.1, .bool r87.t4.2.2.1, .I r87.t4.2.2.2.1, .I r87.t4.t4.1, v91, .I r87.t4.t4.2.2.1, .I r87.t4.t4.2.2.2]) (cs' := [.I r87.1, .I r87.2.1, .I r87.2.2.1, .I r87.2.2.2.1, .I r87.t4.1, .bool r87.t4.2.1, .bool r87.t4.2.2.1, .I r87.t4.2.2.2.1, .I r87.t4.t4.1, v91, .I r87.t4.t4.2.2.1, .I r87.t4.t4.2.2.2]) rfl rfl rfl z_size55 rfl rfl rfl (o4 (o4 (ones_cons rfl (ones_cons hs92.one' (ones_cons rfl (ones_cons rfl ones_nil)))))) rfl rfl rfl (Z 5 ?_)
  obtain ⟨q95, hf96, h⟩ := h
  refine o_index rfl rfl rfl z_slT31 rfl rfl (hs11.up (hl74.trans hl94)) rfl hf96 (fun b97 of98 vs hc99 hrep => ?_)
  obtain rfl := hrep
  refine o_loadI (v := .I q95) rfl rfl rfl z_sc3 rfl (hc99 0 _ rfl) ?_
  refine o_litE (eI .i64) [q95] rfl rfl rfl z_slT31 z_zero3 ⟨rfl, ⟨_, rfl, rfl⟩, trivial⟩ rfl rfl rfl rfl (fun v100 g101 ho102 => ?_)
  obtain ⟨r107, hr108, h⟩ := h
  refine st_freeze (fun τ103 hl104 hg105 => ?_)
  have hs106 := ho102.freeze hl104 hg105
  refine st_call (foot := []) rfl rfl rfl rfl (evs_cons (ev_str z_str0) (evs_cons rfl rfl)) rfl (callV_fn z_en62 (ref30_line_ok hr108 τ103 hs106)) ?_
  rintro _ τ109 _ hl110 ⟨rfl, rfl⟩
  refine Z 3 ?_
  refine cutS τ109 (fun (s111 : ByteArray) => ref30_Lines_j6 a0 r6 s74 r87 s111 o74) (fun s111 => [(6, .Pb b93), (1, .Pb b5), (2, .N0), (3, v75), (4, v10), (5, .I s74.2), (7, .string s111)]) (fun s111 => [[(b5, .cells #[v1, v2] 28 (0, 0))], [(b93, .cells #[.I r87.1, .I r87.2.1, .I r87.2.2.1, .I r87.2.2.2.1, .I r87.t4.1, .bool r87.t4.2.1, .bool r87.t4.2.2.1, .I r87.t4.2.2.2.1, .I r87.t4.t4.1, v91, .I r87.t4.t4.2.2.1, .I r87.t4.t4.2.2.2] 55 (0, 0))], g76]) (fun s111 τ111 h hl111 => ?_) (fun hk111 => ?_)
  ·refine st_seq ?_
   refine cutS τ111 (fun (s112 : ByteArray) => ref30_Lines_j7 a0 r6 s74 r87 s112 o74) (fun s112 => [(6, .Pb b93), (1, .Pb b5), (2, .N0), (3, v75), (4, v10), (5, .I s74.2), (7, .string s112)]) (fun s112 => [[(b5, .cells #[v1, v2] 28 (0, 0))], [(b93, .cells #[.I r87.1, .I r87.2.1, .I r87.2.2.1, .I r87.2.2.2.1, .I r87.t4.1, .bool r87.t4.2.1, .bool r87.t4.2.2.1, .I r87.t4.2.2.2.1, .I r87.t4.t4.1, v91, .I r87.t4.t4.2.2.1, .I r87.t4.t4.2.2.2] 55 (0, 0))], g76]) (fun s112 τ112 h hl112 => ?_) (fun hk112 => ?_)
   ·refine st_seq ?_
    obtain ⟨r120, hr121, hf124, r132, hr133, hf136, hf147, hf148, h⟩ := h
    refine st_d41 [[(b5, .cells #[v1, v2] 28 (0, 0))], [(b93, .cells #[.I r87.1, .I r87.2.1, .I r87.2.2.1, .I r87.2.2.2.1, .I r87.t4.1, .bool r87.t4.2.1, .bool r87.t4.2.2.1, .I r87.t4.2.2.2.1, .I r87.t4.t4.1, v91, .I r87.t4.t4.2.2.1, .I r87.t4.t4.2.2.2] 55 (0, 0))]] [g76] 17 1 [none, none, none, none, none, none, none, none, none, none, none, none, none, none, none, none, some (0, 0)] [none, none, none, none, none, none, none, none, none, none, none, none, none, none, none, none, none] [[none, some 74]] [.v (v75), .v (.string s112), .v (.pointer (some ⟨b93, 9, none⟩)), .v (v91), .v (.I (r87.t4.t4.2.1.length : Int)), .t fun τ v => ∃ (v113 : Value), (v113 : Value) = v ∧ Sl (kI .i64) τ v113 [(r87.t4.t4.2.1.length : Int)], .v (.string r120), .v (.string (s112 ++ r120)), .v (.pointer (some ⟨b93, 10, none⟩)), .v (.I r87.t4.t4.2.2.1), .v (.pointer (some ⟨b93, 11, none⟩)), .v (.I r87.t4.t4.2.2.2), .t fun τ v => ∃ (v125 : Value), (v125 : Value) = v ∧ Sl (kI .i64) τ v125 [r87.t4.t4.2.2.1, r87.t4.t4.2.2.2], .v (.string r132), .v (.string ((s112 ++ r120) ++ r132)), .t fun τ v => ∃ (v137 : Value), (v137 : Value) = v ∧ Sl kS τ v137 [((s112 ++ r120) ++ r132)], .t fun _ _ => True] [[fun τ u F => F = [g76], fun τ u F => ∃ (v149 : Value) (g150 : Grp), F = [g150] ∧ v149 = u ∧ Ow kS 9 τ v149 (s74.1 ++ [((s112 ++ r120) ++ r132)]) g150]] rfl z_mix rfl ⟨fun _ _ _ hl ⟨v113, hv, hs119⟩ => ⟨v113, hv, hs119.up hl⟩, ⟨fun _ _ _ hl ⟨v125, hv, hs131⟩ => ⟨v125, hv, hs131.up hl⟩, ⟨fun _ _ _ hl ⟨v137, hv, hs143⟩ => ⟨v137, hv, hs143.up hl⟩, ⟨fun _ _ _ _ _ => trivial, trivial⟩⟩⟩⟩ ⟨⟨fun _ _ _ _ hl h => h, ⟨fun _ _ _ _ hl h => (let ⟨v149, g150, hF, hU, ho151⟩ := h; ⟨v149, g150, hF, hU, ho151.up hl⟩), trivial⟩⟩, trivial⟩ rfl rfl ?_ (allB_cons (allB_cons (allB_cons (allB_cons (allB_cons (allB_cons (allB_cons (allB_cons (allB_cons (allB_cons (allB_cons (allB_cons (allB_cons (allB_cons (allB_cons (allB_cons (allB_cons allB_nil (p4 dA)) (p4 dA)) (p4 dA)) ?_) ?_) ?_) ?_) ?_) (p4 dA)) ?_) (p4 dA)) ?_) ?_) ?_) ?_) ?_) ?_) ?_
    ·exact rfl
    ·intro ρ' τ pq rs hl hd hq hw hk
     obtain ⟨_, e2, rfl⟩ := hd 2 rfl _ rfl
     refine o_load (j := 1) (v := v91) rfl rfl rfl z_sc39 e2 rfl rfl ?_
     exact hk _ _ LR rfl
    ·intro ρ' τ pq rs hl hd hq hw hk
     obtain ⟨_, e3, rfl⟩ := hd 3 rfl _ rfl
     refine o_lenI rfl rfl rfl z_slT39 e3 (hs92.up ((((hl104.trans hl110).trans hl111).trans hl112).trans hl)) ?_
     exact hk _ _ LR rfl
    ·intro ρ' τ pq rs hl hd hq hw hk
     obtain ⟨_, e4, rfl⟩ := hd 4 rfl _ rfl
     refine o_litE (eI .i64) [(r87.t4.t4.2.1.length : Int)] rfl rfl rfl z_slT31 z_zero3 ⟨rfl, ⟨_, e4, rfl⟩, trivial⟩ rfl rfl rfl rfl (fun v113 g114 ho115 => ?_)
     refine st_freeze (fun τ116 hl117 hg118 => ?_)
     have hs119 := ho115.freeze hl117 hg118
     exact hk _ _ hl117 ⟨v113, rfl, hs119⟩
    ·intro ρ' τ pq rs hl hd hq hw hk
     obtain ⟨_, e5, v113, rfl, hs119⟩ := hd 5 rfl _ rfl
     refine st_call (foot := []) rfl rfl rfl rfl (evs_cons (ev_str z_str23) (evs_cons e5 rfl)) rfl (callV_fn z_en62 (ref30_line_ok hr121 τ hs119)) ?_
     rintro _ τ122 _ hl123 ⟨rfl, rfl⟩
     exact hk _ _ hl123 rfl
    ·intro ρ' τ pq rs hl hd hq hw hk
     obtain ⟨_, e1, rfl⟩ := hd 1 rfl _ rfl
     obtain ⟨_, e6, rfl⟩ := hd 6 rfl _ rfl
     refine o_sadd rfl rfl rfl e1 e6 hf124 ?_
     exact hk _ _ LR rfl
    ·intro ρ' τ pq rs hl hd hq hw hk
     obtain ⟨_, e8, rfl⟩ := hd 8 rfl _ rfl
     refine o_load (j := 1) (v := .I r87.t4.t4.2.2.1) rfl rfl rfl z_sc3 e8 rfl rfl ?_
     exact hk _ _ LR rfl
    ·intro ρ' τ pq rs hl hd hq hw hk
     obtain ⟨_, e10, rfl⟩ := hd 10 rfl _ rfl
     refine o_load (j := 1) (v := .I r87.t4.t4.2.2.2) rfl rfl rfl z_sc3 e10 rfl rfl ?_
     exact hk _ _ LR rfl
    ·intro ρ' τ pq rs hl hd hq hw hk
     obtain ⟨_, e9, rfl⟩ := hd 9 rfl _ rfl
     obtain ⟨_, e11, rfl⟩ := hd 11 rfl _ rfl
     refine o_litE (eI .i64) [r87.t4.t4.2.2.1, r87.t4.t4.2.2.2] rfl rfl rfl z_slT31 z_zero3 ⟨rfl, ⟨_, e9, rfl⟩, ⟨rfl, ⟨_, e11, rfl⟩, trivial⟩⟩ rfl rfl rfl rfl (fun v125 g126 ho127 => ?_)
     refine st_freeze (fun τ128 hl129 hg130 => ?_)
     have hs131 := ho127.freeze hl129 hg130
     exact hk _ _ hl129 ⟨v125, rfl, hs131⟩
    ·intro ρ' τ pq rs hl hd hq hw hk
     obtain ⟨_, e12, v125, rfl, hs131⟩ := hd 12 rfl _ rfl
     refine st_call (foot := []) rfl rfl rfl rfl (evs_cons (ev_str z_str24) (evs_cons e12 rfl)) rfl (callV_fn z_en62 (ref30_line_ok hr133 τ hs131)) ?_
     rintro _ τ134 _ hl135 ⟨rfl, rfl⟩
     exact hk _ _ hl135 rfl
    ·intro ρ' τ pq rs hl hd hq hw hk
     obtain ⟨_, e7, rfl⟩ := hd 7 rfl _ rfl
     obtain ⟨_, e13, rfl⟩ := hd 13 rfl _ rfl
     refine o_sadd rfl rfl rfl e7 e13 hf136 ?_
     exact hk _ _ LR rfl
    ·intro ρ' τ pq rs hl hd hq hw hk
     obtain ⟨_, e14, rfl⟩ := hd 14 rfl _ rfl
     refine o_litE eS [((s112 ++ r120) ++ r132)] rfl rfl rfl z_slT70 z_zero9 ⟨rfl, ⟨_, e14, rfl⟩, trivial⟩ rfl rfl rfl rfl (fun v137 g138 ho139 => ?_)
     refine st_freeze (fun τ140 hl141 hg142 => ?_)
     have hs143 := ho139.freeze hl141 hg142
     exact hk _ _ hl141 ⟨v137, rfl, hs143⟩
    ·intro ρ' τ u Fv pq rs hl hI hu hd hq hw hk
     obtain ⟨_, e0, rfl⟩ := hd 0 rfl _ rfl
     obtain ⟨_, e15, v137, rfl, hs143⟩ := hd 15 rfl _ rfl
     have hI0 := hI
     obtain rfl := hI
     refine st_ord [2, 0, 0, 0] _ rfl ?_
     refine o_append (dk := kS) (xs := s74.1) (ys := [((s112 ++ r120) ++ r132)]) rfl rfl rfl rfl z_slT70 e0 (ho77.up (((((hl94.trans hl104).trans hl110).trans hl111).trans hl112).trans hl)) e15 (Sl.src hs143) hf147 hf148 (fun v144 g145 ho146 => ?_)
     refine st_ord [1, 1, 0, 0] _ rfl ?_
     exact hk _ _ [g145] LR trivial (by exact ⟨v144, g145, rfl, rfl, ho146⟩)
    intro ρ' τ152 vals u Fv hl152 hI hu hv hq
    obtain ⟨v149, g150, rfl, rfl, ho151⟩ := hI
    refine st_env (ρ' := [(1, .Pb b5), (2, .N0), (4, v10), (5, .I s74.2), (74, v149)]) ⟨oT hq 1, oT hq 2, oT hq 4, oT hq 5, (by exact hu _ rfl), trivial⟩ (Z 3 ?_)
    obtain ⟨q153, hf154, r158, hr159, h⟩ := h
    refine st_draw 6 (dl [.v (.agg #[v1, v2]), .v (v10), .v (.I s74.2), .t fun τ v => ∃ (b155 of156 : Nat) (vsb155 : K4), (.pointer (some ⟨b155, of156, none⟩) : Value) = v ∧ CelN τ ⟨b155, of156, none⟩ vsb155 ∧ (kI .i64).rep τ vsb155 q153, .v (.I q153), .t fun τ v => ∃ (v162 : Value), (v162 : Value) = v ∧ Sl (kI .i64) τ v162 r158]) (fun _ _ => []) z_mix rfl (dl_mono ⟨fun _ _ _ hl ⟨b155, of156, vsb155, hv, hc157, hrepb155⟩ => ⟨b155, of156, vsb155, hv, hc157.up hl, Kd.mono _ hl hrepb155⟩, ⟨fun _ _ _ hl ⟨v162, hv, hs163⟩ => ⟨v162, hv, hs163.up hl⟩, trivial⟩⟩) (allB_cons (allB_cons (allB_cons (allB_cons (allB_cons (allB_cons allB_nil ?_) (p1 dA)) (p1 dA)) ?_) ?_) ?_) ?_
    ·intro ρ' τ pq rs hl hd hq hk
     refine o_loadN (j := 0) (vs := [v1, v2]) rfl rfl rfl z_agg28 (oT hq 1) rfl rfl ?_
     exact st_addNil (hk _ _ LR rfl)
    ·intro ρ' τ pq rs hl hd hq hk
     obtain ⟨_, e1, rfl⟩ := hd 1 rfl
     obtain ⟨_, e2, rfl⟩ := hd 2 rfl
     refine o_index rfl rfl rfl z_slT31 rfl e1 (hs11.up (((((((hl74.trans hl94).trans hl104).trans hl110).trans hl111).trans hl112).trans hl152).trans hl)) e2 hf154 (fun b155 of156 vsb155 hc157 hrepb155 => ?_)
     exact st_addNil (hk _ _ LR ⟨b155, of156, _, rfl, hc157, hrepb155⟩)
    ·intro ρ' τ pq rs hl hd hq hk
     obtain ⟨_, e3, b155, of156, vsb155, rfl, hc157, hrepb155⟩ := hd 3 rfl
     have hrepb155 := hrepb155
     obtain rfl := hrepb155
     refine o_loadI (v := .I q153) rfl rfl rfl z_sc3 e3 (hc157 0 _ rfl) ?_
     exact st_addNil (hk _ _ LR rfl)
    ·intro ρ' τ pq rs hl hd hq hk
     obtain ⟨_, e0, rfl⟩ := hd 0 rfl
     obtain ⟨_, e4, rfl⟩ := hd 4 rfl
     refine st_call (foot := []) rfl rfl rfl rfl (evs_cons e0 (evs_cons e4 rfl)) rfl (callV_fn z_en63 (ref30_zones_ok hr159 τ (hs3.up ((((((((hl9.trans hl74).trans hl94).trans hl104).trans hl110).trans hl111).trans hl112).trans hl152).trans hl)) (hs4.up ((((((((hl9.trans hl74).trans hl94).trans hl104).trans hl110).trans hl111).trans hl112).trans hl152).trans hl)))) ?_
     rintro _ τ160 _ hl161 ⟨v162, rfl, rfl, hs163⟩
     exact st_addNil (hk _ _ hl161 ⟨v162, rfl, hs163⟩)
    intro ρ' τ164 vals hl164 hv hq
    obtain ⟨l5, v162, t5, hs163⟩ := hv 5 (by decide)
    replace l5 : Eng.look ρ' 80 = some (v162) := l5.trans (congrArg some (Eq.symm t5))
    refine st_ord [0, 0, 0] _ rfl ?_
    refine st_env (ρ' := [(80, v162), (1, .Pb b5), (2, .N0), (4, v10), (5, .I s74.2), (3, v149)]) ⟨l5, oT hq 1, oT hq 2, oT hq 4, oT hq 5, oT hq 3, trivial⟩ (Z 6 ?_)
    obtain ⟨e165, hL165, hA165⟩ := h
    refine st_ord [0, 1] _ rfl ?_
    refine st_loop hL165 (fun (s165 : K33) ρ τ165 gs => τ164.Le τ165 ∧ ∃ (v166 : Value) (g167 : Grp), ESub ρ [(1, .Pb b5), (2, .N0), (4, v10), (5, .I s74.2), (3, v166), (8, v162), (9, .I s165.2)] ∧ gs = [[(b5, .cells #[v1, v2] 28 (0, 0))], g167] ∧ Ow kS 9 τ165 v166 s165.1 g167) ⟨LR, _, _, rfl, rfl, (ho151.up hl164)⟩ ?_
    rintro s165 o165 h he165 ρ165 τ165 gs165 ⟨hl165, v166, g167, hρ, rfl, ho168⟩ hn165
    refine st_es hρ (Z 5 ?_)
    refine o_lenI rfl rfl rfl z_slT31 rfl (hs163.up hl165) (Z 2 ?_)
    refine I2 h (fun h => ?_) (fun h => ?_)
    ·refine Z 3 ?_
     obtain ⟨q169, hf170, q174, hf175, r186, hr187, q190, hf191, q195, hf196, r200, hr201, r206, hr207, hf220, hf221, h⟩ := h
     refine st_d41 [[(b5, .cells #[v1, v2] 28 (0, 0))]] [g167] 24 1 [none, none, none, none, none, none, none, none, none, none, none, none, none, none, none, none, none, none, none, none, none, none, none, some (0, 0)] [none, none, none, none, none, none, none, none, none, none, none, none, none, none, none, none, none, none, none, none, none, none, none, none] [[none, some 110]] [.v (v166), .v (v10), .v (.I s74.2), .t fun τ v => ∃ (b171 of172 : Nat) (vsb171 : K4), (.pointer (some ⟨b171, of172, none⟩) : Value) = v ∧ CelN τ ⟨b171, of172, none⟩ vsb171 ∧ (kI .i64).rep τ vsb171 q169, .v (.I q169), .v (v162), .v (.I s165.2), .t fun τ v => ∃ (b176 of177 : Nat) (vsb176 : K4), (.pointer (some ⟨b176, of177, none⟩) : Value) = v ∧ CelN τ ⟨b176, of177, none⟩ vsb176 ∧ (kI .i64).rep τ vsb176 q174, .v (.I q174), .t fun τ v => ∃ (v179 : Value), (v179 : Value) = v ∧ Sl (kI .i64) τ v179 [q169, q174], .v (.string r186), .v (.agg #[v1, v2]), .v (v10), .v (.I s74.2), .t fun τ v => ∃ (b192 of193 : Nat) (vsb192 : K4), (.pointer (some ⟨b192, of193, none⟩) : Value) = v ∧ CelN τ ⟨b192, of193, none⟩ vsb192 ∧ (kI .i64).rep τ vsb192 q190, .v (.I q190), .v (v162), .v (.I s165.2), .t fun τ v => ∃ (b197 of198 : Nat) (vsb197 : K4), (.pointer (some ⟨b197, of198, none⟩) : Value) = v ∧ CelN τ ⟨b197, of198, none⟩ vsb197 ∧ (kI .i64).rep τ vsb197 q195, .v (.I q195), .t fun τ v => ∃ (v204 : Value), (v204 : Value) = v ∧ Sl (kI .i64) τ v204 r200, .v (.string r206), .t fun τ v => ∃ (v210 : Value), (v210 : Value) = v ∧ Sl kS τ v210 [r206], .t fun _ _ => True] [[fun τ u F => F = [g167], fun τ u F => ∃ (v222 : Value) (g223 : Grp), F = [g223] ∧ v222 = u ∧ Ow kS 9 τ v222 (s165.1 ++ [r206]) g223]] rfl z_mix rfl (by exact ⟨fun _ _ _ hl ⟨b171, of172, vsb171, hv, hc173, hrepb171⟩ => ⟨b171, of172, vsb171, hv, hc173.up hl, Kd.mono _ hl hrepb171⟩, ⟨fun _ _ _ hl ⟨b176, of177, vsb176, hv, hc178, hrepb176⟩ => ⟨b176, of177, vsb176, hv, hc178.up hl, Kd.mono _ hl hrepb176⟩, ⟨fun _ _ _ hl ⟨v179, hv, hs185⟩ => ⟨v179, hv, hs185.up hl⟩, ⟨fun _ _ _ hl ⟨b192, of193, vsb192, hv, hc194, hrepb192⟩ => ⟨b192, of193, vsb192, hv, hc194.up hl, Kd.mono _ hl hrepb192⟩, ⟨fun _ _ _ hl ⟨b197, of198, vsb197, hv, hc199, hrepb197⟩ => ⟨b197, of198, vsb197, hv, hc199.up hl, Kd.mono _ hl hrepb197⟩, ⟨fun _ _ _ hl ⟨v204, hv, hs205⟩ => ⟨v204, hv, hs205.up hl⟩, ⟨fun _ _ _ hl ⟨v210, hv, hs216⟩ => ⟨v210, hv, hs216.up hl⟩, ⟨fun _ _ _ _ _ => trivial, trivial⟩⟩⟩⟩⟩⟩⟩⟩) ⟨⟨fun _ _ _ _ hl h => h, ⟨fun _ _ _ _ hl h => (let ⟨v222, g223, hF, hU, ho224⟩ := h; ⟨v222, g223, hF, hU, ho224.up hl⟩), trivial⟩⟩, trivial⟩ rfl rfl ?_ (allB_cons (allB_cons (allB_cons (allB_cons (allB_cons (allB_cons (allB_cons (allB_cons (allB_cons (allB_cons (allB_cons (allB_cons (allB_cons (allB_cons (allB_cons (allB_cons (allB_cons (allB_cons (allB_cons (allB_cons (allB_cons (allB_cons (allB_cons (allB_cons allB_nil (p4 dA)) (p4 dA)) (p4 dA)) ?_) ?_) (p4 dA)) (p4 dA)) ?_) ?_) ?_) ?_) ?_) (p4 dA)) (p4 dA)) ?_) ?_) (p4 dA)) (p4 dA)) ?_) ?_) ?_) ?_) ?_) ?_) ?_
     ·exact rfl
     ·intro ρ' τ pq rs hl hd hq hw hk
      obtain ⟨_, e1, rfl⟩ := hd 1 rfl _ rfl
      obtain ⟨_, e2, rfl⟩ := hd 2 rfl _ rfl
      refine o_index rfl rfl rfl z_slT31 rfl e1 (hs11.up (((((((((hl74.trans hl94).trans hl104).trans hl110).trans hl111).trans hl112).trans hl152).trans hl164).trans hl165).trans hl)) e2 hf170 (fun b171 of172 vsb171 hc173 hrepb171 => ?_)
      exact hk _ _ LR ⟨b171, of172, _, rfl, hc173, hrepb171⟩
     ·intro ρ' τ pq rs hl hd hq hw hk
      obtain ⟨_, e3, b171, of172, vsb171, rfl, hc173, hrepb171⟩ := hd 3 rfl _ rfl
      have hrepb171 := hrepb171
      obtain rfl := hrepb171
      refine o_loadI (v := .I q169) rfl rfl rfl z_sc3 e3 (hc173 0 _ rfl) ?_
      exact hk _ _ LR rfl
     ·intro ρ' τ pq rs hl hd hq hw hk
      obtain ⟨_, e5, rfl⟩ := hd 5 rfl _ rfl
      obtain ⟨_, e6, rfl⟩ := hd 6 rfl _ rfl
      refine o_index rfl rfl rfl z_slT31 rfl e5 (hs163.up (hl165.trans hl)) e6 hf175 (fun b176 of177 vsb176 hc178 hrepb176 => ?_)
      exact hk _ _ LR ⟨b176, of177, _, rfl, hc178, hrepb176⟩
     ·intro ρ' τ pq rs hl hd hq hw hk
      obtain ⟨_, e7, b176, of177, vsb176, rfl, hc178, hrepb176⟩ := hd 7 rfl _ rfl
      have hrepb176 := hrepb176
      obtain rfl := hrepb176
      refine o_loadI (v := .I q174) rfl rfl rfl z_sc3 e7 (hc178 0 _ rfl) ?_
      exact hk _ _ LR rfl
     ·intro ρ' τ pq rs hl hd hq hw hk
      obtain ⟨_, e4, rfl⟩ := hd 4 rfl _ rfl
      obtain ⟨_, e8, rfl⟩ := hd 8 rfl _ rfl
      refine o_litE (eI .i64) [q169, q174] rfl rfl rfl z_slT31 z_zero3 ⟨rfl, ⟨_, e4, rfl⟩, ⟨rfl, ⟨_, e8, rfl⟩, trivial⟩⟩ rfl rfl rfl rfl (fun v179 g180 ho181 => ?_)
      refine st_freeze (fun τ182 hl183 hg184 => ?_)
      have hs185 := ho181.freeze hl183 hg184
      exact hk _ _ hl183 ⟨v179, rfl, hs185⟩
     ·intro ρ' τ pq rs hl hd hq hw hk
      obtain ⟨_, e9, v179, rfl, hs185⟩ := hd 9 rfl _ rfl
      refine st_call (foot := []) rfl rfl rfl rfl (evs_cons (ev_str z_str25) (evs_cons e9 rfl)) rfl (callV_fn z_en62 (ref30_line_ok hr187 τ hs185)) ?_
      rintro _ τ188 _ hl189 ⟨rfl, rfl⟩
      exact hk _ _ hl189 rfl
     ·intro ρ' τ pq rs hl hd hq hw hk
      refine o_loadN (j := 0) (vs := [v1, v2]) rfl rfl rfl z_agg28 (oT hq 1) rfl rfl ?_
      exact hk _ _ LR rfl
     ·intro ρ' τ pq rs hl hd hq hw hk
      obtain ⟨_, e12, rfl⟩ := hd 12 rfl _ rfl
      obtain ⟨_, e13, rfl⟩ := hd 13 rfl _ rfl
      refine o_index rfl rfl rfl z_slT31 rfl e12 (hs11.up (((((((((hl74.trans hl94).trans hl104).trans hl110).trans hl111).trans hl112).trans hl152).trans hl164).trans hl165).trans hl)) e13 hf191 (fun b192 of193 vsb192 hc194 hrepb192 => ?_)
      exact hk _ _ LR ⟨b192, of193, _, rfl, hc194, hrepb192⟩
     ·intro ρ' τ pq rs hl hd hq hw hk
      obtain ⟨_, e14, b192, of193, vsb192, rfl, hc194, hrepb192⟩ := hd 14 rfl _ rfl
      have hrepb192 := hrepb192
      obtain rfl := hrepb192
      refine o_loadI (v := .I q190) rfl rfl rfl z_sc3 e14 (hc194 0 _ rfl) ?_
      exact hk _ _ LR rfl
     ·intro ρ' τ pq rs hl hd hq hw hk
      obtain ⟨_, e16, rfl⟩ := hd 16 rfl _ rfl
      obtain ⟨_, e17, rfl⟩ := hd 17 rfl _ rfl
      refine o_index rfl rfl rfl z_slT31 rfl e16 (hs163.up (hl165.trans hl)) e17 hf196 (fun b197 of198 vsb197 hc199 hrepb197 => ?_)
      exact hk _ _ LR ⟨b197, of198, _, rfl, hc199, hrepb197⟩
     ·intro ρ' τ pq rs hl hd hq hw hk
      obtain ⟨_, e18, b197, of198, vsb197, rfl, hc199, hrepb197⟩ := hd 18 rfl _ rfl
      have hrepb197 := hrepb197
      obtain rfl := hrepb197
      refine o_loadI (v := .I q195) rfl rfl rfl z_sc3 e18 (hc199 0 _ rfl) ?_
      exact hk _ _ LR rfl
     ·intro ρ' τ pq rs hl hd hq hw hk
      obtain ⟨_, e11, rfl⟩ := hd 11 rfl _ rfl
      obtain ⟨_, e15, rfl⟩ := hd 15 rfl _ rfl
      obtain ⟨_, e19, rfl⟩ := hd 19 rfl _ rfl
      refine st_call (foot := []) rfl rfl rfl rfl (evs_cons e11 (evs_cons e15 (evs_cons e19 rfl))) rfl (callV_fn z_en21 (ref30_Cells_ok hr201 τ (hs3.up ((((((((((hl9.trans hl74).trans hl94).trans hl104).trans hl110).trans hl111).trans hl112).trans hl152).trans hl164).trans hl165).trans hl)) (hs4.up ((((((((((hl9.trans hl74).trans hl94).trans hl104).trans hl110).trans hl111).trans hl112).trans hl152).trans hl164).trans hl165).trans hl)))) ?_
      rintro _ τ202 _ hl203 ⟨v204, rfl, rfl, hs205⟩
      exact hk _ _ hl203 ⟨v204, rfl, hs205⟩
     ·intro ρ' τ pq rs hl hd hq hw hk
      obtain ⟨_, e10, rfl⟩ := hd 10 rfl _ rfl
      obtain ⟨_, e20, v204, rfl, hs205⟩ := hd 20 rfl _ rfl
      refine st_call (foot := []) rfl rfl rfl rfl (evs_cons e10 (evs_cons e20 rfl)) rfl (callV_fn z_en62 (ref30_line_ok hr207 τ hs205)) ?_
      rintro _ τ208 _ hl209 ⟨rfl, rfl⟩
      exact hk _ _ hl209 rfl
     ·intro ρ' τ pq rs hl hd hq hw hk
      obtain ⟨_, e21, rfl⟩ := hd 21 rfl _ rfl
      refine o_litE eS [r206] rfl rfl rfl z_slT70 z_zero9 ⟨rfl, ⟨_, e21, rfl⟩, trivial⟩ rfl rfl rfl rfl (fun v210 g211 ho212 => ?_)
      refine st_freeze (fun τ213 hl214 hg215 => ?_)
      have hs216 := ho212.freeze hl214 hg215
      exact hk _ _ hl214 ⟨v210, rfl, hs216⟩
     ·intro ρ' τ u Fv pq rs hl hI hu hd hq hw hk
      obtain ⟨_, e0, rfl⟩ := hd 0 rfl _ rfl
      obtain ⟨_, e22, v210, rfl, hs216⟩ := hd 22 rfl _ rfl
      have hI0 := hI
      obtain rfl := hI
      refine st_ord [1, 0, 0] _ rfl ?_
      refine o_append (dk := kS) (xs := s165.1) (ys := [r206]) rfl rfl rfl rfl z_slT70 e0 (ho168.up hl) e22 (Sl.src hs216) hf220 hf221 (fun v217 g218 ho219 => ?_)
      refine st_ord [1, 0, 0] _ rfl ?_
      exact hk _ _ [g218] LR trivial (by exact ⟨v217, g218, rfl, rfl, ho219⟩)
     intro ρ' τ225 vals u Fv hl225 hI hu hv hq
     obtain ⟨v222, g223, rfl, rfl, ho224⟩ := hI
     refine st_env (ρ' := [(1, .Pb b5), (2, .N0), (4, v10), (5, .I s74.2), (8, v162), (9, .I s165.2), (110, v222)]) ⟨oT hq 1, oT hq 2, oT hq 4, oT hq 5, oT hq 8, oT hq 9, (by exact hu _ rfl), trivial⟩ (Z 8 ?_)
     exact hn165 _ _ _ _ h ⟨(hl165.trans hl225), _, _, rfl, rfl, ho224⟩
    ·refine Z 2 ?_
     obtain rfl := he165 _ h
     replace h := hA165
     exact hk78 _ _ _ ⟨s165.1, _, _, h, (((((((hl94.trans hl104).trans hl110).trans hl111).trans hl112).trans hl152).trans hl164).trans hl165), rfl, rfl, ho168⟩
   refine ZZ 5 [1] ?_
   refine I2 h (fun h => ?_) (fun h => ?_)
   ·refine ZZ 6 [1, 1] ?_
    refine o_litE (eI .i64) [r87.t4.2.2.2.1, r87.t4.t4.1] rfl rfl rfl z_slT31 z_zero3 ⟨rfl, ⟨_, rfl, rfl⟩, ⟨rfl, ⟨_, rfl, rfl⟩, trivial⟩⟩ rfl rfl rfl rfl (fun v227 g228 ho229 => ?_)
    obtain ⟨r234, hr235, h⟩ := h
    refine st_freeze (fun τ230 hl231 hg232 => ?_)
    have hs233 := ho229.freeze hl231 hg232
    refine st_call (foot := []) rfl rfl rfl rfl (evs_cons (ev_str z_str22) (evs_cons rfl rfl)) rfl (callV_fn z_en62 (ref30_line_ok hr235 τ230 hs233)) ?_
    rintro _ τ236 _ hl237 ⟨rfl, rfl⟩
    obtain ⟨hf238, h⟩ := h
    refine o_sadd rfl rfl rfl rfl rfl hf238 (Z 2 ?_)
    exact hk112 _ _ _ ⟨(s111 ++ r234), h, (hl231.trans hl237), rfl, rfl⟩
   ·refine st_skip ?_
    exact hk112 _ _ _ ⟨s111, h, LR, rfl, rfl⟩
  refine ZZ 5 [2] ?_
  refine I2 h (fun h => ?_) (fun h => ?_)
  ·refine ZZ 12 [2, 2, 2, 2, 2] ?_
   refine o_litE (eI .i64) [r87.1, r87.2.1, r87.2.2.1, r87.2.2.2.1, r87.t4.1] rfl rfl rfl z_slT31 z_zero3 ⟨rfl, ⟨_, rfl, rfl⟩, ⟨rfl, ⟨_, rfl, rfl⟩, ⟨rfl, ⟨_, rfl, rfl⟩, ⟨rfl, ⟨_, rfl, rfl⟩, ⟨rfl, ⟨_, rfl, rfl⟩, trivial⟩⟩⟩⟩⟩ rfl rfl rfl rfl (fun v239 g240 ho241 => ?_)
   obtain ⟨r246, hr247, h⟩ := h
   refine st_freeze (fun τ242 hl243 hg244 => ?_)
   have hs245 := ho241.freeze hl243 hg244
   refine st_call (foot := []) rfl rfl rfl rfl (evs_cons (ev_str z_str21) (evs_cons rfl rfl)) rfl (callV_fn z_en62 (ref30_line_ok hr247 τ242 hs245)) ?_
   rintro _ τ248 _ hl249 ⟨rfl, rfl⟩
   obtain ⟨hf250, h⟩ := h
   refine o_sadd rfl rfl rfl rfl rfl hf250 (Z 2 ?_)
   refine st_ord [0, 1, 0] _ rfl ?_
   exact hk111 _ _ _ ⟨(r107 ++ r246), h, (hl243.trans hl249), rfl, rfl⟩
  ·refine st_skip ?_
   refine st_ord [0, 1, 0] _ rfl ?_
   exact hk111 _ _ _ ⟨r107, h, LR, rfl, rfl⟩
 ·refine st_exit rfl ?_
  obtain rfl := he74 _ h
  replace h := hA74
  exact hk12 _ _ _ ⟨s74.1, _, _, h, hl74, rfl, rfl, ho77⟩
theorem law25_Lines_ok {a0 : List ByteArray} {a1 : List ByteArray} {v1 v3 : Value} {r : Bool} (h : law25_Lines a0 a1 r) (σ : Sto) (hs2 : Sl kS σ v1 a0) (hs4 : Sl kS σ v3 a1) :
    Does prog 35 [v1, v3] σ [] (fun v τ gs => gs = [] ∧ .bool r = v) := by
 refine CO func35 ntmps35 rfl (fun cs fs => Z 8 ?_)
 refine o_lenI rfl rfl rfl z_slT70 rfl hs2 ?_
 refine o_move rfl rfl rfl rfl ?_
 refine o_lenI rfl rfl rfl z_slT70 rfl hs4 (Z 2 ?_)
 refine I2 h (fun h => ?_) (fun h => ?_)
 ·refine Z 4 ?_
  obtain rfl := h.symm
  exact RT func35 rfl LR ⟨rfl, rfl⟩
 ·refine Z 2 ?_
  refine cutS σ (fun (s5 : Unit) => law25_Lines_j1 s5 r) (fun s5 => [(4, .bool false)]) (fun s5 => []) (fun s5 τ5 h hl5 => (Z 4 ?_)) (fun hk5 => ?_)
  ·obtain rfl := h.symm
   exact RT func35 rfl hl5 ⟨rfl, rfl⟩
  refine Z 4 ?_
  obtain ⟨e6, hL6, hA6⟩ := h
  refine st_loop hL6 (fun (s6 : Int) ρ τ6 gs => σ.Le τ6 ∧ ESub ρ [(0, v1), (1, v3), (4, .bool false), (5, .I s6)] ∧ gs = []) ⟨LR, rfl, rfl⟩ ?_
  rintro s6 o6 h he6 ρ6 τ6 gs6 ⟨hl6, hρ, rfl⟩ hn6
  refine st_es hρ (Z 5 ?_)
  refine o_lenI rfl rfl rfl z_slT70 rfl (hs2.up hl6) (Z 2 ?_)
  refine I2 h (fun h => ?_) (fun h => ?_)
  ·refine Z 4 ?_
   obtain ⟨q7, hf8, q12, hf13, h⟩ := h
   refine st_draw 9 (dl [.v (v1), .v (.I s6), .t fun τ v => ∃ (b9 of10 : Nat) (vsb9 : K4), (.pointer (some ⟨b9, of10, none⟩) : Value) = v ∧ CelN τ ⟨b9, of10, none⟩ vsb9 ∧ kS.rep τ vsb9 q7, .v (.string q7), .v (v3), .v (.I s6), .t fun τ v => ∃ (b14 of15 : Nat) (vsb14 : K4), (.pointer (some ⟨b14, of15, none⟩) : Value) = v ∧ CelN τ ⟨b14, of15, none⟩ vsb14 ∧ kS.rep τ vsb14 q12, .v (.string q12), .v (.bool (!(decide (q7 = q12))))]) (fun _ _ => []) z_mix rfl (dl_mono ⟨fun _ _ _ hl ⟨b9, of10, vsb9, hv, hc11, hrepb9⟩ => ⟨b9, of10, vsb9, hv, hc11.up hl, Kd.mono _ hl hrepb9⟩, ⟨fun _ _ _ hl ⟨b14, of15, vsb14, hv, hc16, hrepb14⟩ => ⟨b14, of15, vsb14, hv, hc16.up hl, Kd.mono _ hl hrepb14⟩, trivial⟩⟩) (allB_cons (allB_cons (allB_cons (allB_cons (allB_cons (allB_cons (allB_cons (allB_cons (allB_cons allB_nil (p1 dA)) (p1 dA)) ?_) ?_) (p1 dA)) (p1 dA)) ?_) ?_) (p1 dA)) ?_
   ·intro ρ' τ pq rs hl hd hq hk
    obtain ⟨_, e0, rfl⟩ := hd 0 rfl
    obtain ⟨_, e1, rfl⟩ := hd 1 rfl
    refine o_index rfl rfl rfl z_slT70 rfl e0 (hs2.up (hl6.trans hl)) e1 hf8 (fun b9 of10 vsb9 hc11 hrepb9 => ?_)
    exact st_addNil (hk _ _ LR ⟨b9, of10, _, rfl, hc11, hrepb9⟩)
   ·intro ρ' τ pq rs hl hd hq hk
    obtain ⟨_, e2, b9, of10, vsb9, rfl, hc11, hrepb9⟩ := hd 2 rfl
    have hrepb9 := hrepb9
    obtain rfl := hrepb9
    refine o_loadI (v := .string q7) rfl rfl rfl z_sc9 e2 (hc11 0 _ rfl) ?_
    exact st_addNil (hk _ _ LR rfl)
   ·intro ρ' τ pq rs hl hd hq hk
    obtain ⟨_, e4, rfl⟩ := hd 4 rfl
    obtain ⟨_, e5, rfl⟩ := hd 5 rfl
    refine o_index rfl rfl rfl z_slT70 rfl e4 (hs4.up (hl6.trans hl)) e5 hf13 (fun b14 of15 vsb14 hc16 hrepb14 => ?_)
    exact st_addNil (hk _ _ LR ⟨b14, of15, _, rfl, hc16, hrepb14⟩)
   ·intro ρ' τ pq rs hl hd hq hk
    obtain ⟨_, e6, b14, of15, vsb14, rfl, hc16, hrepb14⟩ := hd 6 rfl
    have hrepb14 := hrepb14
    obtain rfl := hrepb14
    refine o_loadI (v := .string q12) rfl rfl rfl z_sc9 e6 (hc16 0 _ rfl) ?_
    exact st_addNil (hk _ _ LR rfl)
   intro ρ' τ17 vals hl17 hv hq
   refine st_ord [] _ rfl ?_
   refine st_env (ρ' := [(25, .bool (!(decide (q7 = q12)))), (0, v1), (1, v3), (4, .bool false), (5, .I s6)]) ⟨(lv1 hv 8 rfl rfl), oT hq 0, oT hq 1, oT hq 4, oT hq 5, trivial⟩ ?_
   refine st_end ?_
   refine I2 h (fun h => ?_) (fun h => ?_)
   ·refine Z 4 ?_
    obtain rfl := he6 _ h
    replace h := hA6
    obtain rfl := h.symm
    exact RT func35 rfl (hl6.trans hl17) ⟨rfl, rfl⟩
   ·refine Z 7 ?_
    exact hn6 _ _ _ _ h ⟨(hl6.trans hl17), rfl, rfl⟩
  ·refine st_exit rfl ?_
   obtain rfl := he6 _ h
   replace h := hA6
   exact hk5 _ _ _ ⟨(), h, hl6, rfl, rfl⟩
theorem slices_Index_int_int_ok {a0 : List Int} {a1 : Int} {v1 : Value} {r : Int} (h : slices_Index_int_int a0 a1 r) (σ : Sto) (hs2 : Sl (kI .i64) σ v1 a0) :
    Does prog 65 [v1, .I a1] σ [] (fun v τ gs => gs = [] ∧ .I r = v) := by
 refine CO func65 ntmps65 rfl (fun cs fs => Z 5 ?_)
 refine cutS σ (fun (s3 : Unit) => slices_Index_int_int_j1 s3 r) (fun s3 => [(4, .I 0)]) (fun s3 => []) (fun s3 τ3 h hl3 => (Z 4 ?_)) (fun hk3 => ?_)
 ·obtain rfl := h.symm
  exact RT func65 rfl hl3 ⟨rfl, rfl⟩
 refine Z 3 ?_
 refine o_lenI rfl rfl rfl z_slT31 rfl hs2 (Z 2 ?_)
 obtain ⟨e4, hL4, hA4⟩ := h
 refine st_loop hL4 (fun (s4 : Int) ρ τ4 gs => σ.Le τ4 ∧ ESub ρ [(0, v1), (1, .I a1), (4, .I 0), (7, .I (a0.length : Int)), (8, .I s4)] ∧ gs = []) ⟨LR, rfl, rfl⟩ ?_
 rintro s4 o4 h he4 ρ4 τ4 gs4 ⟨hl4, hρ, rfl⟩ hn4
 refine st_es hρ (Z 5 ?_)
 refine I2 h (fun h => ?_) (fun h => ?_)
 ·refine Z 13 ?_
  obtain ⟨q5, hf6, h⟩ := h
  refine o_index rfl rfl rfl z_slT31 rfl rfl (hs2.up hl4) rfl hf6 (fun b7 of8 vs hc9 hrep => ?_)
  obtain rfl := hrep
  refine o_loadI (v := .I q5) rfl rfl rfl z_sc3 rfl (hc9 0 _ rfl) (Z 2 ?_)
  refine I2 h (fun h => ?_) (fun h => ?_)
  ·refine Z 5 ?_
   obtain rfl := he4 _ h
   replace h := hA4
   obtain rfl := h.symm
   exact RT func65 rfl hl4 ⟨rfl, rfl⟩
  ·refine Z 6 ?_
   exact hn4 _ _ _ _ h ⟨hl4, rfl, rfl⟩
 ·refine st_exit rfl ?_
  obtain rfl := he4 _ h
  replace h := hA4
  exact hk3 _ _ _ ⟨(), h, hl4, rfl, rfl⟩
theorem slices_Contains_int_int_ok {a0 : List Int} {a1 : Int} {v1 : Value} {r : Bool} (h : slices_Contains_int_int a0 a1 r) (σ : Sto) (hs2 : Sl (kI .i64) σ v1 a0) :
    Does prog 43 [v1, .I a1] σ [] (fun v τ gs => gs = [] ∧ .bool r = v) := by
 refine CO func43 ntmps43 rfl (fun cs fs => Z 8 ?_)
 obtain ⟨r3, hr4, h⟩ := h
 refine SC z_en65 (slices_Index_int_int_ok hr4 σ hs2) ?_
 rintro _ τ5 _ hl6 ⟨rfl, rfl⟩
 refine Z 3 ?_
 obtain rfl := h.symm
 exact RT func43 rfl hl6 ⟨rfl, rfl⟩
theorem fleet_Fleet_Owners_ok {a0 : List (Int × (Int × Int × Int × Int × Int × Bool × Bool × Int × Int × List (Int × Int) × Int × Int)) × List ((Int × Int) × List Int)} {a1 : Int × Int} {ba0 : Nat} {v1 : Value} {g2 : Grp} {v3 : Value} {g4 : Grp} {r : List Int} (h : fleet_Fleet_Owners a0 a1 r) (σ : Sto) (ho5 : Mp (Value.int .i64) (rK (kP (kI .i64) (kP (kI .i64) (kP (kI .i64) (kP (kI .i64) (kP (kI .i64) (kP kB (kP kB (kP (kI .i64) (kP (kI .i64) (kP (kSl (kP (kI .i64) (kI .i64))) (kP (kI .i64) (kI .i64))))))))))))) σ v1 a0.1 g2) (ho6 : Mp kPr (rSl (kI .i64)) σ v3 a0.2 g4) :
    Does prog 22 [.Pb ba0, .agg [.I a1.1, .I a1.2].toArray] σ [[(ba0, .cells [v1, v3].toArray 76 (0, 0))], g2, g4] (fun v τ gs => ∃ (v63 : Value), gs = [[(ba0, .cells [v1, v3].toArray 76 (0, 0))], g2, g4] ∧ v63 = v ∧ Sl (kI .i64) τ v63 r) := by
 refine CO func22 ntmps22 rfl (fun cs fs => Z 2 ?_)
 refine o_boxC rfl rfl rfl rfl rfl rfl (fun b7 => ?_)
 refine o_boxC rfl rfl rfl rfl rfl rfl (fun b8 => Z 4 ?_)
 refine o_alloc rfl rfl rfl z_zero31 (fun b9 => ZZ 5 [2] ?_)
 obtain ⟨r10, hr11, h⟩ := h
 refine st_ord [3, 3, 3, 0, 0, 0] _ rfl ?_
 refine st_call (foot := [[(ba0, .cells #[v1, v3] 76 (0, 0))], g2, g4]) rfl rfl rfl rfl rfl rfl (callV_fn z_en25 (fleet_Fleet_Robots_ok hr11 σ ho5 ho6)) ?_
 rintro _ τ12 _ hl13 ⟨f14, q15, rfl, rfl, hit16⟩
 refine Z 2 ?_
 obtain ⟨t25, w25, hR25, hA25⟩ := h
 refine st_env (ρ' := [(2, .Pb b7), (3, .Pb b8), (4, .N0), (5, .Pb b9), (8, .func (.func f14) #[] q15)]) ⟨rfl, rfl, rfl, rfl, rfl, trivial⟩ ?_
 refine st_addNil ?_
 refine st_ord [1, 5, 4, 3, 1, 1, 0] _ rfl ?_
 refine st_rangeS (r0 := List.flatten [[(b7, .cells #[.Pb ba0] 23 (0, 0))], [(b8, .cells #[.I a1.1, .I a1.2] 62 (0, 0))], [(b9, .cells #[.N0] 31 (0, 0))], []]) (B := fleet_Fleet_Owners_l1 a0 a1) (s0 := []) ranges_fctx rfl (hit16 a0 _ _ _ _ τ12 LR (ho5.up hl13) (ho6.up hl13)) LR hR25 ((ordG_perm [0, 3, 3, 0, 0, 0, 0] [[(ba0, .cells #[v1, v3] 76 (0, 0))], g2, g4, [(b7, .cells #[.Pb ba0] 23 (0, 0))], [(b8, .cells #[.I a1.1, .I a1.2] 62 (0, 0))], [(b9, .cells #[.N0] 31 (0, 0))], []] rfl rfl).trans (by simp)) rfl (fun _ _ _ h => by cases h; rfl) (fun (s25 : List Int) τ25 gs => τ12.Le τ25 ∧ ∃ (v26 : Value) (g27 : Grp), gs = [[(ba0, .cells #[v1, v3] 76 (0, 0))], [(b7, .cells #[.Pb ba0] 23 (0, 0))], [(b8, .cells #[.I a1.1, .I a1.2] 62 (0, 0))], [(b9, .cells #[v26] 31 (0, 0))], g2, g4, g27] ∧ Ow (kI .i64) 3 τ25 v26 s25 g27) (fun _ _ _ _ => False) (fun _ _ _ _ hl ⟨hb, v26, g27, hg, ho28⟩ => ⟨hb.trans hl, v26, g27, hg, ho28.up hl⟩) (fun _ _ _ _ _ _ h => h.elim) ⟨LR, _, _, rfl, Ow.nil⟩ ?_ ?_ ?_
 ·rintro x25 s25 o25 τ25 gs25 vx25 hl25 h rfl ⟨hb25, v26, g27, rfl, ho28⟩ l25 rc25 caller25 cs25 fs25
  refine Z 3 ?_
  refine st_begin (Z 2 ?_)
  obtain ⟨r31, hr32, h⟩ := h
  refine st_draw 12 (dl [.v (.Pb ba0), .v (.Pb ba0), .v (.pointer (some ⟨ba0, 1, none⟩)), .v (v3), .v (.I x25), .v (.Pb b8), .v (.I a1.1), .v (.agg #[.I x25, .I a1.1]), .t fun τ v => ∃ (v29 : Value), (v29 : Value) = v ∧ Sl (kI .i64) τ v29 ((mget a0.2 (x25, a1.1)).getD []), .v (.pointer (some ⟨b8, 1, none⟩)), .v (.I a1.2), .v (.bool r31)]) (fun _ _ => []) z_mix rfl (dl_mono ⟨fun _ _ _ hl ⟨v29, hv, hv30⟩ => ⟨v29, hv, hv30.up hl⟩, trivial⟩) (allB_cons (allB_cons (allB_cons (allB_cons (allB_cons (allB_cons (allB_cons (allB_cons (allB_cons (allB_cons (allB_cons (allB_cons allB_nil ?_) (p1 dA)) (p1 dA)) ?_) (p1 dA)) (p1 dA)) ?_) ?_) ?_) (p1 dA)) ?_) ?_) ?_
  ·intro ρ' τ pq rs hl hd hq hk
   refine o_load (j := 1) (v := .Pb ba0) rfl rfl rfl z_sc23 (oT hq 2) rfl rfl ?_
   exact st_addNil (hk _ _ LR rfl)
  ·intro ρ' τ pq rs hl hd hq hk
   obtain ⟨_, e2, rfl⟩ := hd 2 rfl
   refine o_load (j := 0) (v := v3) rfl rfl rfl z_sc74 e2 rfl rfl ?_
   exact st_addNil (hk _ _ LR rfl)
  ·intro ρ' τ pq rs hl hd hq hk
   obtain ⟨_, e5, rfl⟩ := hd 5 rfl
   refine o_load (j := 2) (v := .I a1.1) rfl rfl rfl z_sc3 e5 rfl rfl ?_
   exact st_addNil (hk _ _ LR rfl)
  ·intro ρ' τ pq rs hl hd hq hk
   obtain ⟨_, e4, rfl⟩ := hd 4 rfl
   obtain ⟨_, e6, rfl⟩ := hd 6 rfl
   refine o_build (ps := [(0, [.I x25]), (1, [.I a1.1])]) rfl rfl rfl z_struct89 ⟨rfl, ⟨_, e4, rfl⟩, ⟨rfl, ⟨_, e6, rfl⟩, trivial⟩⟩ rfl ?_
   exact st_addNil (hk _ _ LR rfl)
  ·intro ρ' τ pq rs hl hd hq hk
   obtain ⟨_, e3, rfl⟩ := hd 3 rfl
   obtain ⟨_, e7, rfl⟩ := hd 7 rfl
   refine o_lookR (rv := (rSl (kI .i64))) (q0 := []) (j := 5) (a := (x25, a1.1)) rfl rfl rfl z_map74 z_keyP89 z_zeroV31 Sl.nil e3 (ho6.up ((hl13.trans hl25).trans hl)) rfl e7 (fun v29 hv30 => ?_)
   exact st_addNil (hk _ _ LR ⟨v29, rfl, hv30⟩)
  ·intro ρ' τ pq rs hl hd hq hk
   obtain ⟨_, e9, rfl⟩ := hd 9 rfl
   refine o_load (j := 2) (v := .I a1.2) rfl rfl rfl z_sc3 e9 rfl rfl ?_
   exact st_addNil (hk _ _ LR rfl)
  ·intro ρ' τ pq rs hl hd hq hk
   obtain ⟨_, e8, v29, rfl, hv30⟩ := hd 8 rfl
   obtain ⟨_, e10, rfl⟩ := hd 10 rfl
   refine st_call (foot := []) rfl rfl rfl rfl (evs_cons e8 (evs_cons e10 rfl)) rfl (callV_fn z_en43 (slices_Contains_int_int_ok hr32 τ hv30)) ?_
   rintro _ τ33 _ hl34 ⟨rfl, rfl⟩
   exact st_addNil (hk _ _ hl34 rfl)
  intro ρ' τ35 vals hl35 hv hq
  refine st_ord [0, 0, 0, 0, 0, 0, 0] _ rfl ?_
  refine st_env (ρ' := [(21, .bool r31), (2, .Pb b7), (3, .Pb b8), (4, .N0), (5, .Pb b9), (9, .I x25), (6, .I x25)]) ⟨(lv1 hv 11 rfl rfl), oT hq 2, oT hq 3, oT hq 4, oT hq 5, oT hq 9, oT hq 6, trivial⟩ ?_
  refine st_end ?_
  refine I2 h (fun h => ?_) (fun h => ?_)
  ·refine ZZ 3 [3] ?_
   refine o_litE (eI .i64) [x25] rfl rfl rfl z_slT31 z_zero3 ⟨rfl, ⟨_, rfl, rfl⟩, trivial⟩ rfl rfl rfl rfl (fun v36 g37 ho38 => ?_)
   obtain ⟨hf42, hf43, h⟩ := h
   refine st_ord [7, 0, 0, 0, 0, 0, 0, 0] _ rfl ?_
   refine o_append (dk := (kI .i64)) (xs := s25) (ys := [x25]) rfl rfl rfl rfl z_slT31 rfl (ho28.up hl35) rfl (Ow.src (j := 1) ho38 rfl) hf42 hf43 (fun v39 g40 ho41 => ?_)
   refine o_store (j := 5) (vs := [v39]) (cs' := [v39]) rfl rfl rfl z_size31 rfl rfl (oneL_ow ho41) (ones_cons ho41.one' ones_nil) rfl rfl rfl (Z 2 ?_)
   refine st_ord [2, 2, 2, 2, 2, 2, 0] _ rfl ?_
   exact st_rend (List.Sublist.refl _) hl35 ⟨_, h, (hl25.trans hl35), _, _, rfl, ho41⟩
  ·refine Z 2 ?_
   exact st_rend (List.Sublist.refl _) hl35 ⟨_, h, (hl25.trans hl35), _, _, rfl, (ho28.up hl35)⟩
 ·rintro p51 τ52 gs25 ht hl53 ⟨hb, v54, g55, rfl, ho56⟩ 
  subst ht
  replace h := hA25
  refine ZZ 6 [3] ?_
  refine st_ord [6, 0, 0, 0, 0, 0, 0] _ rfl ?_
  refine st_freeze (fun τ57 hl58 hg59 => ?_)
  have hs60 := ho56.freeze hl58 hg59
  refine st_ord [0, 3, 3] _ rfl ?_
  obtain rfl := Eq.symm h
  exact st_ret (gs' := [[(ba0, .cells #[v1, v3] 76 (0, 0))], g2, g4]) func22 rfl (List.Sublist.refl _) ((hl13.trans hl53).trans hl58) ⟨_, rfl, rfl, hs60⟩
 ·exact fun _ _ _ _ _ _ h => h.elim
theorem ref01_Ints_ok {a0 : List Int} {a1 : List Int} {v1 v3 : Value} {r : Bool} (h : ref01_Ints a0 a1 r) (σ : Sto) (hs2 : Sl (kI .i64) σ v1 a0) (hs4 : Sl (kI .i64) σ v3 a1) :
    Does prog 19 [v1, v3] σ [] (fun v τ gs => gs = [] ∧ .bool r = v) := by
 refine CO func19 ntmps19 rfl (fun cs fs => Z 8 ?_)
 refine o_lenI rfl rfl rfl z_slT31 rfl hs2 ?_
 refine o_move rfl rfl rfl rfl ?_
 refine o_lenI rfl rfl rfl z_slT31 rfl hs4 (Z 2 ?_)
 refine I2 h (fun h => ?_) (fun h => ?_)
 ·refine Z 4 ?_
  obtain rfl := h.symm
  exact RT func19 rfl LR ⟨rfl, rfl⟩
 ·refine Z 2 ?_
  refine cutS σ (fun (s5 : Unit) => ref01_Ints_j1 s5 r) (fun s5 => [(4, .bool false)]) (fun s5 => []) (fun s5 τ5 h hl5 => (Z 4 ?_)) (fun hk5 => ?_)
  ·obtain rfl := h.symm
   exact RT func19 rfl hl5 ⟨rfl, rfl⟩
  refine Z 4 ?_
  obtain ⟨e6, hL6, hA6⟩ := h
  refine st_loop hL6 (fun (s6 : Int) ρ τ6 gs => σ.Le τ6 ∧ ESub ρ [(0, v1), (1, v3), (4, .bool false), (5, .I s6)] ∧ gs = []) ⟨LR, rfl, rfl⟩ ?_
  rintro s6 o6 h he6 ρ6 τ6 gs6 ⟨hl6, hρ, rfl⟩ hn6
  refine st_es hρ (Z 5 ?_)
  refine o_lenI rfl rfl rfl z_slT31 rfl (hs2.up hl6) (Z 2 ?_)
  refine I2 h (fun h => ?_) (fun h => ?_)
  ·refine Z 4 ?_
   obtain ⟨q7, hf8, q12, hf13, h⟩ := h
   refine st_draw 9 (dl [.v (v1), .v (.I s6), .t fun τ v => ∃ (b9 of10 : Nat) (vsb9 : K4), (.pointer (some ⟨b9, of10, none⟩) : Value) = v ∧ CelN τ ⟨b9, of10, none⟩ vsb9 ∧ (kI .i64).rep τ vsb9 q7, .v (.I q7), .v (v3), .v (.I s6), .t fun τ v => ∃ (b14 of15 : Nat) (vsb14 : K4), (.pointer (some ⟨b14, of15, none⟩) : Value) = v ∧ CelN τ ⟨b14, of15, none⟩ vsb14 ∧ (kI .i64).rep τ vsb14 q12, .v (.I q12), .v (.bool (!(decide (q7 = q12))))]) (fun _ _ => []) z_mix rfl (dl_mono ⟨fun _ _ _ hl ⟨b9, of10, vsb9, hv, hc11, hrepb9⟩ => ⟨b9, of10, vsb9, hv, hc11.up hl, Kd.mono _ hl hrepb9⟩, ⟨fun _ _ _ hl ⟨b14, of15, vsb14, hv, hc16, hrepb14⟩ => ⟨b14, of15, vsb14, hv, hc16.up hl, Kd.mono _ hl hrepb14⟩, trivial⟩⟩) (allB_cons (allB_cons (allB_cons (allB_cons (allB_cons (allB_cons (allB_cons (allB_cons (allB_cons allB_nil (p1 dA)) (p1 dA)) ?_) ?_) (p1 dA)) (p1 dA)) ?_) ?_) (p1 dA)) ?_
   ·intro ρ' τ pq rs hl hd hq hk
    obtain ⟨_, e0, rfl⟩ := hd 0 rfl
    obtain ⟨_, e1, rfl⟩ := hd 1 rfl
    refine o_index rfl rfl rfl z_slT31 rfl e0 (hs2.up (hl6.trans hl)) e1 hf8 (fun b9 of10 vsb9 hc11 hrepb9 => ?_)
    exact st_addNil (hk _ _ LR ⟨b9, of10, _, rfl, hc11, hrepb9⟩)
   ·intro ρ' τ pq rs hl hd hq hk
    obtain ⟨_, e2, b9, of10, vsb9, rfl, hc11, hrepb9⟩ := hd 2 rfl
    have hrepb9 := hrepb9
    obtain rfl := hrepb9
    refine o_loadI (v := .I q7) rfl rfl rfl z_sc3 e2 (hc11 0 _ rfl) ?_
    exact st_addNil (hk _ _ LR rfl)
   ·intro ρ' τ pq rs hl hd hq hk
    obtain ⟨_, e4, rfl⟩ := hd 4 rfl
    obtain ⟨_, e5, rfl⟩ := hd 5 rfl
    refine o_index rfl rfl rfl z_slT31 rfl e4 (hs4.up (hl6.trans hl)) e5 hf13 (fun b14 of15 vsb14 hc16 hrepb14 => ?_)
    exact st_addNil (hk _ _ LR ⟨b14, of15, _, rfl, hc16, hrepb14⟩)
   ·intro ρ' τ pq rs hl hd hq hk
    obtain ⟨_, e6, b14, of15, vsb14, rfl, hc16, hrepb14⟩ := hd 6 rfl
    have hrepb14 := hrepb14
    obtain rfl := hrepb14
    refine o_loadI (v := .I q12) rfl rfl rfl z_sc3 e6 (hc16 0 _ rfl) ?_
    exact st_addNil (hk _ _ LR rfl)
   intro ρ' τ17 vals hl17 hv hq
   refine st_ord [] _ rfl ?_
   refine st_env (ρ' := [(25, .bool (!(decide (q7 = q12)))), (0, v1), (1, v3), (4, .bool false), (5, .I s6)]) ⟨(lv1 hv 8 rfl rfl), oT hq 0, oT hq 1, oT hq 4, oT hq 5, trivial⟩ ?_
   refine st_end ?_
   refine I2 h (fun h => ?_) (fun h => ?_)
   ·refine Z 4 ?_
    obtain rfl := he6 _ h
    replace h := hA6
    obtain rfl := h.symm
    exact RT func19 rfl (hl6.trans hl17) ⟨rfl, rfl⟩
   ·refine Z 7 ?_
    exact hn6 _ _ _ _ h ⟨(hl6.trans hl17), rfl, rfl⟩
  ·refine st_exit rfl ?_
   obtain rfl := he6 _ h
   replace h := hA6
   exact hk5 _ _ _ ⟨(), h, hl6, rfl, rfl⟩
theorem law30_Alike_ok {a0 : List (Int × (Int × Int × Int × Int × Int × Bool × Bool × Int × Int × List (Int × Int) × Int × Int)) × List ((Int × Int) × List Int)} {a1 : List (TyR) × List (Int × Int × List Int)} {ba0 : Nat} {v1 : Value} {g2 : Grp} {v3 : Value} {g4 : Grp} {v7 v8 : Value} {r : Bool} (h : law30_Alike a0 a1 r) (σ : Sto) (ho5 : Mp (Value.int .i64) (rK (kP (kI .i64) (kP (kI .i64) (kP (kI .i64) (kP (kI .i64) (kP (kI .i64) (kP kB (kP kB (kP (kI .i64) (kP (kI .i64) (kP (kSl (kP (kI .i64) (kI .i64))) (kP (kI .i64) (kI .i64))))))))))))) σ v1 a0.1 g2) (ho6 : Mp kPr (rSl (kI .i64)) σ v3 a0.2 g4) (hs9 : Sl (kP (kI .i64) (kP (kA .i64 6) (kP (kSl (kA .i64 2)) (kP (kSl (kI .i64)) (kP kS kS))))) σ v7 a1.1) (hs10 : Sl (kP (kI .i64) (kP (kI .i64) (kSl (kI .i64)))) σ v8 a1.2) (hT : Tab prog σ) :
    Does prog 13 [.Pb ba0, .agg [v7, v8].toArray] σ [[(ba0, .cells [v1, v3].toArray 76 (0, 0))], g2, g4] (fun v τ gs => gs = [[(ba0, .cells [v1, v3].toArray 76 (0, 0))], g2, g4] ∧ .bool r = v) := by
 refine CO func13 ntmps13 rfl (fun cs fs => Z 2 ?_)
 refine o_boxC rfl rfl rfl rfl rfl rfl (fun b11 => ?_)
 refine o_box (cs := [v7, v8]) rfl rfl rfl rfl rfl (fun b12 => ZZ 5 [0] ?_)
 obtain ⟨r13, hr14, h⟩ := h
 refine SC z_en16 (ref30_Robots_ok hr14 σ hs9 hs10) ?_
 rintro _ τ15 _ hl16 ⟨v17, rfl, rfl, hs18⟩
 refine o_alloc rfl rfl rfl z_zero31 (fun b19 => ?_)
 refine o_store (j := 0) (vs := [v17]) (cs' := [v17]) rfl rfl rfl z_size31 rfl rfl (oneL_sl hs18) (ones_cons hs18.one' ones_nil) rfl rfl rfl (Z 3 ?_)
 refine o_alloc rfl rfl rfl z_zero3 (fun b20 => ?_)
 refine o_alloc rfl rfl rfl z_zero4 (fun b21 => ZZ 6 [1, 0, 4] ?_)
 obtain ⟨r22, hr23, h⟩ := h
 refine st_ord [5, 5, 5, 0, 0, 0, 0, 0] _ rfl ?_
 refine st_call (foot := [[(ba0, .cells #[v1, v3] 76 (0, 0))], g2, g4]) rfl rfl rfl rfl rfl rfl (callV_fn z_en25 (fleet_Fleet_Robots_ok hr23 τ15 (ho5.up hl16) (ho6.up hl16))) ?_
 rintro _ τ24 _ hl25 ⟨f26, q27, rfl, rfl, hit28⟩
 refine Z 16 ?_
 obtain ⟨t37, w37, hR37, hA37⟩ := h
 refine st_env (ρ' := [(2, .Pb b11), (3, .Pb b12), (4, .bool false), (5, .Pb b19), (6, .Pb b20), (7, .Pb b21), (21, .func (.func f26) #[] q27)]) ⟨rfl, rfl, rfl, rfl, rfl, rfl, rfl, trivial⟩ ?_
 refine st_ord [0, 6, 5, 4, 3, 2, 0, 0] _ rfl ?_
 refine st_rangeS (r0 := List.flatten [[(b11, .cells #[.Pb ba0] 23 (0, 0))], [(b12, .cells #[v7, v8] 28 (0, 0))], [(b19, .cells #[v17] 31 (0, 0))], [(b20, .cells #[.I 0] 3 (0, 0))], [(b21, .cells #[.bool true] 4 (0, 0))]]) (B := law30_Alike_l1 a0 a1 r13) (s0 := (0, true)) ranges_fctx rfl (hit28 a0 _ _ _ _ τ24 LR (ho5.up (hl16.trans hl25)) (ho6.up (hl16.trans hl25))) LR hR37 ((ordG_perm [0, 5, 5, 0, 0, 0, 0, 0] [[(ba0, .cells #[v1, v3] 76 (0, 0))], g2, g4, [(b11, .cells #[.Pb ba0] 23 (0, 0))], [(b12, .cells #[v7, v8] 28 (0, 0))], [(b19, .cells #[v17] 31 (0, 0))], [(b20, .cells #[.I 0] 3 (0, 0))], [(b21, .cells #[.bool true] 4 (0, 0))]] rfl rfl).trans (by simp)) rfl (fun _ _ _ h => by cases h; rfl) (fun (s37 : Int × Bool) τ37 gs => τ24.Le τ37 ∧ gs = [[(ba0, .cells #[v1, v3] 76 (0, 0))], [(b11, .cells #[.Pb ba0] 23 (0, 0))], [(b12, .cells #[v7, v8] 28 (0, 0))], [(b19, .cells #[v17] 31 (0, 0))], [(b20, .cells #[.I s37.1] 3 (0, 0))], [(b21, .cells #[.bool s37.2] 4 (0, 0))], g2, g4]) (fun _ _ _ _ => False) (fun _ _ _ _ hl ⟨hb, hg⟩ => ⟨hb.trans hl, hg⟩) (fun _ _ _ _ _ _ h => h.elim) ⟨LR, rfl⟩ ?_ ?_ ?_
 ·rintro x37 s37 o37 τ37 gs37 vx37 hl37 h rfl ⟨hb37, rfl⟩ l37 rc37 caller37 cs37 fs37
  refine Z 3 ?_
  refine st_begin (ZZ 5 [1] ?_)
  obtain ⟨r38, hr39, h⟩ := h
  refine st_ord [0, 5, 5, 0, 0, 0, 0, 0] _ rfl ?_
  refine st_call (foot := [[(ba0, .cells #[v1, v3] 76 (0, 0))], g2, g4]) rfl rfl rfl rfl rfl rfl (callV_fn z_en15 (fleet_Fleet_Robot_ok hr39 τ37 (ho5.up ((hl16.trans hl25).trans hl37)) (ho6.up ((hl16.trans hl25).trans hl37)))) ?_
  rintro _ τ40 _ hl41 ⟨v42, rfl, rfl, hs43⟩
  refine Z 3 ?_
  refine o_alloc rfl rfl rfl z_zero49 (fun b44 => ?_)
  refine o_store (j := 0) (vs := [.I r38.1.1, .I r38.1.2.1, .I r38.1.2.2.1, .I r38.1.2.2.2.1, .I r38.1.t4.1, .bool r38.1.t4.2.1, .bool r38.1.t4.2.2.1, .I r38.1.t4.2.2.2.1, .I r38.1.t4.t4.1, v42, .I r38.1.t4.t4.2.2.1, .I r38.1.t4.t4.2.2.2]) (cs' := [.I r38.1.1, .I r38.1.2.1, .I r38.1.2.2.1, .I r38.1.2.2.2.1, .I r38.1.t4.1, .bool r38.1.t4.2.1, .bool r38.1.t4.2.2.1, .I r38.1.t4.2.2.2.1, .I r38.1.t4.t4.1, v42, .I r38.1.t4.t4.2.2.1, .I r38.1.t4.t4.2.2.2]) rfl rfl rfl z_size49 rfl rfl rfl (o4 (o4 (ones_cons rfl (ones_cons hs43.one' (ones_cons rfl (ones_cons rfl ones_nil)))))) rfl rfl rfl (Z 3 ?_)
  obtain ⟨q47, hf48, r54, hr55, r60, hr61, h⟩ := h
  let cc45 : Prop := s37.2 = true
  let cc46 : Prop := (s37.2 && (decide (s37.1 < (r13.length : Int)))) = true
  let cc52 : Prop := ((s37.2 && (decide (s37.1 < (r13.length : Int)))) && (decide (x37 = q47))) = true
  let cc53 : Prop := (((s37.2 && (decide (s37.1 < (r13.length : Int)))) && (decide (x37 = q47))) && r38.2) = true
  refine st_draw 25 (dl [.v (.bool s37.2), .v (.bool s37.2), .g cc45 (.I s37.1), .g cc45 (v17), .g cc45 (.I (r13.length : Int)), .g cc45 (.bool (decide (s37.1 < (r13.length : Int)))), .v (.bool (s37.2 && (decide (s37.1 < (r13.length : Int))))), .v (.bool (s37.2 && (decide (s37.1 < (r13.length : Int))))), .g cc46 (.I x37), .g cc46 (v17), .g cc46 (.I s37.1), .h cc46 fun τ v => ∃ (b49 of50 : Nat) (vsb49 : K4), (.pointer (some ⟨b49, of50, none⟩) : Value) = v ∧ CelN τ ⟨b49, of50, none⟩ vsb49 ∧ (kI .i64).rep τ vsb49 q47, .g cc46 (.I q47), .g cc46 (.bool (decide (x37 = q47))), .v (.bool ((s37.2 && (decide (s37.1 < (r13.length : Int)))) && (decide (x37 = q47)))), .v (.bool ((s37.2 && (decide (s37.1 < (r13.length : Int)))) && (decide (x37 = q47)))), .g cc52 (.bool r38.2), .v (.bool (((s37.2 && (decide (s37.1 < (r13.length : Int)))) && (decide (x37 = q47))) && r38.2)), .v (.bool (((s37.2 && (decide (s37.1 < (r13.length : Int)))) && (decide (x37 = q47))) && r38.2)), .g cc53 (.agg #[.I r38.1.1, .I r38.1.2.1, .I r38.1.2.2.1, .I r38.1.2.2.2.1, .I r38.1.t4.1, .bool r38.1.t4.2.1, .bool r38.1.t4.2.2.1, .I r38.1.t4.2.2.2.1, .I r38.1.t4.t4.1, v42, .I r38.1.t4.t4.2.2.1, .I r38.1.t4.t4.2.2.2]), .g cc53 (.agg #[v7, v8]), .g cc53 (.I x37), .h cc53 fun τ v => ∃ (v58 : Value), (.agg #[.I r54.1, .I r54.2.1, .I r54.2.2.1, .I r54.2.2.2.1, .I r54.t4.1, .bool r54.t4.2.1, .bool r54.t4.2.2.1, .I r54.t4.2.2.2.1, .I r54.t4.t4.1, v58, .I r54.t4.t4.2.2.1, .I r54.t4.t4.2.2.2] : Value) = v ∧ Sl (kA .i64 2) τ v58 r54.t4.t4.2.1, .g cc53 (.bool r60), .v (.bool ((((s37.2 && (decide (s37.1 < (r13.length : Int)))) && (decide (x37 = q47))) && r38.2) && r60))]) (fun _ _ => []) z_mix rfl (dl_mono (by exact ⟨fun _ _ _ hl ⟨b49, of50, vsb49, hv, hc51, hrepb49⟩ => ⟨b49, of50, vsb49, hv, hc51.up hl, Kd.mono _ hl hrepb49⟩, ⟨fun _ _ _ hl ⟨v58, hv, hs59⟩ => ⟨v58, hv, hs59.up hl⟩, trivial⟩⟩)) (allB_cons (allB_cons (allB_cons (allB_cons (allB_cons (allB_cons (allB_cons (allB_cons (allB_cons (allB_cons (allB_cons (allB_cons (allB_cons (allB_cons (allB_cons (allB_cons (allB_cons (allB_cons (allB_cons (allB_cons (allB_cons (allB_cons (allB_cons (allB_cons (allB_cons allB_nil ?_) (p1 dA)) ?_) ?_) ?_) (p1 (dG [2, 4]))) (p1 dK)) (p1 dA)) (p1 (dG []))) ?_) ?_) ?_) ?_) (p1 (dG [8, 12]))) (p1 dK)) (p1 dA)) (p1 (dG []))) (p1 dK)) (p1 dA)) ?_) ?_) (p1 (dG []))) ?_) ?_) (p1 dK)) ?_
  ·intro ρ' τ pq rs hl hd hq hk
   refine o_load (j := 8) (v := .bool s37.2) rfl rfl rfl z_sc4 (oT hq 7) rfl rfl ?_
   exact st_addNil (hk _ _ LR rfl)
  ·intro ρ' τ pq rs hl hd hq hk
   obtain ⟨_, e1, rfl⟩ := hd 1 rfl
   by_cases hG : s37.2 = true
   ·have hC := hG
    refine o_load (j := 7) (v := .I s37.1) rfl (wants_of rfl e1 hG) rfl z_sc3 (oT hq 6) rfl rfl ?_
    exact st_addNil (hk _ _ LR ⟨fun _ => rfl, fun hn => absurd hC hn⟩)
   ·refine st_pass rfl rfl rfl e1 (beq_off hG) rfl ?_
    exact st_addNil (hk _ _ LR ⟨fun h => absurd h hG, fun _ => rfl⟩)
  ·intro ρ' τ pq rs hl hd hq hk
   obtain ⟨_, e1, rfl⟩ := hd 1 rfl
   by_cases hG : s37.2 = true
   ·have hC := hG
    refine o_load (j := 6) (v := v17) rfl (wants_of rfl e1 hG) rfl z_sc31 (oT hq 5) rfl rfl ?_
    exact st_addNil (hk _ _ LR ⟨fun _ => rfl, fun hn => absurd hC hn⟩)
   ·refine st_pass rfl rfl rfl e1 (beq_off hG) rfl ?_
    exact st_addNil (hk _ _ LR ⟨fun h => absurd h hG, fun _ => rfl⟩)
  ·intro ρ' τ pq rs hl hd hq hk
   obtain ⟨_, e1, rfl⟩ := hd 1 rfl
   obtain ⟨w3, e3, t3⟩ := hd 3 rfl
   by_cases hG : s37.2 = true
   ·have hC := hG
    obtain ⟨rfl⟩ := t3.1 hC
    refine o_lenI rfl (wants_of rfl e1 hG) rfl z_slT31 e3 (hs18.up (((hl25.trans hl37).trans hl41).trans hl)) ?_
    exact st_addNil (hk _ _ LR ⟨fun _ => rfl, fun hn => absurd hC hn⟩)
   ·refine st_pass rfl rfl rfl e1 (beq_off hG) rfl ?_
    exact st_addNil (hk _ _ LR ⟨fun h => absurd h hG, fun _ => rfl⟩)
  ·intro ρ' τ pq rs hl hd hq hk
   obtain ⟨_, e7, rfl⟩ := hd 7 rfl
   by_cases hG : (s37.2 && (decide (s37.1 < (r13.length : Int)))) = true
   ·have hC := hG
    refine o_load (j := 6) (v := v17) rfl (wants_of rfl e7 hG) rfl z_sc31 (oT hq 5) rfl rfl ?_
    exact st_addNil (hk _ _ LR ⟨fun _ => rfl, fun hn => absurd hC hn⟩)
   ·refine st_pass rfl rfl rfl e7 (beq_off hG) rfl ?_
    exact st_addNil (hk _ _ LR ⟨fun h => absurd h hG, fun _ => rfl⟩)
  ·intro ρ' τ pq rs hl hd hq hk
   obtain ⟨_, e7, rfl⟩ := hd 7 rfl
   by_cases hG : (s37.2 && (decide (s37.1 < (r13.length : Int)))) = true
   ·have hC := hG
    refine o_load (j := 7) (v := .I s37.1) rfl (wants_of rfl e7 hG) rfl z_sc3 (oT hq 6) rfl rfl ?_
    exact st_addNil (hk _ _ LR ⟨fun _ => rfl, fun hn => absurd hC hn⟩)
   ·refine st_pass rfl rfl rfl e7 (beq_off hG) rfl ?_
    exact st_addNil (hk _ _ LR ⟨fun h => absurd h hG, fun _ => rfl⟩)
  ·intro ρ' τ pq rs hl hd hq hk
   obtain ⟨_, e7, rfl⟩ := hd 7 rfl
   obtain ⟨w9, e9, t9⟩ := hd 9 rfl
   obtain ⟨w10, e10, t10⟩ := hd 10 rfl
   by_cases hG : (s37.2 && (decide (s37.1 < (r13.length : Int)))) = true
   ·have hC := hG
    replace hf48 := hf48 hC
    obtain ⟨rfl⟩ := t9.1 hC
    obtain ⟨rfl⟩ := t10.1 hC
    refine o_index rfl (wants_of rfl e7 hG) rfl z_slT31 rfl e9 (hs18.up (((hl25.trans hl37).trans hl41).trans hl)) e10 hf48 (fun b49 of50 vsb49 hc51 hrepb49 => ?_)
    exact st_addNil (hk _ _ LR ⟨fun _ => ⟨b49, of50, _, rfl, hc51, hrepb49⟩, fun hn => absurd hC hn⟩)
   ·refine st_pass rfl rfl rfl e7 (beq_off hG) rfl ?_
    exact st_addNil (hk _ _ LR ⟨fun h => absurd h hG, fun _ => rfl⟩)
  ·intro ρ' τ pq rs hl hd hq hk
   obtain ⟨_, e7, rfl⟩ := hd 7 rfl
   obtain ⟨w11, e11, t11⟩ := hd 11 rfl
   by_cases hG : (s37.2 && (decide (s37.1 < (r13.length : Int)))) = true
   ·have hC := hG
    obtain ⟨b49, of50, vsb49, rfl, hc51, hrepb49⟩ := t11.1 hC
    have hrepb49 := hrepb49
    obtain rfl := hrepb49
    refine o_loadI (v := .I q47) rfl (wants_of rfl e7 hG) rfl z_sc3 e11 (hc51 0 _ rfl) ?_
    exact st_addNil (hk _ _ LR ⟨fun _ => rfl, fun hn => absurd hC hn⟩)
   ·refine st_pass rfl rfl rfl e7 (beq_off hG) rfl ?_
    exact st_addNil (hk _ _ LR ⟨fun h => absurd h hG, fun _ => rfl⟩)
  ·intro ρ' τ pq rs hl hd hq hk
   obtain ⟨_, e18, rfl⟩ := hd 18 rfl
   by_cases hG : (((s37.2 && (decide (s37.1 < (r13.length : Int)))) && (decide (x37 = q47))) && r38.2) = true
   ·have hC := hG
    refine o_loadN (j := 0) (vs := [.I r38.1.1, .I r38.1.2.1, .I r38.1.2.2.1, .I r38.1.2.2.2.1, .I r38.1.t4.1, .bool r38.1.t4.2.1, .bool r38.1.t4.2.2.1, .I r38.1.t4.2.2.2.1, .I r38.1.t4.t4.1, v42, .I r38.1.t4.t4.2.2.1, .I r38.1.t4.t4.2.2.2]) rfl (wants_of rfl e18 hG) rfl z_agg49 (oT hq 10) rfl rfl ?_
    exact st_addNil (hk _ _ LR ⟨fun _ => rfl, fun hn => absurd hC hn⟩)
   ·refine st_pass rfl rfl rfl e18 (beq_off hG) rfl ?_
    exact st_addNil (hk _ _ LR ⟨fun h => absurd h hG, fun _ => rfl⟩)
  ·intro ρ' τ pq rs hl hd hq hk
   obtain ⟨_, e18, rfl⟩ := hd 18 rfl
   by_cases hG : (((s37.2 && (decide (s37.1 < (r13.length : Int)))) && (decide (x37 = q47))) && r38.2) = true
   ·have hC := hG
    refine o_loadN (j := 5) (vs := [v7, v8]) rfl (wants_of rfl e18 hG) rfl z_agg28 (oT hq 3) rfl rfl ?_
    exact st_addNil (hk _ _ LR ⟨fun _ => rfl, fun hn => absurd hC hn⟩)
   ·refine st_pass rfl rfl rfl e18 (beq_off hG) rfl ?_
    exact st_addNil (hk _ _ LR ⟨fun h => absurd h hG, fun _ => rfl⟩)
  ·intro ρ' τ pq rs hl hd hq hk
   obtain ⟨_, e18, rfl⟩ := hd 18 rfl
   obtain ⟨w20, e20, t20⟩ := hd 20 rfl
   obtain ⟨w21, e21, t21⟩ := hd 21 rfl
   by_cases hG : (((s37.2 && (decide (s37.1 < (r13.length : Int)))) && (decide (x37 = q47))) && r38.2) = true
   ·have hC := hG
    replace hr55 := hr55 hC
    obtain ⟨rfl⟩ := t20.1 hC
    obtain ⟨rfl⟩ := t21.1 hC
    refine st_call (foot := []) rfl (wants_of rfl e18 hG) rfl rfl (evs_cons e20 (evs_cons e21 rfl)) rfl (callV_fn z_en18 (ref30_Robot_ok hr55 τ (hs9.up ((((hl16.trans hl25).trans hl37).trans hl41).trans hl)) (hs10.up ((((hl16.trans hl25).trans hl37).trans hl41).trans hl)))) ?_
    rintro _ τ56 _ hl57 ⟨v58, rfl, rfl, hs59⟩
    exact st_addNil (hk _ _ hl57 ⟨fun _ => ⟨v58, rfl, hs59⟩, fun hn => absurd hC hn⟩)
   ·refine st_pass rfl rfl rfl e18 (beq_off hG) rfl ?_
    exact st_addNil (hk _ _ LR ⟨fun h => absurd h hG, fun _ => rfl⟩)
  ·intro ρ' τ pq rs hl hd hq hk
   obtain ⟨_, e18, rfl⟩ := hd 18 rfl
   obtain ⟨w19, e19, t19⟩ := hd 19 rfl
   obtain ⟨w22, e22, t22⟩ := hd 22 rfl
   by_cases hG : (((s37.2 && (decide (s37.1 < (r13.length : Int)))) && (decide (x37 = q47))) && r38.2) = true
   ·have hC := hG
    replace hr61 := hr61 hC
    obtain ⟨rfl⟩ := t19.1 hC
    obtain ⟨v58, rfl, hs59⟩ := t22.1 hC
    refine st_call (foot := []) rfl (wants_of rfl e18 hG) rfl rfl (evs_cons e19 (evs_cons e22 rfl)) rfl (callV_fn z_en17 (law30_robot_ok hr61 τ (hs43.up hl) hs59)) ?_
    rintro _ τ62 _ hl63 ⟨rfl, rfl⟩
    exact st_addNil (hk _ _ hl63 ⟨fun _ => rfl, fun hn => absurd hC hn⟩)
   ·refine st_pass rfl rfl rfl e18 (beq_off hG) rfl ?_
    exact st_addNil (hk _ _ LR ⟨fun h => absurd h hG, fun _ => rfl⟩)
  intro ρ' τ64 vals hl64 hv hq
  refine st_ord [0, 0, 0, 0, 0, 0, 0, 0, 0] _ rfl ?_
  refine st_env (ρ' := [(53, .bool ((((s37.2 && (decide (s37.1 < (r13.length : Int)))) && (decide (x37 = q47))) && r38.2) && r60)), (2, .Pb b11), (3, .Pb b12), (4, .bool false), (5, .Pb b19), (6, .Pb b20), (7, .Pb b21), (22, .I x37), (9, .I x37)]) ⟨(lv1 hv 24 rfl rfl), oT hq 2, oT hq 3, oT hq 4, oT hq 5, oT hq 6, oT hq 7, oT hq 22, oT hq 9, trivial⟩ (ZZ 8 [8, 7, 7] ?_)
  refine st_ord [1, 3, 3, 3, 3, 3, 1, 1] _ rfl ?_
  exact st_rend (List.Sublist.refl _) (hl41.trans hl64) ⟨_, h, ((hl37.trans hl41).trans hl64), rfl⟩
 ·rintro p72 τ73 gs37 ht hl74 ⟨hb, rfl⟩ 
  subst ht
  replace h := hA37
  refine ZZ 4 [2] ?_
  obtain ⟨r75, hr76, h⟩ := h
  refine SC z_en34 (ref30_Contested_ok hr76 τ73 (hs9.up ((hl16.trans hl25).trans hl74)) (hs10.up ((hl16.trans hl25).trans hl74))) ?_
  rintro _ τ77 _ hl78 ⟨v79, rfl, rfl, hs80⟩
  refine ZZ 5 [1] ?_
  obtain ⟨r81, hr82, h⟩ := h
  refine st_ord [0, 5, 5, 0, 0, 0, 0, 0] _ rfl ?_
  refine st_call (foot := [[(ba0, .cells #[v1, v3] 76 (0, 0))], g2, g4]) rfl rfl rfl rfl rfl rfl (callV_fn z_en26 (fleet_Fleet_Contested_ok hr82 τ77 (ho5.up (((hl16.trans hl25).trans hl74).trans hl78)) (ho6.up (((hl16.trans hl25).trans hl74).trans hl78)))) ?_
  rintro _ τ83 _ hl84 ⟨v85, rfl, rfl, hs86⟩
  refine Z 4 ?_
  obtain ⟨r90, hr91, r96, hr97, r102, hr103, h⟩ := h
  let cc87 : Prop := (!p72.2) = false
  let cc88 : Prop := ((!p72.2) || (!(decide (p72.1 = (r13.length : Int))))) = false
  let cc89 : Prop := (((!p72.2) || (!(decide (p72.1 = (r13.length : Int))))) || (!(decide ((r75.length : Int) = (r81.length : Int))))) = false
  refine st_draw 23 (dl [.v (.bool p72.2), .v (.bool (!p72.2)), .v (.bool (!p72.2)), .g cc87 (.I p72.1), .g cc87 (v17), .g cc87 (.I (r13.length : Int)), .g cc87 (.bool (!(decide (p72.1 = (r13.length : Int))))), .v (.bool ((!p72.2) || (!(decide (p72.1 = (r13.length : Int)))))), .v (.bool ((!p72.2) || (!(decide (p72.1 = (r13.length : Int)))))), .g cc88 (v79), .g cc88 (.I (r75.length : Int)), .g cc88 (v85), .g cc88 (.I (r81.length : Int)), .g cc88 (.bool (!(decide ((r75.length : Int) = (r81.length : Int))))), .v (.bool (((!p72.2) || (!(decide (p72.1 = (r13.length : Int))))) || (!(decide ((r75.length : Int) = (r81.length : Int)))))), .v (.bool (((!p72.2) || (!(decide (p72.1 = (r13.length : Int))))) || (!(decide ((r75.length : Int) = (r81.length : Int)))))), .g cc89 (.Pb ba0), .h cc89 fun τ v => ∃ (v94 : Value), (v94 : Value) = v ∧ Sl kS τ v94 r90, .g cc89 (.agg #[v7, v8]), .h cc89 fun τ v => ∃ (v100 : Value), (v100 : Value) = v ∧ Sl kS τ v100 r96, .g cc89 (.bool r102), .g cc89 (.bool (!r102)), .v (.bool ((((!p72.2) || (!(decide (p72.1 = (r13.length : Int))))) || (!(decide ((r75.length : Int) = (r81.length : Int))))) || (!r102)))]) (fun _ _ => []) z_mix rfl (dl_mono (by exact ⟨fun _ _ _ hl ⟨v94, hv, hs95⟩ => ⟨v94, hv, hs95.up hl⟩, ⟨fun _ _ _ hl ⟨v100, hv, hs101⟩ => ⟨v100, hv, hs101.up hl⟩, trivial⟩⟩)) (allB_cons (allB_cons (allB_cons (allB_cons (allB_cons (allB_cons (allB_cons (allB_cons (allB_cons (allB_cons (allB_cons (allB_cons (allB_cons (allB_cons (allB_cons (allB_cons (allB_cons (allB_cons (allB_cons (allB_cons (allB_cons (allB_cons (allB_cons allB_nil ?_) (p1 dA)) (p1 dA)) ?_) ?_) ?_) (p1 (dG [3, 5]))) (p1 dO)) (p1 dA)) (p1 (dG []))) ?_) (p1 (dG []))) ?_) (p1 (dG [10, 12]))) (p1 dO)) (p1 dA)) ?_) ?_) ?_) ?_) ?_) (p1 (dG [20]))) (p1 dO)) ?_
  ·intro ρ' τ pq rs hl hd hq hk
   refine o_load (j := 7) (v := .bool p72.2) rfl rfl rfl z_sc4 (oT hq 7) rfl rfl ?_
   exact st_addNil (hk _ _ LR rfl)
  ·intro ρ' τ pq rs hl hd hq hk
   obtain ⟨_, e2, rfl⟩ := hd 2 rfl
   by_cases hG : (!p72.2) = false
   ·have hC := hG
    refine o_load (j := 6) (v := .I p72.1) rfl (wants_of rfl e2 hG) rfl z_sc3 (oT hq 6) rfl rfl ?_
    exact st_addNil (hk _ _ LR ⟨fun _ => rfl, fun hn => absurd hC hn⟩)
   ·refine st_pass rfl rfl rfl e2 (beq_off hG) rfl ?_
    exact st_addNil (hk _ _ LR ⟨fun h => absurd h hG, fun _ => rfl⟩)
  ·intro ρ' τ pq rs hl hd hq hk
   obtain ⟨_, e2, rfl⟩ := hd 2 rfl
   by_cases hG : (!p72.2) = false
   ·have hC := hG
    refine o_load (j := 5) (v := v17) rfl (wants_of rfl e2 hG) rfl z_sc31 (oT hq 5) rfl rfl ?_
    exact st_addNil (hk _ _ LR ⟨fun _ => rfl, fun hn => absurd hC hn⟩)
   ·refine st_pass rfl rfl rfl e2 (beq_off hG) rfl ?_
    exact st_addNil (hk _ _ LR ⟨fun h => absurd h hG, fun _ => rfl⟩)
  ·intro ρ' τ pq rs hl hd hq hk
   obtain ⟨_, e2, rfl⟩ := hd 2 rfl
   obtain ⟨w4, e4, t4⟩ := hd 4 rfl
   by_cases hG : (!p72.2) = false
   ·have hC := hG
    obtain ⟨rfl⟩ := t4.1 hC
    refine o_lenI rfl (wants_of rfl e2 hG) rfl z_slT31 e4 (hs18.up ((((hl25.trans hl74).trans hl78).trans hl84).trans hl)) ?_
    exact st_addNil (hk _ _ LR ⟨fun _ => rfl, fun hn => absurd hC hn⟩)
   ·refine st_pass rfl rfl rfl e2 (beq_off hG) rfl ?_
    exact st_addNil (hk _ _ LR ⟨fun h => absurd h hG, fun _ => rfl⟩)
  ·intro ρ' τ pq rs hl hd hq hk
   obtain ⟨_, e8, rfl⟩ := hd 8 rfl
   obtain ⟨w9, e9, t9⟩ := hd 9 rfl
   by_cases hG : ((!p72.2) || (!(decide (p72.1 = (r13.length : Int))))) = false
   ·have hC := hG
    obtain ⟨rfl⟩ := t9.1 hC
    refine o_lenI rfl (wants_of rfl e8 hG) rfl z_slT39 e9 (hs80.up (hl84.trans hl)) ?_
    exact st_addNil (hk _ _ LR ⟨fun _ => rfl, fun hn => absurd hC hn⟩)
   ·refine st_pass rfl rfl rfl e8 (beq_off hG) rfl ?_
    exact st_addNil (hk _ _ LR ⟨fun h => absurd h hG, fun _ => rfl⟩)
  ·intro ρ' τ pq rs hl hd hq hk
   obtain ⟨_, e8, rfl⟩ := hd 8 rfl
   obtain ⟨w11, e11, t11⟩ := hd 11 rfl
   by_cases hG : ((!p72.2) || (!(decide (p72.1 = (r13.length : Int))))) = false
   ·have hC := hG
    obtain ⟨rfl⟩ := t11.1 hC
    refine o_lenI rfl (wants_of rfl e8 hG) rfl z_slT68 e11 (hs86.up hl) ?_
    exact st_addNil (hk _ _ LR ⟨fun _ => rfl, fun hn => absurd hC hn⟩)
   ·refine st_pass rfl rfl rfl e8 (beq_off hG) rfl ?_
    exact st_addNil (hk _ _ LR ⟨fun h => absurd h hG, fun _ => rfl⟩)
  ·intro ρ' τ pq rs hl hd hq hk
   obtain ⟨_, e15, rfl⟩ := hd 15 rfl
   by_cases hG : (((!p72.2) || (!(decide (p72.1 = (r13.length : Int))))) || (!(decide ((r75.length : Int) = (r81.length : Int))))) = false
   ·have hC := hG
    refine o_load (j := 3) (v := .Pb ba0) rfl (wants_of rfl e15 hG) rfl z_sc23 (oT hq 2) rfl rfl ?_
    exact st_addNil (hk _ _ LR ⟨fun _ => rfl, fun hn => absurd hC hn⟩)
   ·refine st_pass rfl rfl rfl e15 (beq_off hG) rfl ?_
    exact st_addNil (hk _ _ LR ⟨fun h => absurd h hG, fun _ => rfl⟩)
  ·intro ρ' τ pq rs hl hd hq hk
   obtain ⟨_, e15, rfl⟩ := hd 15 rfl
   obtain ⟨w16, e16, t16⟩ := hd 16 rfl
   by_cases hG : (((!p72.2) || (!(decide (p72.1 = (r13.length : Int))))) || (!(decide ((r75.length : Int) = (r81.length : Int))))) = false
   ·have hC := hG
    replace hr91 := hr91 hC
    obtain ⟨rfl⟩ := t16.1 hC
    refine st_call (foot := [[(ba0, .cells #[v1, v3] 76 (0, 0))], g2, g4]) rfl (wants_of rfl e15 hG) rfl rfl (evs_cons e16 rfl) rfl (callV_fn z_en27 (fleet_Fleet_Lines_ok hr91 τ (ho5.up (((((hl16.trans hl25).trans hl74).trans hl78).trans hl84).trans hl)) (ho6.up (((((hl16.trans hl25).trans hl74).trans hl78).trans hl84).trans hl)) (hT.up (((((hl16.trans hl25).trans hl74).trans hl78).trans hl84).trans hl)))) ?_
    rintro _ τ92 _ hl93 ⟨v94, rfl, rfl, hs95⟩
    exact st_addNil (hk _ _ hl93 ⟨fun _ => ⟨v94, rfl, hs95⟩, fun hn => absurd hC hn⟩)
   ·refine st_pass rfl rfl rfl e15 (beq_off hG) rfl ?_
    exact st_addNil (hk _ _ LR ⟨fun h => absurd h hG, fun _ => rfl⟩)
  ·intro ρ' τ pq rs hl hd hq hk
   obtain ⟨_, e15, rfl⟩ := hd 15 rfl
   by_cases hG : (((!p72.2) || (!(decide (p72.1 = (r13.length : Int))))) || (!(decide ((r75.length : Int) = (r81.length : Int))))) = false
   ·have hC := hG
    refine o_loadN (j := 4) (vs := [v7, v8]) rfl (wants_of rfl e15 hG) rfl z_agg28 (oT hq 3) rfl rfl ?_
    exact st_addNil (hk _ _ LR ⟨fun _ => rfl, fun hn => absurd hC hn⟩)
   ·refine st_pass rfl rfl rfl e15 (beq_off hG) rfl ?_
    exact st_addNil (hk _ _ LR ⟨fun h => absurd h hG, fun _ => rfl⟩)
  ·intro ρ' τ pq rs hl hd hq hk
   obtain ⟨_, e15, rfl⟩ := hd 15 rfl
   obtain ⟨w18, e18, t18⟩ := hd 18 rfl
   by_cases hG : (((!p72.2) || (!(decide (p72.1 = (r13.length : Int))))) || (!(decide ((r75.length : Int) = (r81.length : Int))))) = false
   ·have hC := hG
    replace hr97 := hr97 hC
    obtain ⟨rfl⟩ := t18.1 hC
    refine st_call (foot := []) rfl (wants_of rfl e15 hG) rfl rfl (evs_cons e18 rfl) rfl (callV_fn z_en36 (ref30_Lines_ok hr97 τ (hs9.up (((((hl16.trans hl25).trans hl74).trans hl78).trans hl84).trans hl)) (hs10.up (((((hl16.trans hl25).trans hl74).trans hl78).trans hl84).trans hl)))) ?_
    rintro _ τ98 _ hl99 ⟨v100, rfl, rfl, hs101⟩
    exact st_addNil (hk _ _ hl99 ⟨fun _ => ⟨v100, rfl, hs101⟩, fun hn => absurd hC hn⟩)
   ·refine st_pass rfl rfl rfl e15 (beq_off hG) rfl ?_
    exact st_addNil (hk _ _ LR ⟨fun h => absurd h hG, fun _ => rfl⟩)
  ·intro ρ' τ pq rs hl hd hq hk
   obtain ⟨_, e15, rfl⟩ := hd 15 rfl
   obtain ⟨w17, e17, t17⟩ := hd 17 rfl
   obtain ⟨w19, e19, t19⟩ := hd 19 rfl
   by_cases hG : (((!p72.2) || (!(decide (p72.1 = (r13.length : Int))))) || (!(decide ((r75.length : Int) = (r81.length : Int))))) = false
   ·have hC := hG
    replace hr103 := hr103 hC
    obtain ⟨v94, rfl, hs95⟩ := t17.1 hC
    obtain ⟨v100, rfl, hs101⟩ := t19.1 hC
    refine st_call (foot := []) rfl (wants_of rfl e15 hG) rfl rfl (evs_cons e17 (evs_cons e19 rfl)) rfl (callV_fn z_en35 (law25_Lines_ok hr103 τ hs95 hs101)) ?_
    rintro _ τ104 _ hl105 ⟨rfl, rfl⟩
    exact st_addNil (hk _ _ hl105 ⟨fun _ => rfl, fun hn => absurd hC hn⟩)
   ·refine st_pass rfl rfl rfl e15 (beq_off hG) rfl ?_
    exact st_addNil (hk _ _ LR ⟨fun h => absurd h hG, fun _ => rfl⟩)
  intro ρ' τ106 vals hl106 hv hq
  refine st_ord [0, 0, 0, 0, 0, 0, 0, 0] _ rfl ?_
  refine st_env (ρ' := [(82, .bool ((((!p72.2) || (!(decide (p72.1 = (r13.length : Int))))) || (!(decide ((r75.length : Int) = (r81.length : Int))))) || (!r102))), (2, .Pb b11), (3, .Pb b12), (4, .bool false), (12, v79), (13, v85)]) ⟨(lv1 hv 22 rfl rfl), oT hq 2, oT hq 3, oT hq 4, oT hq 12, oT hq 13, trivial⟩ ?_
  refine st_end ?_
  refine I2 h (fun h => ?_) (fun h => ?_)
  ·refine Z 4 ?_
   refine st_ord [0, 0, 0] _ rfl ?_
   obtain rfl := Eq.symm h
   exact st_ret (gs' := [[(ba0, .cells #[v1, v3] 76 (0, 0))], g2, g4]) func13 rfl (List.Sublist.refl _) (((((hl16.trans hl25).trans hl74).trans hl78).trans hl84).trans hl106) ⟨rfl, rfl⟩
  ·refine Z 2 ?_
   refine cutS τ106 (fun (s107 : Unit) => law30_Alike_j2 s107 r) (fun s107 => [(4, .bool false)]) (fun s107 => [[(ba0, .cells #[v1, v3] 76 (0, 0))], g2, g4]) (fun s107 τ107 h hl107 => (Z 4 ?_)) (fun hk107 => ?_)
   ·obtain rfl := Eq.symm h
    exact st_ret (gs' := [[(ba0, .cells #[v1, v3] 76 (0, 0))], g2, g4]) func13 rfl (List.Sublist.refl _) ((((((hl16.trans hl25).trans hl74).trans hl78).trans hl84).trans hl106).trans hl107) ⟨rfl, rfl⟩
   refine Z 4 ?_
   obtain ⟨e108, hL108, hA108⟩ := h
   refine st_ord [0, 2, 2, 0, 0] _ rfl ?_
   refine st_loop hL108 (fun (s108 : Int) ρ τ108 gs => τ106.Le τ108 ∧ ESub ρ [(2, .Pb b11), (3, .Pb b12), (4, .bool false), (12, v79), (13, v85), (14, .I s108)] ∧ gs = [[(ba0, .cells #[v1, v3] 76 (0, 0))], [(b11, .cells #[.Pb ba0] 23 (0, 0))], [(b12, .cells #[v7, v8] 28 (0, 0))], g2, g4]) ⟨LR, rfl, rfl⟩ ?_
   rintro s108 o108 h he108 ρ108 τ108 gs108 ⟨hl108, hρ, rfl⟩ hn108
   refine st_es hρ (Z 5 ?_)
   refine o_lenI rfl rfl rfl z_slT39 rfl (hs80.up ((hl84.trans hl106).trans hl108)) (Z 2 ?_)
   refine I2 h (fun h => ?_) (fun h => ?_)
   ·refine Z 4 ?_
    obtain ⟨q109, hf110, q114, hf115, q120, hf121, q125, hf126, q131, hf132, r136, hr137, q142, hf143, q147, hf148, r152, hr153, r158, hr159, h⟩ := h
    let cc119 : Prop := (!(decide (q109.1 = (q114.getD 0 0)))) = false
    let cc130 : Prop := ((!(decide (q109.1 = (q114.getD 0 0)))) || (!(decide (q120.2 = (q125.getD 1 0))))) = false
    refine st_draw 46 (dl [.v (v85), .v (.I s108), .t fun τ v => ∃ (b111 of112 : Nat) (vsb111 : K4), (.pointer (some ⟨b111, of112, none⟩) : Value) = v ∧ CelN τ ⟨b111, of112, none⟩ vsb111 ∧ (kP (kI .i64) (kI .i64)).rep τ vsb111 q109, .t fun τ v => ∃ (b111 of112 : Nat) (vsb111 : K4), (.pointer (some ⟨b111, of112, none⟩) : Value) = v ∧ CelN τ ⟨b111, of112, none⟩ vsb111 ∧ (kP (kI .i64) (kI .i64)).rep τ vsb111 q109, .v (.I q109.1), .v (v79), .v (.I s108), .t fun τ v => ∃ (b116 of117 : Nat) (vsb116 : K4), (.pointer (some ⟨b116, of117, none⟩) : Value) = v ∧ CelN τ ⟨b116, of117, none⟩ vsb116 ∧ (kA .i64 2).rep τ vsb116 q114, .t fun τ v => ∃ (b116 of117 : Nat) (vsb116 : K4), (.pointer (some ⟨b116, of117 + (0 : Int).toNat * 1, none⟩) : Value) = v ∧ CelN τ ⟨b116, of117, none⟩ vsb116 ∧ (kA .i64 2).rep τ vsb116 q114, .v (.I (q114.getD 0 0)), .v (.bool (!(decide (q109.1 = (q114.getD 0 0))))), .v (.bool (!(decide (q109.1 = (q114.getD 0 0))))), .g cc119 (v85), .g cc119 (.I s108), .h cc119 fun τ v => ∃ (b122 of123 : Nat) (vsb122 : K4), (.pointer (some ⟨b122, of123, none⟩) : Value) = v ∧ CelN τ ⟨b122, of123, none⟩ vsb122 ∧ (kP (kI .i64) (kI .i64)).rep τ vsb122 q120, .h cc119 fun τ v => ∃ (b122 of123 : Nat) (vsb122 : K4), (.pointer (some ⟨b122, of123 + 1, none⟩) : Value) = v ∧ CelN τ ⟨b122, of123, none⟩ vsb122 ∧ (kP (kI .i64) (kI .i64)).rep τ vsb122 q120, .g cc119 (.I q120.2), .g cc119 (v79), .g cc119 (.I s108), .h cc119 fun τ v => ∃ (b127 of128 : Nat) (vsb127 : K4), (.pointer (some ⟨b127, of128, none⟩) : Value) = v ∧ CelN τ ⟨b127, of128, none⟩ vsb127 ∧ (kA .i64 2).rep τ vsb127 q125, .h cc119 fun τ v => ∃ (b127 of128 : Nat) (vsb127 : K4), (.pointer (some ⟨b127, of128 + (1 : Int).toNat * 1, none⟩) : Value) = v ∧ CelN τ ⟨b127, of128, none⟩ vsb127 ∧ (kA .i64 2).rep τ vsb127 q125, .g cc119 (.I (q125.getD 1 0)), .g cc119 (.bool (!(decide (q120.2 = (q125.getD 1 0))))), .v (.bool ((!(decide (q109.1 = (q114.getD 0 0)))) || (!(decide (q120.2 = (q125.getD 1 0)))))), .v (.bool ((!(decide (q109.1 = (q114.getD 0 0)))) || (!(decide (q120.2 = (q125.getD 1 0)))))), .g cc130 (.Pb ba0), .g cc130 (v85), .g cc130 (.I s108), .h cc130 fun τ v => ∃ (b133 of134 : Nat) (vsb133 : K4), (.pointer (some ⟨b133, of134, none⟩) : Value) = v ∧ CelN τ ⟨b133, of134, none⟩ vsb133 ∧ (kP (kI .i64) (kI .i64)).rep τ vsb133 q131, .g cc130 (.agg #[.I q131.1, .I q131.2]), .h cc130 fun τ v => ∃ (v140 : Value), (v140 : Value) = v ∧ Sl (kI .i64) τ v140 r136, .g cc130 (.agg #[v7, v8]), .g cc130 (v79), .g cc130 (.I s108), .h cc130 fun τ v => ∃ (b144 of145 : Nat) (vsb144 : K4), (.pointer (some ⟨b144, of145, none⟩) : Value) = v ∧ CelN τ ⟨b144, of145, none⟩ vsb144 ∧ (kA .i64 2).rep τ vsb144 q142, .h cc130 fun τ v => ∃ (b144 of145 : Nat) (vsb144 : K4), (.pointer (some ⟨b144, of145 + (0 : Int).toNat * 1, none⟩) : Value) = v ∧ CelN τ ⟨b144, of145, none⟩ vsb144 ∧ (kA .i64 2).rep τ vsb144 q142, .g cc130 (.I (q142.getD 0 0)), .g cc130 (v79), .g cc130 (.I s108), .h cc130 fun τ v => ∃ (b149 of150 : Nat) (vsb149 : K4), (.pointer (some ⟨b149, of150, none⟩) : Value) = v ∧ CelN τ ⟨b149, of150, none⟩ vsb149 ∧ (kA .i64 2).rep τ vsb149 q147, .h cc130 fun τ v => ∃ (b149 of150 : Nat) (vsb149 : K4), (.pointer (some ⟨b149, of150 + (1 : Int).toNat * 1, none⟩) : Value) = v ∧ CelN τ ⟨b149, of150, none⟩ vsb149 ∧ (kA .i64 2).rep τ vsb149 q147, .g cc130 (.I (q147.getD 1 0)), .h cc130 fun τ v => ∃ (v156 : Value), (v156 : Value) = v ∧ Sl (kI .i64) τ v156 r152, .g cc130 (.bool r158), .g cc130 (.bool (!r158)), .v (.bool (((!(decide (q109.1 = (q114.getD 0 0)))) || (!(decide (q120.2 = (q125.getD 1 0))))) || (!r158)))]) (fun _ _ => []) z_mix rfl (dl_mono (by exact ⟨fun _ _ _ hl ⟨b111, of112, vsb111, hv, hc113, hrepb111⟩ => ⟨b111, of112, vsb111, hv, hc113.up hl, Kd.mono _ hl hrepb111⟩, ⟨fun _ _ _ hl ⟨b111, of112, vsb111, hv, hc113, hrepb111⟩ => ⟨b111, of112, vsb111, hv, hc113.up hl, Kd.mono _ hl hrepb111⟩, ⟨fun _ _ _ hl ⟨b116, of117, vsb116, hv, hc118, hrepb116⟩ => ⟨b116, of117, vsb116, hv, hc118.up hl, Kd.mono _ hl hrepb116⟩, ⟨fun _ _ _ hl ⟨b116, of117, vsb116, hv, hc118, hrepb116⟩ => ⟨b116, of117, vsb116, hv, hc118.up hl, Kd.mono _ hl hrepb116⟩, ⟨fun _ _ _ hl ⟨b122, of123, vsb122, hv, hc124, hrepb122⟩ => ⟨b122, of123, vsb122, hv, hc124.up hl, Kd.mono _ hl hrepb122⟩, ⟨fun _ _ _ hl ⟨b122, of123, vsb122, hv, hc124, hrepb122⟩ => ⟨b122, of123, vsb122, hv, hc124.up hl, Kd.mono _ hl hrepb122⟩, ⟨fun _ _ _ hl ⟨b127, of128, vsb127, hv, hc129, hrepb127⟩ => ⟨b127, of128, vsb127, hv, hc129.up hl, Kd.mono _ hl hrepb127⟩, ⟨fun _ _ _ hl ⟨b127, of128, vsb127, hv, hc129, hrepb127⟩ => ⟨b127, of128, vsb127, hv, hc129.up hl, Kd.mono _ hl hrepb127⟩, ⟨fun _ _ _ hl ⟨b133, of134, vsb133, hv, hc135, hrepb133⟩ => ⟨b133, of134, vsb133, hv, hc135.up hl, Kd.mono _ hl hrepb133⟩, ⟨fun _ _ _ hl ⟨v140, hv, hs141⟩ => ⟨v140, hv, hs141.up hl⟩, ⟨fun _ _ _ hl ⟨b144, of145, vsb144, hv, hc146, hrepb144⟩ => ⟨b144, of145, vsb144, hv, hc146.up hl, Kd.mono _ hl hrepb144⟩, ⟨fun _ _ _ hl ⟨b144, of145, vsb144, hv, hc146, hrepb144⟩ => ⟨b144, of145, vsb144, hv, hc146.up hl, Kd.mono _ hl hrepb144⟩, ⟨fun _ _ _ hl ⟨b149, of150, vsb149, hv, hc151, hrepb149⟩ => ⟨b149, of150, vsb149, hv, hc151.up hl, Kd.mono _ hl hrepb149⟩, ⟨fun _ _ _ hl ⟨b149, of150, vsb149, hv, hc151, hrepb149⟩ => ⟨b149, of150, vsb149, hv, hc151.up hl, Kd.mono _ hl hrepb149⟩, ⟨fun _ _ _ hl ⟨v156, hv, hs157⟩ => ⟨v156, hv, hs157.up hl⟩, trivial⟩⟩⟩⟩⟩⟩⟩⟩⟩⟩⟩⟩⟩⟩⟩)) (allB_cons (allB_cons (allB_cons (allB_cons (allB_cons (allB_cons (allB_cons (allB_cons (allB_cons (allB_cons (allB_cons (allB_cons (allB_cons (allB_cons (allB_cons (allB_cons (allB_cons (allB_cons (allB_cons (allB_cons (allB_cons (allB_cons (allB_cons (allB_cons (allB_cons (allB_cons (allB_cons (allB_cons (allB_cons (allB_cons (allB_cons (allB_cons (allB_cons (allB_cons (allB_cons (allB_cons (allB_cons (allB_cons (allB_cons (allB_cons (allB_cons (allB_cons (allB_cons (allB_cons (allB_cons (allB_cons allB_nil (p1 dA)) (p1 dA)) ?_) ?_) ?_) (p1 dA)) (p1 dA)) ?_) ?_) ?_) (p1 dA)) (p1 dA)) (p1 (dG []))) (p1 (dG []))) ?_) ?_) ?_) (p1 (dG []))) (p1 (dG []))) ?_) ?_) ?_) (p1 (dG [16, 21]))) (p1 dO)) (p1 dA)) ?_) (p1 (dG []))) (p1 (dG []))) ?_) ?_) ?_) ?_) (p1 (dG []))) (p1 (dG []))) ?_) ?_) ?_) (p1 (dG []))) (p1 (dG []))) ?_) ?_) ?_) ?_) ?_) (p1 (dG [43]))) (p1 dO)) ?_
    ·intro ρ' τ pq rs hl hd hq hk
     obtain ⟨_, e0, rfl⟩ := hd 0 rfl
     obtain ⟨_, e1, rfl⟩ := hd 1 rfl
     refine o_index rfl rfl rfl z_slT68 rfl e0 (hs86.up ((hl106.trans hl108).trans hl)) e1 hf110 (fun b111 of112 vsb111 hc113 hrepb111 => ?_)
     exact st_addNil (hk _ _ LR ⟨b111, of112, _, rfl, hc113, hrepb111⟩)
    ·intro ρ' τ pq rs hl hd hq hk
     obtain ⟨_, e2, b111, of112, vsb111, rfl, hc113, hrepb111⟩ := hd 2 rfl
     have hrepb111 := hrepb111
     obtain ⟨_, _, rfl, rfl, rfl⟩ := hrepb111
     refine o_fieldAddr rfl rfl rfl z_field62_0 e2 ?_
     exact st_addNil (hk _ _ LR ⟨b111, of112, _, rfl, hc113, hrepb111⟩)
    ·intro ρ' τ pq rs hl hd hq hk
     obtain ⟨_, e3, b111, of112, vsb111, rfl, hc113, hrepb111⟩ := hd 3 rfl
     have hrepb111 := hrepb111
     obtain ⟨_, _, rfl, rfl, rfl⟩ := hrepb111
     refine o_loadI (v := .I q109.1) rfl rfl rfl z_sc3 e3 (hc113 0 _ rfl) ?_
     exact st_addNil (hk _ _ LR rfl)
    ·intro ρ' τ pq rs hl hd hq hk
     obtain ⟨_, e5, rfl⟩ := hd 5 rfl
     obtain ⟨_, e6, rfl⟩ := hd 6 rfl
     refine o_index rfl rfl rfl z_slT39 rfl e5 (hs80.up (((hl84.trans hl106).trans hl108).trans hl)) e6 hf115 (fun b116 of117 vsb116 hc118 hrepb116 => ?_)
     exact st_addNil (hk _ _ LR ⟨b116, of117, _, rfl, hc118, hrepb116⟩)
    ·intro ρ' τ pq rs hl hd hq hk
     obtain ⟨_, e7, b116, of117, vsb116, rfl, hc118, hrepb116⟩ := hd 7 rfl
     have hrepb116 := hrepb116
     obtain rfl := hrepb116
     refine o_indexA rfl rfl rfl z_arr83 e7 rfl (by decide) (by decide) ?_
     exact st_addNil (hk _ _ LR ⟨b116, of117, _, rfl, hc118, hrepb116⟩)
    ·intro ρ' τ pq rs hl hd hq hk
     obtain ⟨_, e8, b116, of117, vsb116, rfl, hc118, hrepb116⟩ := hd 8 rfl
     have hrepb116 := hrepb116
     obtain rfl := hrepb116
     refine o_loadI (v := .I (q114.getD 0 0)) rfl rfl rfl z_sc3 e8 (cel_arr (f := (Value.int .i64)) (zz := 0) (n := 2) (xs := q114) (p := 0) (q := 0) hc118 rfl (by omega) (by omega)) ?_
     exact st_addNil (hk _ _ LR rfl)
    ·intro ρ' τ pq rs hl hd hq hk
     obtain ⟨_, e11, rfl⟩ := hd 11 rfl
     obtain ⟨w12, e12, t12⟩ := hd 12 rfl
     obtain ⟨w13, e13, t13⟩ := hd 13 rfl
     by_cases hG : (!(decide (q109.1 = (q114.getD 0 0)))) = false
     ·have hC := hG
      replace hf121 := hf121 hC
      obtain ⟨rfl⟩ := t12.1 hC
      obtain ⟨rfl⟩ := t13.1 hC
      refine o_index rfl (wants_of rfl e11 hG) rfl z_slT68 rfl e12 (hs86.up ((hl106.trans hl108).trans hl)) e13 hf121 (fun b122 of123 vsb122 hc124 hrepb122 => ?_)
      exact st_addNil (hk _ _ LR ⟨fun _ => ⟨b122, of123, _, rfl, hc124, hrepb122⟩, fun hn => absurd hC hn⟩)
     ·refine st_pass rfl rfl rfl e11 (beq_off hG) rfl ?_
      exact st_addNil (hk _ _ LR ⟨fun h => absurd h hG, fun _ => rfl⟩)
    ·intro ρ' τ pq rs hl hd hq hk
     obtain ⟨_, e11, rfl⟩ := hd 11 rfl
     obtain ⟨w14, e14, t14⟩ := hd 14 rfl
     by_cases hG : (!(decide (q109.1 = (q114.getD 0 0)))) = false
     ·have hC := hG
      obtain ⟨b122, of123, vsb122, rfl, hc124, hrepb122⟩ := t14.1 hC
      have hrepb122 := hrepb122
      obtain ⟨_, _, rfl, rfl, rfl⟩ := hrepb122
      refine o_fieldAddr rfl (wants_of rfl e11 hG) rfl z_field62_1 e14 ?_
      exact st_addNil (hk _ _ LR ⟨fun _ => ⟨b122, of123, _, rfl, hc124, hrepb122⟩, fun hn => absurd hC hn⟩)
     ·refine st_pass rfl rfl rfl e11 (beq_off hG) rfl ?_
      exact st_addNil (hk _ _ LR ⟨fun h => absurd h hG, fun _ => rfl⟩)
    ·intro ρ' τ pq rs hl hd hq hk
     obtain ⟨_, e11, rfl⟩ := hd 11 rfl
     obtain ⟨w15, e15, t15⟩ := hd 15 rfl
     by_cases hG : (!(decide (q109.1 = (q114.getD 0 0)))) = false
     ·have hC := hG
      obtain ⟨b122, of123, vsb122, rfl, hc124, hrepb122⟩ := t15.1 hC
      have hrepb122 := hrepb122
      obtain ⟨_, _, rfl, rfl, rfl⟩ := hrepb122
      refine o_loadI (v := .I q120.2) rfl (wants_of rfl e11 hG) rfl z_sc3 e15 (hc124 1 _ rfl) ?_
      exact st_addNil (hk _ _ LR ⟨fun _ => rfl, fun hn => absurd hC hn⟩)
     ·refine st_pass rfl rfl rfl e11 (beq_off hG) rfl ?_
      exact st_addNil (hk _ _ LR ⟨fun h => absurd h hG, fun _ => rfl⟩)
    ·intro ρ' τ pq rs hl hd hq hk
     obtain ⟨_, e11, rfl⟩ := hd 11 rfl
     obtain ⟨w17, e17, t17⟩ := hd 17 rfl
     obtain ⟨w18, e18, t18⟩ := hd 18 rfl
     by_cases hG : (!(decide (q109.1 = (q114.getD 0 0)))) = false
     ·have hC := hG
      replace hf126 := hf126 hC
      obtain ⟨rfl⟩ := t17.1 hC
      obtain ⟨rfl⟩ := t18.1 hC
      refine o_index rfl (wants_of rfl e11 hG) rfl z_slT39 rfl e17 (hs80.up (((hl84.trans hl106).trans hl108).trans hl)) e18 hf126 (fun b127 of128 vsb127 hc129 hrepb127 => ?_)
      exact st_addNil (hk _ _ LR ⟨fun _ => ⟨b127, of128, _, rfl, hc129, hrepb127⟩, fun hn => absurd hC hn⟩)
     ·refine st_pass rfl rfl rfl e11 (beq_off hG) rfl ?_
      exact st_addNil (hk _ _ LR ⟨fun h => absurd h hG, fun _ => rfl⟩)
    ·intro ρ' τ pq rs hl hd hq hk
     obtain ⟨_, e11, rfl⟩ := hd 11 rfl
     obtain ⟨w19, e19, t19⟩ := hd 19 rfl
     by_cases hG : (!(decide (q109.1 = (q114.getD 0 0)))) = false
     ·have hC := hG
      obtain ⟨b127, of128, vsb127, rfl, hc129, hrepb127⟩ := t19.1 hC
      have hrepb127 := hrepb127
      obtain rfl := hrepb127
      refine o_indexA rfl (wants_of rfl e11 hG) rfl z_arr83 e19 rfl (by decide) (by decide) ?_
      exact st_addNil (hk _ _ LR ⟨fun _ => ⟨b127, of128, _, rfl, hc129, hrepb127⟩, fun hn => absurd hC hn⟩)
     ·refine st_pass rfl rfl rfl e11 (beq_off hG) rfl ?_
      exact st_addNil (hk _ _ LR ⟨fun h => absurd h hG, fun _ => rfl⟩)
    ·intro ρ' τ pq rs hl hd hq hk
     obtain ⟨_, e11, rfl⟩ := hd 11 rfl
     obtain ⟨w20, e20, t20⟩ := hd 20 rfl
     by_cases hG : (!(decide (q109.1 = (q114.getD 0 0)))) = false
     ·have hC := hG
      obtain ⟨b127, of128, vsb127, rfl, hc129, hrepb127⟩ := t20.1 hC
      have hrepb127 := hrepb127
      obtain rfl := hrepb127
      refine o_loadI (v := .I (q125.getD 1 0)) rfl (wants_of rfl e11 hG) rfl z_sc3 e20 (cel_arr (f := (Value.int .i64)) (zz := 0) (n := 2) (xs := q125) (p := 0) (q := 1) hc129 rfl (by omega) (by omega)) ?_
      exact st_addNil (hk _ _ LR ⟨fun _ => rfl, fun hn => absurd hC hn⟩)
     ·refine st_pass rfl rfl rfl e11 (beq_off hG) rfl ?_
      exact st_addNil (hk _ _ LR ⟨fun h => absurd h hG, fun _ => rfl⟩)
    ·intro ρ' τ pq rs hl hd hq hk
     obtain ⟨_, e24, rfl⟩ := hd 24 rfl
     by_cases hG : ((!(decide (q109.1 = (q114.getD 0 0)))) || (!(decide (q120.2 = (q125.getD 1 0))))) = false
     ·have hC := hG
      refine o_load (j := 1) (v := .Pb ba0) rfl (wants_of rfl e24 hG) rfl z_sc23 (oT hq 2) rfl rfl ?_
      exact st_addNil (hk _ _ LR ⟨fun _ => rfl, fun hn => absurd hC hn⟩)
     ·refine st_pass rfl rfl rfl e24 (beq_off hG) rfl ?_
      exact st_addNil (hk _ _ LR ⟨fun h => absurd h hG, fun _ => rfl⟩)
    ·intro ρ' τ pq rs hl hd hq hk
     obtain ⟨_, e24, rfl⟩ := hd 24 rfl
     obtain ⟨w26, e26, t26⟩ := hd 26 rfl
     obtain ⟨w27, e27, t27⟩ := hd 27 rfl
     by_cases hG : ((!(decide (q109.1 = (q114.getD 0 0)))) || (!(decide (q120.2 = (q125.getD 1 0))))) = false
     ·have hC := hG
      replace hf132 := hf132 hC
      obtain ⟨rfl⟩ := t26.1 hC
      obtain ⟨rfl⟩ := t27.1 hC
      refine o_index rfl (wants_of rfl e24 hG) rfl z_slT68 rfl e26 (hs86.up ((hl106.trans hl108).trans hl)) e27 hf132 (fun b133 of134 vsb133 hc135 hrepb133 => ?_)
      exact st_addNil (hk _ _ LR ⟨fun _ => ⟨b133, of134, _, rfl, hc135, hrepb133⟩, fun hn => absurd hC hn⟩)
     ·refine st_pass rfl rfl rfl e24 (beq_off hG) rfl ?_
      exact st_addNil (hk _ _ LR ⟨fun h => absurd h hG, fun _ => rfl⟩)
    ·intro ρ' τ pq rs hl hd hq hk
     obtain ⟨_, e24, rfl⟩ := hd 24 rfl
     obtain ⟨w28, e28, t28⟩ := hd 28 rfl
     by_cases hG : ((!(decide (q109.1 = (q114.getD 0 0)))) || (!(decide (q120.2 = (q125.getD 1 0))))) = false
     ·have hC := hG
      obtain ⟨b133, of134, vsb133, rfl, hc135, hrepb133⟩ := t28.1 hC
      have hrepb133 := hrepb133
      obtain ⟨_, _, rfl, rfl, rfl⟩ := hrepb133
      refine o_loadIN (vs := [.I q131.1, .I q131.2]) rfl (wants_of rfl e24 hG) rfl z_agg62 e28 rfl (celn_part 0 rfl hc135) ?_
      exact st_addNil (hk _ _ LR ⟨fun _ => rfl, fun hn => absurd hC hn⟩)
     ·refine st_pass rfl rfl rfl e24 (beq_off hG) rfl ?_
      exact st_addNil (hk _ _ LR ⟨fun h => absurd h hG, fun _ => rfl⟩)
    ·intro ρ' τ pq rs hl hd hq hk
     obtain ⟨_, e24, rfl⟩ := hd 24 rfl
     obtain ⟨w25, e25, t25⟩ := hd 25 rfl
     obtain ⟨w29, e29, t29⟩ := hd 29 rfl
     by_cases hG : ((!(decide (q109.1 = (q114.getD 0 0)))) || (!(decide (q120.2 = (q125.getD 1 0))))) = false
     ·have hC := hG
      replace hr137 := hr137 hC
      obtain ⟨rfl⟩ := t25.1 hC
      obtain ⟨rfl⟩ := t29.1 hC
      refine st_ord [0, 2, 2, 0, 0, 0] _ rfl ?_
      refine st_call (foot := [[(ba0, .cells #[v1, v3] 76 (0, 0))], g2, g4]) rfl (wants_of rfl e24 hG) rfl rfl (evs_cons e25 (evs_cons e29 rfl)) rfl (callV_fn z_en22 (fleet_Fleet_Owners_ok hr137 τ (ho5.up (((((((hl16.trans hl25).trans hl74).trans hl78).trans hl84).trans hl106).trans hl108).trans hl)) (ho6.up (((((((hl16.trans hl25).trans hl74).trans hl78).trans hl84).trans hl106).trans hl108).trans hl)))) ?_
      rintro _ τ138 _ hl139 ⟨v140, rfl, rfl, hs141⟩
      refine st_ord [0, 2, 2, 0, 0, 0] _ rfl ?_
      exact st_addNil (hk _ _ hl139 ⟨fun _ => ⟨v140, rfl, hs141⟩, fun hn => absurd hC hn⟩)
     ·refine st_pass rfl rfl rfl e24 (beq_off hG) rfl ?_
      exact st_addNil (hk _ _ LR ⟨fun h => absurd h hG, fun _ => rfl⟩)
    ·intro ρ' τ pq rs hl hd hq hk
     obtain ⟨_, e24, rfl⟩ := hd 24 rfl
     by_cases hG : ((!(decide (q109.1 = (q114.getD 0 0)))) || (!(decide (q120.2 = (q125.getD 1 0))))) = false
     ·have hC := hG
      refine o_loadN (j := 2) (vs := [v7, v8]) rfl (wants_of rfl e24 hG) rfl z_agg28 (oT hq 3) rfl rfl ?_
      exact st_addNil (hk _ _ LR ⟨fun _ => rfl, fun hn => absurd hC hn⟩)
     ·refine st_pass rfl rfl rfl e24 (beq_off hG) rfl ?_
      exact st_addNil (hk _ _ LR ⟨fun h => absurd h hG, fun _ => rfl⟩)
    ·intro ρ' τ pq rs hl hd hq hk
     obtain ⟨_, e24, rfl⟩ := hd 24 rfl
     obtain ⟨w32, e32, t32⟩ := hd 32 rfl
     obtain ⟨w33, e33, t33⟩ := hd 33 rfl
     by_cases hG : ((!(decide (q109.1 = (q114.getD 0 0)))) || (!(decide (q120.2 = (q125.getD 1 0))))) = false
     ·have hC := hG
      replace hf143 := hf143 hC
      obtain ⟨rfl⟩ := t32.1 hC
      obtain ⟨rfl⟩ := t33.1 hC
      refine o_index rfl (wants_of rfl e24 hG) rfl z_slT39 rfl e32 (hs80.up (((hl84.trans hl106).trans hl108).trans hl)) e33 hf143 (fun b144 of145 vsb144 hc146 hrepb144 => ?_)
      exact st_addNil (hk _ _ LR ⟨fun _ => ⟨b144, of145, _, rfl, hc146, hrepb144⟩, fun hn => absurd hC hn⟩)
     ·refine st_pass rfl rfl rfl e24 (beq_off hG) rfl ?_
      exact st_addNil (hk _ _ LR ⟨fun h => absurd h hG, fun _ => rfl⟩)
    ·intro ρ' τ pq rs hl hd hq hk
     obtain ⟨_, e24, rfl⟩ := hd 24 rfl
     obtain ⟨w34, e34, t34⟩ := hd 34 rfl
     by_cases hG : ((!(decide (q109.1 = (q114.getD 0 0)))) || (!(decide (q120.2 = (q125.getD 1 0))))) = false
     ·have hC := hG
      obtain ⟨b144, of145, vsb144, rfl, hc146, hrepb144⟩ := t34.1 hC
      have hrepb144 := hrepb144
      obtain rfl := hrepb144
      refine o_indexA rfl (wants_of rfl e24 hG) rfl z_arr83 e34 rfl (by decide) (by decide) ?_
      exact st_addNil (hk _ _ LR ⟨fun _ => ⟨b144, of145, _, rfl, hc146, hrepb144⟩, fun hn => absurd hC hn⟩)
     ·refine st_pass rfl rfl rfl e24 (beq_off hG) rfl ?_
      exact st_addNil (hk _ _ LR ⟨fun h => absurd h hG, fun _ => rfl⟩)
    ·intro ρ' τ pq rs hl hd hq hk
     obtain ⟨_, e24, rfl⟩ := hd 24 rfl
     obtain ⟨w35, e35, t35⟩ := hd 35 rfl
     by_cases hG : ((!(decide (q109.1 = (q114.getD 0 0)))) || (!(decide (q120.2 = (q125.getD 1 0))))) = false
     ·have hC := hG
      obtain ⟨b144, of145, vsb144, rfl, hc146, hrepb144⟩ := t35.1 hC
      have hrepb144 := hrepb144
      obtain rfl := hrepb144
      refine o_loadI (v := .I (q142.getD 0 0)) rfl (wants_of rfl e24 hG) rfl z_sc3 e35 (cel_arr (f := (Value.int .i64)) (zz := 0) (n := 2) (xs := q142) (p := 0) (q := 0) hc146 rfl (by omega) (by omega)) ?_
      exact st_addNil (hk _ _ LR ⟨fun _ => rfl, fun hn => absurd hC hn⟩)
     ·refine st_pass rfl rfl rfl e24 (beq_off hG) rfl ?_
      exact st_addNil (hk _ _ LR ⟨fun h => absurd h hG, fun _ => rfl⟩)
    ·intro ρ' τ pq rs hl hd hq hk
     obtain ⟨_, e24, rfl⟩ := hd 24 rfl
     obtain ⟨w37, e37, t37⟩ := hd 37 rfl
     obtain ⟨w38, e38, t38⟩ := hd 38 rfl
     by_cases hG : ((!(decide (q109.1 = (q114.getD 0 0)))) || (!(decide (q120.2 = (q125.getD 1 0))))) = false
     ·have hC := hG
      replace hf148 := hf148 hC
      obtain ⟨rfl⟩ := t37.1 hC
      obtain ⟨rfl⟩ := t38.1 hC
      refine o_index rfl (wants_of rfl e24 hG) rfl z_slT39 rfl e37 (hs80.up (((hl84.trans hl106).trans hl108).trans hl)) e38 hf148 (fun b149 of150 vsb149 hc151 hrepb149 => ?_)
      exact st_addNil (hk _ _ LR ⟨fun _ => ⟨b149, of150, _, rfl, hc151, hrepb149⟩, fun hn => absurd hC hn⟩)
     ·refine st_pass rfl rfl rfl e24 (beq_off hG) rfl ?_
      exact st_addNil (hk _ _ LR ⟨fun h => absurd h hG, fun _ => rfl⟩)
    ·intro ρ' τ pq rs hl hd hq hk
     obtain ⟨_, e24, rfl⟩ := hd 24 rfl
     obtain ⟨w39, e39, t39⟩ := hd 39 rfl
     by_cases hG : ((!(decide (q109.1 = (q114.getD 0 0)))) || (!(decide (q120.2 = (q125.getD 1 0))))) = false
     ·have hC := hG
      obtain ⟨b149, of150, vsb149, rfl, hc151, hrepb149⟩ := t39.1 hC
      have hrepb149 := hrepb149
      obtain rfl := hrepb149
      refine o_indexA rfl (wants_of rfl e24 hG) rfl z_arr83 e39 rfl (by decide) (by decide) ?_
      exact st_addNil (hk _ _ LR ⟨fun _ => ⟨b149, of150, _, rfl, hc151, hrepb149⟩, fun hn => absurd hC hn⟩)
     ·refine st_pass rfl rfl rfl e24 (beq_off hG) rfl ?_
      exact st_addNil (hk _ _ LR ⟨fun h => absurd h hG, fun _ => rfl⟩)
    ·intro ρ' τ pq rs hl hd hq hk
     obtain ⟨_, e24, rfl⟩ := hd 24 rfl
     obtain ⟨w40, e40, t40⟩ := hd 40 rfl
     by_cases hG : ((!(decide (q109.1 = (q114.getD 0 0)))) || (!(decide (q120.2 = (q125.getD 1 0))))) = false
     ·have hC := hG
      obtain ⟨b149, of150, vsb149, rfl, hc151, hrepb149⟩ := t40.1 hC
      have hrepb149 := hrepb149
      obtain rfl := hrepb149
      refine o_loadI (v := .I (q147.getD 1 0)) rfl (wants_of rfl e24 hG) rfl z_sc3 e40 (cel_arr (f := (Value.int .i64)) (zz := 0) (n := 2) (xs := q147) (p := 0) (q := 1) hc151 rfl (by omega) (by omega)) ?_
      exact st_addNil (hk _ _ LR ⟨fun _ => rfl, fun hn => absurd hC hn⟩)
     ·refine st_pass rfl rfl rfl e24 (beq_off hG) rfl ?_
      exact st_addNil (hk _ _ LR ⟨fun h => absurd h hG, fun _ => rfl⟩)
    ·intro ρ' τ pq rs hl hd hq hk
     obtain ⟨_, e24, rfl⟩ := hd 24 rfl
     obtain ⟨w31, e31, t31⟩ := hd 31 rfl
     obtain ⟨w36, e36, t36⟩ := hd 36 rfl
     obtain ⟨w41, e41, t41⟩ := hd 41 rfl
     by_cases hG : ((!(decide (q109.1 = (q114.getD 0 0)))) || (!(decide (q120.2 = (q125.getD 1 0))))) = false
     ·have hC := hG
      replace hr153 := hr153 hC
      obtain ⟨rfl⟩ := t31.1 hC
      obtain ⟨rfl⟩ := t41.1 hC
      obtain ⟨rfl⟩ := t36.1 hC
      refine st_call (foot := []) rfl (wants_of rfl e24 hG) rfl rfl (evs_cons e31 (evs_cons e36 (evs_cons e41 rfl))) rfl (callV_fn z_en23 (ref30_Owners_ok hr153 τ (hs9.up (((((((hl16.trans hl25).trans hl74).trans hl78).trans hl84).trans hl106).trans hl108).trans hl)) (hs10.up (((((((hl16.trans hl25).trans hl74).trans hl78).trans hl84).trans hl106).trans hl108).trans hl)))) ?_
      rintro _ τ154 _ hl155 ⟨v156, rfl, rfl, hs157⟩
      exact st_addNil (hk _ _ hl155 ⟨fun _ => ⟨v156, rfl, hs157⟩, fun hn => absurd hC hn⟩)
     ·refine st_pass rfl rfl rfl e24 (beq_off hG) rfl ?_
      exact st_addNil (hk _ _ LR ⟨fun h => absurd h hG, fun _ => rfl⟩)
    ·intro ρ' τ pq rs hl hd hq hk
     obtain ⟨_, e24, rfl⟩ := hd 24 rfl
     obtain ⟨w30, e30, t30⟩ := hd 30 rfl
     obtain ⟨w42, e42, t42⟩ := hd 42 rfl
     by_cases hG : ((!(decide (q109.1 = (q114.getD 0 0)))) || (!(decide (q120.2 = (q125.getD 1 0))))) = false
     ·have hC := hG
      replace hr159 := hr159 hC
      obtain ⟨v156, rfl, hs157⟩ := t42.1 hC
      obtain ⟨v140, rfl, hs141⟩ := t30.1 hC
      refine st_call (foot := []) rfl (wants_of rfl e24 hG) rfl rfl (evs_cons e30 (evs_cons e42 rfl)) rfl (callV_fn z_en19 (ref01_Ints_ok hr159 τ hs141 hs157)) ?_
      rintro _ τ160 _ hl161 ⟨rfl, rfl⟩
      exact st_addNil (hk _ _ hl161 ⟨fun _ => rfl, fun hn => absurd hC hn⟩)
     ·refine st_pass rfl rfl rfl e24 (beq_off hG) rfl ?_
      exact st_addNil (hk _ _ LR ⟨fun h => absurd h hG, fun _ => rfl⟩)
    intro ρ' τ162 vals hl162 hv hq
    refine st_ord [0, 0, 0, 0, 0] _ rfl ?_
    refine st_env (ρ' := [(134, .bool (((!(decide (q109.1 = (q114.getD 0 0)))) || (!(decide (q120.2 = (q125.getD 1 0))))) || (!r158))), (2, .Pb b11), (3, .Pb b12), (4, .bool false), (12, v79), (13, v85), (14, .I s108)]) ⟨(lv1 hv 45 rfl rfl), oT hq 2, oT hq 3, oT hq 4, oT hq 12, oT hq 13, oT hq 14, trivial⟩ ?_
    refine st_end ?_
    refine I2 h (fun h => ?_) (fun h => ?_)
    ·refine Z 4 ?_
     refine st_ord [0, 2, 2] _ rfl ?_
     obtain rfl := he108 _ h
     replace h := hA108
     obtain rfl := Eq.symm h
     exact st_ret (gs' := [[(ba0, .cells #[v1, v3] 76 (0, 0))], g2, g4]) func13 rfl (List.Sublist.refl _) (((((((hl16.trans hl25).trans hl74).trans hl78).trans hl84).trans hl106).trans hl108).trans hl162) ⟨rfl, rfl⟩
    ·refine Z 7 ?_
     exact hn108 _ _ _ _ h ⟨(hl108.trans hl162), rfl, rfl⟩
   ·refine st_exit rfl ?_
    obtain rfl := he108 _ h
    replace h := hA108
    refine st_ord [0, 2, 2] _ rfl ?_
    exact hk107 _ _ _ ⟨(), h, hl108, rfl, rfl⟩
 ·exact fun _ _ _ _ _ _ h => h.elim
theorem fleet_same_ok {a0 : Int × Int × Int × Int × Int × Bool × Bool × Int × Int × List (Int × Int) × Int × Int} {a1 : Int × Int × Int × Int × Int × Bool × Bool × Int × Int × List (Int × Int) × Int × Int} {v1 v3 : Value} {r : Bool} (h : fleet_same a0 a1 r) (σ : Sto) (hs2 : Sl (kP (kI .i64) (kI .i64)) σ v1 a0.t4.t4.2.1) (hs4 : Sl (kP (kI .i64) (kI .i64)) σ v3 a1.t4.t4.2.1) :
    Does prog 38 [.agg [.I a0.1, .I a0.2.1, .I a0.2.2.1, .I a0.2.2.2.1, .I a0.t4.1, .bool a0.t4.2.1, .bool a0.t4.2.2.1, .I a0.t4.2.2.2.1, .I a0.t4.t4.1, v1, .I a0.t4.t4.2.2.1, .I a0.t4.t4.2.2.2].toArray, .agg [.I a1.1, .I a1.2.1, .I a1.2.2.1, .I a1.2.2.2.1, .I a1.t4.1, .bool a1.t4.2.1, .bool a1.t4.2.2.1, .I a1.t4.2.2.2.1, .I a1.t4.t4.1, v3, .I a1.t4.t4.2.2.1, .I a1.t4.t4.2.2.2].toArray] σ [] (fun v τ gs => gs = [] ∧ .bool r = v) := by
 refine CO func38 ntmps38 rfl (fun cs fs => Z 2 ?_)
 refine o_box (cs := [.I a0.1, .I a0.2.1, .I a0.2.2.1, .I a0.2.2.2.1, .I a0.t4.1, .bool a0.t4.2.1, .bool a0.t4.2.2.1, .I a0.t4.2.2.2.1, .I a0.t4.t4.1, v1, .I a0.t4.t4.2.2.1, .I a0.t4.t4.2.2.2]) rfl rfl rfl rfl rfl (fun b5 => ?_)
 refine o_box (cs := [.I a1.1, .I a1.2.1, .I a1.2.2.1, .I a1.2.2.2.1, .I a1.t4.1, .bool a1.t4.2.1, .bool a1.t4.2.2.1, .I a1.t4.2.2.2.1, .I a1.t4.t4.1, v3, .I a1.t4.t4.2.2.1, .I a1.t4.t4.2.2.2]) rfl rfl rfl rfl rfl (fun b6 => ZZ 9 [1, 0] ?_)
 obtain ⟨r7, hr8, h⟩ := h
 refine SC z_en64 (slices_Equal_msg_Point_msg_Point_ok hr8 σ hs2 hs4) ?_
 rintro _ τ9 _ hl10 ⟨rfl, rfl⟩
 refine Z 2 ?_
 refine I2 h (fun h => ?_) (fun h => ?_)
 ·refine Z 4 ?_
  obtain rfl := h.symm
  exact RT func38 rfl hl10 ⟨rfl, rfl⟩
 ·refine ZZ 9 [1, 0] ?_
  refine cutS τ9 (fun (s11 : Bool) => fleet_same_j1 s11 r) (fun s11 => [(4, .bool s11)]) (fun s11 => []) (fun s11 τ11 h hl11 => ?_) (fun hk11 => ?_)
  ·obtain rfl := h.symm
   exact RT func38 rfl (hl10.trans hl11) ⟨rfl, rfl⟩
  refine ZZ 6 [1, 0] ?_
  refine M2 h (fun h => ?_) (fun h => ?_)
  ·refine ZZ 6 [1, 0] ?_
   refine M2 h (fun h => ?_) (fun h => ?_)
   ·refine ZZ 6 [1, 0] ?_
    refine M2 h (fun h => ?_) (fun h => ?_)
    ·refine ZZ 6 [1, 0] ?_
     refine M2 h (fun h => ?_) (fun h => ?_)
     ·refine ZZ 6 [1, 0] ?_
      refine M2 h (fun h => ?_) (fun h => ?_)
      ·refine ZZ 6 [1, 0] ?_
       refine M2 h (fun h => ?_) (fun h => ?_)
       ·refine ZZ 6 [1, 0] ?_
        refine M2 h (fun h => ?_) (fun h => ?_)
        ·refine ZZ 6 [1, 0] ?_
         refine M2 h (fun h => ?_) (fun h => ?_)
         ·refine ZZ 6 [1, 0] ?_
          refine M2 h (fun h => ?_) (fun h => ?_)
          ·refine ZZ 6 [1, 0] ?_
           refine M2 h (fun h => ?_) (fun h => ?_)
           ·refine ZZ 8 [1, 0] ?_
            refine st_ord [] _ rfl ?_
            exact hk11 _ _ _ ⟨(decide (a0.t4.t4.2.2.2 = a1.t4.t4.2.2.2)), h, LR, rfl, rfl⟩
           ·refine Z 8 ?_
            refine st_ord [] _ rfl ?_
            exact hk11 _ _ _ ⟨false, h, LR, rfl, rfl⟩
          ·refine Z 15 ?_
           refine st_ord [] _ rfl ?_
           exact hk11 _ _ _ ⟨false, h, LR, rfl, rfl⟩
         ·refine Z 22 ?_
          refine st_ord [] _ rfl ?_
          exact hk11 _ _ _ ⟨false, h, LR, rfl, rfl⟩
        ·refine Z 29 ?_
         refine st_ord [] _ rfl ?_
         exact hk11 _ _ _ ⟨false, h, LR, rfl, rfl⟩
       ·refine Z 36 ?_
        refine st_ord [] _ rfl ?_
        exact hk11 _ _ _ ⟨false, h, LR, rfl, rfl⟩
      ·refine Z 43 ?_
       refine st_ord [] _ rfl ?_
       exact hk11 _ _ _ ⟨false, h, LR, rfl, rfl⟩
     ·refine Z 50 ?_
      refine st_ord [] _ rfl ?_
      exact hk11 _ _ _ ⟨false, h, LR, rfl, rfl⟩
    ·refine Z 57 ?_
     refine st_ord [] _ rfl ?_
     exact hk11 _ _ _ ⟨false, h, LR, rfl, rfl⟩
   ·refine Z 64 ?_
    refine st_ord [] _ rfl ?_
    exact hk11 _ _ _ ⟨false, h, LR, rfl, rfl⟩
  ·refine Z 71 ?_
   refine st_ord [] _ rfl ?_
   exact hk11 _ _ _ ⟨false, h, LR, rfl, rfl⟩
end Go.Rel
