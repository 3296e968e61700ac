import Derived.Test.YtemehkcopcjekaaGreatDoorURel
import Derived.Test.YtemehkcopcjekaaGreatDoorUFacts
import Derived.Test.YtemehkcopcjekaaGreatDoorUWalk1
/-! The walks. -/
set_option linter.unusedVariables false
set_option linter.unusedSimpArgs false
set_option maxRecDepth 4000
set_option maxHeartbeats 4000000
namespace Go.Rel
open Go Go.Eng Go.Proofs
theorem law27_Cut_ok {a0 : TyS} {v1 : Value} {v2 : Value} {v3 : Value} {v4 : Value} {r : (TyS)} (h : law27_Cut a0 r) (σ : Sto) (hs5 : Sl (kP (kI .i64) (kI .i64)) σ v1 a0.2.1.2.2.1) (hs6 : Sl (kI .i64) σ v2 a0.2.1.2.2.2.1) (hs7 : Sl (kI .u8) σ v3 a0.2.2.1.t4) (hs8 : Sl (kI .i64) σ v4 a0.2.2.2) :
    Does Tryz.prog 12 [.agg [.I a0.1, .I a0.2.1.1, .I (a0.2.1.2.1.getD 0 0), .I (a0.2.1.2.1.getD 1 0), .I (a0.2.1.2.1.getD 2 0), .I (a0.2.1.2.1.getD 3 0), .I (a0.2.1.2.1.getD 4 0), .I (a0.2.1.2.1.getD 5 0), v1, v2, .string a0.2.1.t4.1, .string a0.2.1.t4.2, .I a0.2.2.1.1, .I a0.2.2.1.2.1, .I a0.2.2.1.2.2.1, .I a0.2.2.1.2.2.2.1, v3, v4].toArray] σ [] (fun v τ gs => ∃ (v40 : Value) (v41 : Value) (v42 : Value) (v43 : Value), gs = [] ∧ .agg [.I r.1, .I r.2.1.1, .I (r.2.1.2.1.getD 0 0), .I (r.2.1.2.1.getD 1 0), .I (r.2.1.2.1.getD 2 0), .I (r.2.1.2.1.getD 3 0), .I (r.2.1.2.1.getD 4 0), .I (r.2.1.2.1.getD 5 0), v40, v41, .string r.2.1.t4.1, .string r.2.1.t4.2, .I r.2.2.1.1, .I r.2.2.1.2.1, .I r.2.2.1.2.2.1, .I r.2.2.1.2.2.2.1, v42, v43].toArray = v ∧ Sl (kP (kI .i64) (kI .i64)) τ v40 r.2.1.2.2.1 ∧ Sl (kI .i64) τ v41 r.2.1.2.2.2.1 ∧ Sl (kI .u8) τ v42 r.2.2.1.t4 ∧ Sl (kI .i64) τ v43 r.2.2.2) := by
 refine call_of Tryz.func12 Tryz.ntmps12 rfl rfl (fun cs fs => ?_)
 refine Z 2 rfl ?_
 refine o_box (cs := [.I a0.1, .I a0.2.1.1, .I (a0.2.1.2.1.getD 0 0), .I (a0.2.1.2.1.getD 1 0), .I (a0.2.1.2.1.getD 2 0), .I (a0.2.1.2.1.getD 3 0), .I (a0.2.1.2.1.getD 4 0), .I (a0.2.1.2.1.getD 5 0), v1, v2, .string a0.2.1.t4.1, .string a0.2.1.t4.2, .I a0.2.2.1.1, .I a0.2.2.1.2.1, .I a0.2.2.1.2.2.1, .I a0.2.2.1.2.2.2.1, v3, v4]) rfl rfl rfl rfl rfl (fun b9 => ?_)
 refine o_alloc rfl rfl rfl z_zero31 (fun b10 => ?_)
 refine Z 2 rfl ?_
 obtain ⟨r11, hr12, r19, hr20, hf25, hf26, h⟩ := h
 refine st_d41 [[(b10, .cells #[.I 0, .I 0, .I 0, .I 0, .I 0, .I 0, .I 0, .I 0, .N0, .N0, .E0, .E0, .I 0, .I 0, .I 0, .I 0, .N0, .N0] 31 (0, 0))]] [[(b9, .cells #[.I a0.1, .I a0.2.1.1, .I (a0.2.1.2.1.getD 0 0), .I (a0.2.1.2.1.getD 1 0), .I (a0.2.1.2.1.getD 2 0), .I (a0.2.1.2.1.getD 3 0), .I (a0.2.1.2.1.getD 4 0), .I (a0.2.1.2.1.getD 5 0), v1, v2, .string a0.2.1.t4.1, .string a0.2.1.t4.2, .I a0.2.2.1.1, .I a0.2.2.1.2.1, .I a0.2.2.1.2.2.1, .I a0.2.2.1.2.2.2.1, v3, v4] 31 (0, 0))]] 17 2 [none, none, none, none, none, none, none, none, none, none, none, none, none, none, some (0, 0), none, some (0, 1)] [none, some (0, 0), none, none, some (0, 0), none, none, some (0, 0), none, some (0, 0), none, none, none, none, none, none, none] [[none, none, none]] [.v (.pointer (some ⟨b9, 1, none⟩)), .v (.agg #[.I a0.2.1.1, .I (a0.2.1.2.1.getD 0 0), .I (a0.2.1.2.1.getD 1 0), .I (a0.2.1.2.1.getD 2 0), .I (a0.2.1.2.1.getD 3 0), .I (a0.2.1.2.1.getD 4 0), .I (a0.2.1.2.1.getD 5 0), v1, v2, .string a0.2.1.t4.1, .string a0.2.1.t4.2]), .t fun τ v => ∃ (v15 : Value) (v16 : Value), (.agg #[.I r11.1, .I (r11.2.1.getD 0 0), .I (r11.2.1.getD 1 0), .I (r11.2.1.getD 2 0), .I (r11.2.1.getD 3 0), .I (r11.2.1.getD 4 0), .I (r11.2.1.getD 5 0), v15, v16, .string r11.t4.1, .string r11.t4.2] : Value) = v ∧ Sl (kP (kI .i64) (kI .i64)) τ v15 r11.2.2.1 ∧ Sl (kI .i64) τ v16 r11.2.2.2.1, .v (.pointer (some ⟨b9, 12, none⟩)), .v (.agg #[.I a0.2.2.1.1, .I a0.2.2.1.2.1, .I a0.2.2.1.2.2.1, .I a0.2.2.1.2.2.2.1, v3]), .t fun τ v => ∃ (v23 : Value), (.agg #[.I r19.1, .I r19.2.1, .I r19.2.2.1, .I r19.2.2.2.1, v23] : Value) = v ∧ Sl (kI .u8) τ v23 r19.t4, .v (.pointer (some ⟨b9, 17, none⟩)), .v (v4), .v (.pointer (some ⟨b9, 17, none⟩)), .v (v4), .v (.I (a0.2.2.2.length : Int)), .v (.I (min (a0.2.2.2.length : Int) 20)), .t fun τ v => ∃ (v27 : Value), (v27 : Value) = v ∧ Sl (kI .i64) τ v27 ((a0.2.2.2.drop (0 : Int).toNat).take (((min (a0.2.2.2.length : Int) 20) : Int) - 0).toNat), .v (.pointer (some ⟨b9, 1, none⟩)), .t fun _ _ => True, .v (.pointer (some ⟨b9, 12, none⟩)), .t fun _ _ => True] [[fun τ u F => F = [[(b9, .cells #[.I a0.1, .I a0.2.1.1, .I (a0.2.1.2.1.getD 0 0), .I (a0.2.1.2.1.getD 1 0), .I (a0.2.1.2.1.getD 2 0), .I (a0.2.1.2.1.getD 3 0), .I (a0.2.1.2.1.getD 4 0), .I (a0.2.1.2.1.getD 5 0), v1, v2, .string a0.2.1.t4.1, .string a0.2.1.t4.2, .I a0.2.2.1.1, .I a0.2.2.1.2.1, .I a0.2.2.1.2.2.1, .I a0.2.2.1.2.2.2.1, v3, v4] 31 (0, 0))]], fun τ u F => ∃ (v29 : Value) (v31 : Value), F = [[(b9, .cells #[.I a0.1, .I r11.1, .I (r11.2.1.getD 0 0), .I (r11.2.1.getD 1 0), .I (r11.2.1.getD 2 0), .I (r11.2.1.getD 3 0), .I (r11.2.1.getD 4 0), .I (r11.2.1.getD 5 0), v29, v31, .string r11.t4.1, .string r11.t4.2, .I a0.2.2.1.1, .I a0.2.2.1.2.1, .I a0.2.2.1.2.2.1, .I a0.2.2.1.2.2.2.1, v3, v4] 31 (0, 0))]] ∧ Sl (kP (kI .i64) (kI .i64)) τ v29 r11.2.2.1 ∧ Sl (kI .i64) τ v31 r11.2.2.2.1, fun τ u F => ∃ (v33 : Value) (v35 : Value) (v37 : Value), F = [[(b9, .cells #[.I a0.1, .I r11.1, .I (r11.2.1.getD 0 0), .I (r11.2.1.getD 1 0), .I (r11.2.1.getD 2 0), .I (r11.2.1.getD 3 0), .I (r11.2.1.getD 4 0), .I (r11.2.1.getD 5 0), v33, v35, .string r11.t4.1, .string r11.t4.2, .I r19.1, .I r19.2.1, .I r19.2.2.1, .I r19.2.2.2.1, v37, v4] 31 (0, 0))]] ∧ Sl (kP (kI .i64) (kI .i64)) τ v33 r11.2.2.1 ∧ Sl (kI .i64) τ v35 r11.2.2.2.1 ∧ Sl (kI .u8) τ v37 r19.t4]] rfl z_mix rfl ⟨fun _ _ _ hl ⟨v15, v16, hv, hs17, hs18⟩ => ⟨v15, v16, hv, hs17.up hl, hs18.up hl⟩, ⟨fun _ _ _ hl ⟨v23, hv, hs24⟩ => ⟨v23, hv, hs24.up hl⟩, ⟨fun _ _ _ hl ⟨v27, hv, hs28⟩ => ⟨v27, hv, hs28.up hl⟩, ⟨fun _ _ _ _ _ => trivial, ⟨fun _ _ _ _ _ => trivial, trivial⟩⟩⟩⟩⟩ ⟨⟨fun _ _ _ _ hl h => h, ⟨fun _ _ _ _ hl h => (let ⟨v29, v31, hF, hs30, hs32⟩ := h; ⟨v29, v31, hF, hs30.up hl, hs32.up hl⟩), ⟨fun _ _ _ _ hl h => (let ⟨v33, v35, v37, hF, hs34, hs36, hs38⟩ := h; ⟨v33, v35, v37, hF, hs34.up hl, hs36.up hl, hs38.up hl⟩), trivial⟩⟩⟩, trivial⟩ rfl rfl ?_ (allB_cons (allB_cons (allB_cons (allB_cons (allB_cons (allB_cons (allB_cons (allB_cons (allB_cons (allB_cons (allB_cons (allB_cons (allB_cons (allB_cons (allB_cons (allB_cons (allB_cons allB_nil (p4 dA)) ?_) ?_) (p4 dA)) ?_) ?_) (p4 dA)) ?_) (p4 dA)) ?_) ?_) (p4 dA)) ?_) (p4 dA)) ?_) (p4 dA)) ?_) ?_
 ·exact rfl
 ·intro ρ' τ u Fv pool rs hl hI hu hd hout hw hk
  obtain ⟨_, e0, rfl⟩ := hd 0 rfl _ rfl
  have hI0 := hI
  obtain rfl := hI
  refine st_gs [[(b10, .cells #[.I 0, .I 0, .I 0, .I 0, .I 0, .I 0, .I 0, .I 0, .N0, .N0, .E0, .E0, .I 0, .I 0, .I 0, .I 0, .N0, .N0] 31 (0, 0))], [(b9, .cells #[.I a0.1, .I a0.2.1.1, .I (a0.2.1.2.1.getD 0 0), .I (a0.2.1.2.1.getD 1 0), .I (a0.2.1.2.1.getD 2 0), .I (a0.2.1.2.1.getD 3 0), .I (a0.2.1.2.1.getD 4 0), .I (a0.2.1.2.1.getD 5 0), v1, v2, .string a0.2.1.t4.1, .string a0.2.1.t4.2, .I a0.2.2.1.1, .I a0.2.2.1.2.1, .I a0.2.2.1.2.2.1, .I a0.2.2.1.2.2.2.1, v3, v4] 31 (0, 0))], pool] rfl ?_
  refine o_loadN (j := 1) (vs := [.I a0.2.1.1, .I (a0.2.1.2.1.getD 0 0), .I (a0.2.1.2.1.getD 1 0), .I (a0.2.1.2.1.getD 2 0), .I (a0.2.1.2.1.getD 3 0), .I (a0.2.1.2.1.getD 4 0), .I (a0.2.1.2.1.getD 5 0), v1, v2, .string a0.2.1.t4.1, .string a0.2.1.t4.2]) rfl rfl rfl z_agg26 e0 rfl rfl ?_
  exact hk _ _ (Sto.Le.refl _) rfl
 ·intro ρ' τ pool rs hl hd hout hw hk
  obtain ⟨_, e1, rfl⟩ := hd 1 rfl _ rfl
  refine st_call (foot := []) rfl rfl rfl rfl (evs_cons e1 rfl) rfl (callV_fn z_en36 (law17_Cut_ok hr12 τ (hs5.up hl) (hs6.up hl))) ?_
  rintro vτ13 τ13 gsτ13 hl14 ⟨v15, v16, rfl, rfl, hs17, hs18⟩
  exact hk _ _ hl14 ⟨v15, v16, rfl, hs17, hs18⟩
 ·intro ρ' τ u Fv pool rs hl hI hu hd hout hw hk
  obtain ⟨_, e3, rfl⟩ := hd 3 rfl _ rfl
  have hI0 := hI
  obtain rfl := hI
  refine st_gs [[(b10, .cells #[.I 0, .I 0, .I 0, .I 0, .I 0, .I 0, .I 0, .I 0, .N0, .N0, .E0, .E0, .I 0, .I 0, .I 0, .I 0, .N0, .N0] 31 (0, 0))], [(b9, .cells #[.I a0.1, .I a0.2.1.1, .I (a0.2.1.2.1.getD 0 0), .I (a0.2.1.2.1.getD 1 0), .I (a0.2.1.2.1.getD 2 0), .I (a0.2.1.2.1.getD 3 0), .I (a0.2.1.2.1.getD 4 0), .I (a0.2.1.2.1.getD 5 0), v1, v2, .string a0.2.1.t4.1, .string a0.2.1.t4.2, .I a0.2.2.1.1, .I a0.2.2.1.2.1, .I a0.2.2.1.2.2.1, .I a0.2.2.1.2.2.2.1, v3, v4] 31 (0, 0))], pool] rfl ?_
  refine o_loadN (j := 1) (vs := [.I a0.2.2.1.1, .I a0.2.2.1.2.1, .I a0.2.2.1.2.2.1, .I a0.2.2.1.2.2.2.1, v3]) rfl rfl rfl z_agg29 e3 rfl rfl ?_
  exact hk _ _ (Sto.Le.refl _) rfl
 ·intro ρ' τ pool rs hl hd hout hw hk
  obtain ⟨_, e4, rfl⟩ := hd 4 rfl _ rfl
  refine st_call (foot := []) rfl rfl rfl rfl (evs_cons e4 rfl) rfl (callV_fn z_en37 (law26_Cut_ok hr20 τ (hs7.up hl))) ?_
  rintro vτ21 τ21 gsτ21 hl22 ⟨v23, rfl, rfl, hs24⟩
  exact hk _ _ hl22 ⟨v23, rfl, hs24⟩
 ·intro ρ' τ u Fv pool rs hl hI hu hd hout hw hk
  obtain ⟨_, e6, rfl⟩ := hd 6 rfl _ rfl
  have hI0 := hI
  obtain rfl := hI
  refine st_gs [[(b10, .cells #[.I 0, .I 0, .I 0, .I 0, .I 0, .I 0, .I 0, .I 0, .N0, .N0, .E0, .E0, .I 0, .I 0, .I 0, .I 0, .N0, .N0] 31 (0, 0))], [(b9, .cells #[.I a0.1, .I a0.2.1.1, .I (a0.2.1.2.1.getD 0 0), .I (a0.2.1.2.1.getD 1 0), .I (a0.2.1.2.1.getD 2 0), .I (a0.2.1.2.1.getD 3 0), .I (a0.2.1.2.1.getD 4 0), .I (a0.2.1.2.1.getD 5 0), v1, v2, .string a0.2.1.t4.1, .string a0.2.1.t4.2, .I a0.2.2.1.1, .I a0.2.2.1.2.1, .I a0.2.2.1.2.2.1, .I a0.2.2.1.2.2.2.1, v3, v4] 31 (0, 0))], pool] rfl ?_
  refine o_load (j := 1) (v := v4) rfl rfl rfl z_sc24 e6 rfl rfl ?_
  exact hk _ _ (Sto.Le.refl _) rfl
 ·intro ρ' τ u Fv pool rs hl hI hu hd hout hw hk
  obtain ⟨_, e8, rfl⟩ := hd 8 rfl _ rfl
  have hI0 := hI
  obtain rfl := hI
  refine st_gs [[(b10, .cells #[.I 0, .I 0, .I 0, .I 0, .I 0, .I 0, .I 0, .I 0, .N0, .N0, .E0, .E0, .I 0, .I 0, .I 0, .I 0, .N0, .N0] 31 (0, 0))], [(b9, .cells #[.I a0.1, .I a0.2.1.1, .I (a0.2.1.2.1.getD 0 0), .I (a0.2.1.2.1.getD 1 0), .I (a0.2.1.2.1.getD 2 0), .I (a0.2.1.2.1.getD 3 0), .I (a0.2.1.2.1.getD 4 0), .I (a0.2.1.2.1.getD 5 0), v1, v2, .string a0.2.1.t4.1, .string a0.2.1.t4.2, .I a0.2.2.1.1, .I a0.2.2.1.2.1, .I a0.2.2.1.2.2.1, .I a0.2.2.1.2.2.2.1, v3, v4] 31 (0, 0))], pool] rfl ?_
  refine o_load (j := 1) (v := v4) rfl rfl rfl z_sc24 e8 rfl rfl ?_
  exact hk _ _ (Sto.Le.refl _) rfl
 ·intro ρ' τ pool rs hl hd hout hw hk
  obtain ⟨_, e9, rfl⟩ := hd 9 rfl _ rfl
  refine o_lenI rfl rfl rfl z_slT24 e9 (hs8.up hl) ?_
  exact hk _ _ (Sto.Le.refl _) rfl
 ·intro ρ' τ pool rs hl hd hout hw hk
  obtain ⟨_, e7, rfl⟩ := hd 7 rfl _ rfl
  obtain ⟨_, e11, rfl⟩ := hd 11 rfl _ rfl
  refine o_slice (L := 0) (H := (min (a0.2.2.2.length : Int) 20)) rfl rfl rfl z_slT24 rfl e7 (hs8.up hl) rfl ⟨_, e11⟩ (by decide) hf25 hf26 trivial (by simp) (fun v27 hs28 => ?_)
  exact hk _ _ (Sto.Le.refl _) ⟨v27, rfl, hs28⟩
 ·intro ρ' τ u Fv pool rs hl hI hu hd hout hw hk
  obtain ⟨_, e2, v15, v16, rfl, hs17, hs18⟩ := hd 2 rfl _ rfl
  obtain ⟨_, e13, rfl⟩ := hd 13 rfl _ rfl
  have hI0 := hI
  obtain rfl := hI
  refine st_gs [[(b10, .cells #[.I 0, .I 0, .I 0, .I 0, .I 0, .I 0, .I 0, .I 0, .N0, .N0, .E0, .E0, .I 0, .I 0, .I 0, .I 0, .N0, .N0] 31 (0, 0))], [(b9, .cells #[.I a0.1, .I a0.2.1.1, .I (a0.2.1.2.1.getD 0 0), .I (a0.2.1.2.1.getD 1 0), .I (a0.2.1.2.1.getD 2 0), .I (a0.2.1.2.1.getD 3 0), .I (a0.2.1.2.1.getD 4 0), .I (a0.2.1.2.1.getD 5 0), v1, v2, .string a0.2.1.t4.1, .string a0.2.1.t4.2, .I a0.2.2.1.1, .I a0.2.2.1.2.1, .I a0.2.2.1.2.2.1, .I a0.2.2.1.2.2.2.1, v3, v4] 31 (0, 0))], pool] rfl ?_
  refine o_store (j := 1) (vs := [.I r11.1, .I (r11.2.1.getD 0 0), .I (r11.2.1.getD 1 0), .I (r11.2.1.getD 2 0), .I (r11.2.1.getD 3 0), .I (r11.2.1.getD 4 0), .I (r11.2.1.getD 5 0), v15, v16, .string r11.t4.1, .string r11.t4.2]) (cs' := [.I a0.1, .I r11.1, .I (r11.2.1.getD 0 0), .I (r11.2.1.getD 1 0), .I (r11.2.1.getD 2 0), .I (r11.2.1.getD 3 0), .I (r11.2.1.getD 4 0), .I (r11.2.1.getD 5 0), v15, v16, .string r11.t4.1, .string r11.t4.2, .I a0.2.2.1.1, .I a0.2.2.1.2.1, .I a0.2.2.1.2.2.1, .I a0.2.2.1.2.2.2.1, v3, v4]) rfl rfl rfl z_size26 e13 e2 rfl (ones_cons rfl (ones_cons rfl (ones_cons rfl (ones_cons rfl (ones_cons rfl (ones_cons rfl (ones_cons rfl (ones_cons hs17.one' (ones_cons hs18.one' (ones_cons rfl (ones_cons rfl ones_nil))))))))))) rfl rfl rfl ?_
  refine st_gs [[(b10, .cells #[.I 0, .I 0, .I 0, .I 0, .I 0, .I 0, .I 0, .I 0, .N0, .N0, .E0, .E0, .I 0, .I 0, .I 0, .I 0, .N0, .N0] 31 (0, 0))], [(b9, .cells #[.I a0.1, .I r11.1, .I (r11.2.1.getD 0 0), .I (r11.2.1.getD 1 0), .I (r11.2.1.getD 2 0), .I (r11.2.1.getD 3 0), .I (r11.2.1.getD 4 0), .I (r11.2.1.getD 5 0), v15, v16, .string r11.t4.1, .string r11.t4.2, .I a0.2.2.1.1, .I a0.2.2.1.2.1, .I a0.2.2.1.2.2.1, .I a0.2.2.1.2.2.2.1, v3, v4] 31 (0, 0))], pool] rfl ?_
  exact hk _ _ [[(b9, .cells #[.I a0.1, .I r11.1, .I (r11.2.1.getD 0 0), .I (r11.2.1.getD 1 0), .I (r11.2.1.getD 2 0), .I (r11.2.1.getD 3 0), .I (r11.2.1.getD 4 0), .I (r11.2.1.getD 5 0), v15, v16, .string r11.t4.1, .string r11.t4.2, .I a0.2.2.1.1, .I a0.2.2.1.2.1, .I a0.2.2.1.2.2.1, .I a0.2.2.1.2.2.2.1, v3, v4] 31 (0, 0))]] (Sto.Le.refl _) trivial (by exact ⟨v15, v16, rfl, hs17, hs18⟩)
 ·intro ρ' τ u Fv pool rs hl hI hu hd hout hw hk
  obtain ⟨_, e5, v23, rfl, hs24⟩ := hd 5 rfl _ rfl
  obtain ⟨_, e15, rfl⟩ := hd 15 rfl _ rfl
  have hI0 := hI
  obtain ⟨v29, v31, rfl, hs30, hs32⟩ := hI
  refine st_gs [[(b10, .cells #[.I 0, .I 0, .I 0, .I 0, .I 0, .I 0, .I 0, .I 0, .N0, .N0, .E0, .E0, .I 0, .I 0, .I 0, .I 0, .N0, .N0] 31 (0, 0))], [(b9, .cells #[.I a0.1, .I r11.1, .I (r11.2.1.getD 0 0), .I (r11.2.1.getD 1 0), .I (r11.2.1.getD 2 0), .I (r11.2.1.getD 3 0), .I (r11.2.1.getD 4 0), .I (r11.2.1.getD 5 0), v29, v31, .string r11.t4.1, .string r11.t4.2, .I a0.2.2.1.1, .I a0.2.2.1.2.1, .I a0.2.2.1.2.2.1, .I a0.2.2.1.2.2.2.1, v3, v4] 31 (0, 0))], pool] rfl ?_
  refine o_store (j := 1) (vs := [.I r19.1, .I r19.2.1, .I r19.2.2.1, .I r19.2.2.2.1, v23]) (cs' := [.I a0.1, .I r11.1, .I (r11.2.1.getD 0 0), .I (r11.2.1.getD 1 0), .I (r11.2.1.getD 2 0), .I (r11.2.1.getD 3 0), .I (r11.2.1.getD 4 0), .I (r11.2.1.getD 5 0), v29, v31, .string r11.t4.1, .string r11.t4.2, .I r19.1, .I r19.2.1, .I r19.2.2.1, .I r19.2.2.2.1, v23, v4]) rfl rfl rfl z_size29 e15 e5 rfl (ones_cons rfl (ones_cons rfl (ones_cons rfl (ones_cons rfl (ones_cons hs24.one' ones_nil))))) rfl rfl rfl ?_
  refine st_gs [[(b10, .cells #[.I 0, .I 0, .I 0, .I 0, .I 0, .I 0, .I 0, .I 0, .N0, .N0, .E0, .E0, .I 0, .I 0, .I 0, .I 0, .N0, .N0] 31 (0, 0))], [(b9, .cells #[.I a0.1, .I r11.1, .I (r11.2.1.getD 0 0), .I (r11.2.1.getD 1 0), .I (r11.2.1.getD 2 0), .I (r11.2.1.getD 3 0), .I (r11.2.1.getD 4 0), .I (r11.2.1.getD 5 0), v29, v31, .string r11.t4.1, .string r11.t4.2, .I r19.1, .I r19.2.1, .I r19.2.2.1, .I r19.2.2.2.1, v23, v4] 31 (0, 0))], pool] rfl ?_
  exact hk _ _ [[(b9, .cells #[.I a0.1, .I r11.1, .I (r11.2.1.getD 0 0), .I (r11.2.1.getD 1 0), .I (r11.2.1.getD 2 0), .I (r11.2.1.getD 3 0), .I (r11.2.1.getD 4 0), .I (r11.2.1.getD 5 0), v29, v31, .string r11.t4.1, .string r11.t4.2, .I r19.1, .I r19.2.1, .I r19.2.2.1, .I r19.2.2.2.1, v23, v4] 31 (0, 0))]] (Sto.Le.refl _) trivial (by exact ⟨v29, v31, v23, rfl, hs30, hs32, hs24⟩)
 intro ρ' τ39 vals u Fv hl39 hI hu hv hout
 obtain ⟨l12, v27, t12, hs28⟩ := hv 12 (by decide)
 replace l12 := l12 _ rfl
 replace l12 : Eng.look ρ' 15 = some (v27) := l12.trans (congrArg some (Eq.symm t12))
 obtain ⟨v33, v35, v37, rfl, hs34, hs36, hs38⟩ := hI
 refine st_gs [[(b10, .cells #[.I 0, .I 0, .I 0, .I 0, .I 0, .I 0, .I 0, .I 0, .N0, .N0, .E0, .E0, .I 0, .I 0, .I 0, .I 0, .N0, .N0] 31 (0, 0))], [(b9, .cells #[.I a0.1, .I r11.1, .I (r11.2.1.getD 0 0), .I (r11.2.1.getD 1 0), .I (r11.2.1.getD 2 0), .I (r11.2.1.getD 3 0), .I (r11.2.1.getD 4 0), .I (r11.2.1.getD 5 0), v33, v35, .string r11.t4.1, .string r11.t4.2, .I r19.1, .I r19.2.1, .I r19.2.2.1, .I r19.2.2.2.1, v37, v4] 31 (0, 0))]] rfl ?_
 refine st_env (ρ' := [(15, v27), (1, .Pb b9), (2, .Pb b10)]) ⟨l12, (hout 1 rfl).trans rfl, (hout 2 rfl).trans rfl, trivial⟩ ?_
 refine o_fieldAddr rfl rfl rfl z_field31_3 rfl ?_
 refine o_store (j := 1) (vs := [v27]) (cs' := [.I a0.1, .I r11.1, .I (r11.2.1.getD 0 0), .I (r11.2.1.getD 1 0), .I (r11.2.1.getD 2 0), .I (r11.2.1.getD 3 0), .I (r11.2.1.getD 4 0), .I (r11.2.1.getD 5 0), v33, v35, .string r11.t4.1, .string r11.t4.2, .I r19.1, .I r19.2.1, .I r19.2.2.1, .I r19.2.2.2.1, v37, v27]) rfl rfl rfl z_size24 rfl rfl (oneL_sl hs28) (ones_cons hs28.one' ones_nil) rfl rfl rfl ?_
 refine st_gs [[(b10, .cells #[.I 0, .I 0, .I 0, .I 0, .I 0, .I 0, .I 0, .I 0, .N0, .N0, .E0, .E0, .I 0, .I 0, .I 0, .I 0, .N0, .N0] 31 (0, 0))], [(b9, .cells #[.I a0.1, .I r11.1, .I (r11.2.1.getD 0 0), .I (r11.2.1.getD 1 0), .I (r11.2.1.getD 2 0), .I (r11.2.1.getD 3 0), .I (r11.2.1.getD 4 0), .I (r11.2.1.getD 5 0), v33, v35, .string r11.t4.1, .string r11.t4.2, .I r19.1, .I r19.2.1, .I r19.2.2.1, .I r19.2.2.2.1, v37, v27] 31 (0, 0))]] rfl ?_
 refine ZZ 4 [1] rfl rfl ?_
 refine o_store (j := 0) (vs := [.I a0.1, .I r11.1, .I (r11.2.1.getD 0 0), .I (r11.2.1.getD 1 0), .I (r11.2.1.getD 2 0), .I (r11.2.1.getD 3 0), .I (r11.2.1.getD 4 0), .I (r11.2.1.getD 5 0), v33, v35, .string r11.t4.1, .string r11.t4.2, .I r19.1, .I r19.2.1, .I r19.2.2.1, .I r19.2.2.2.1, v37, v27]) (cs' := [.I a0.1, .I r11.1, .I (r11.2.1.getD 0 0), .I (r11.2.1.getD 1 0), .I (r11.2.1.getD 2 0), .I (r11.2.1.getD 3 0), .I (r11.2.1.getD 4 0), .I (r11.2.1.getD 5 0), v33, v35, .string r11.t4.1, .string r11.t4.2, .I r19.1, .I r19.2.1, .I r19.2.2.1, .I r19.2.2.2.1, v37, v27]) rfl rfl rfl z_size31 rfl rfl rfl (ones_cons rfl (ones_cons rfl (ones_cons rfl (ones_cons rfl (ones_cons rfl (ones_cons rfl (ones_cons rfl (ones_cons rfl (ones_cons hs34.one' (ones_cons hs36.one' (ones_cons rfl (ones_cons rfl (ones_cons rfl (ones_cons rfl (ones_cons rfl (ones_cons rfl (ones_cons hs38.one' (ones_cons hs28.one' ones_nil)))))))))))))))))) rfl rfl rfl ?_
 refine st_gs [[(b10, .cells #[.I a0.1, .I r11.1, .I (r11.2.1.getD 0 0), .I (r11.2.1.getD 1 0), .I (r11.2.1.getD 2 0), .I (r11.2.1.getD 3 0), .I (r11.2.1.getD 4 0), .I (r11.2.1.getD 5 0), v33, v35, .string r11.t4.1, .string r11.t4.2, .I r19.1, .I r19.2.1, .I r19.2.2.1, .I r19.2.2.2.1, v37, v27] 31 (0, 0))], [(b9, .cells #[.I a0.1, .I r11.1, .I (r11.2.1.getD 0 0), .I (r11.2.1.getD 1 0), .I (r11.2.1.getD 2 0), .I (r11.2.1.getD 3 0), .I (r11.2.1.getD 4 0), .I (r11.2.1.getD 5 0), v33, v35, .string r11.t4.1, .string r11.t4.2, .I r19.1, .I r19.2.1, .I r19.2.2.1, .I r19.2.2.2.1, v37, v27] 31 (0, 0))]] rfl ?_
 refine st_end ?_
 obtain rfl := Eq.symm h
 exact st_retC (gs' := []) [.agg #[.I a0.1, .I r11.1, .I (r11.2.1.getD 0 0), .I (r11.2.1.getD 1 0), .I (r11.2.1.getD 2 0), .I (r11.2.1.getD 3 0), .I (r11.2.1.getD 4 0), .I (r11.2.1.getD 5 0), v33, v35, .string r11.t4.1, .string r11.t4.2, .I r19.1, .I r19.2.1, .I r19.2.2.1, .I r19.2.2.2.1, v37, v27]] Tryz.func12 ⟨⟨_, _, _, _, rfl, mem_flat 0 rfl, fun w hw => cellOfN (vs := [.I a0.1, .I r11.1, .I (r11.2.1.getD 0 0), .I (r11.2.1.getD 1 0), .I (r11.2.1.getD 2 0), .I (r11.2.1.getD 3 0), .I (r11.2.1.getD 4 0), .I (r11.2.1.getD 5 0), v33, v35, .string r11.t4.1, .string r11.t4.2, .I r19.1, .I r19.2.1, .I r19.2.2.1, .I r19.2.2.2.1, v37, v27]) z_agg31 rfl w hw⟩, trivial⟩ (by simp) hl39 ⟨_, _, _, _, rfl, rfl, hs34, hs36, hs38, hs28⟩
theorem ref07_Digits_ok {a0 : Int} {r : ByteArray} (h : ref07_Digits a0 r) (σ : Sto)  :
    Does Tryz.prog 46 [.I a0] σ [] (fun v τ gs => gs = [] ∧ .string r = v) := by
 refine call_of Tryz.func46 Tryz.ntmps46 rfl rfl (fun cs fs => ?_)
 refine Z 2 rfl ?_
 refine o_assign rfl rfl rfl (ev_str z_str1) ?_
 refine Z 7 rfl ?_
 refine st_if rfl h (fun h => ?_) (fun h => ?_)
 ·refine Z 2 rfl ?_
  refine o_assign rfl rfl rfl (ev_str z_str1) ?_
  refine Z 2 rfl ?_
  refine st_cut (fun ρ τ1 gs => ∃ (s1 : Int × ByteArray), ref07_Digits_j1 s1 r ∧ σ.Le τ1 ∧ ESub ρ [(0, .I s1.1), (2, .E0), (3, .string s1.2)] ∧ gs = []) ?_ (fun hk1 => ?_)
  ·rintro ρ1 τ1 gs1 ⟨s1, h, hl1, hρ, rfl⟩
   refine st_es hρ ?_
   refine Z 3 rfl ?_
   obtain ⟨hf2, h⟩ := h
   refine o_sadd rfl rfl rfl (ev_str z_str33) rfl hf2 ?_
   refine Z 2 rfl ?_
   obtain rfl := Eq.symm h
   exact st_ret (gs' := []) Tryz.func46 rfl (List.Sublist.refl _) hl1 ⟨rfl, rfl⟩
  obtain ⟨e3, hL3, hA3⟩ := h
  refine st_loop hL3 (fun (s3 : Int × ByteArray) ρ τ3 gs => σ.Le τ3 ∧ ESub ρ [(0, .I s3.1), (2, .E0), (3, .string s3.2)] ∧ gs = []) ⟨Sto.Le.refl _, rfl, rfl⟩ ?_
  rintro s3 o3 h he3 ρ3 τ3 gs3 ⟨hl3, hρ, rfl⟩ hn3
  refine st_es hρ ?_
  refine Z 6 rfl ?_
  refine st_if rfl h (fun h => ?_) (fun h => ?_)
  ·refine Z 8 rfl ?_
   refine o_litE (eI .u8) [(IntKind.u8.wrap (IntKind.i64.wrap (48 - (s3.1.tmod 10))))] rfl rfl rfl z_slT27 z_zero5 ⟨rfl, ⟨_, rfl, rfl⟩, trivial⟩ rfl rfl rfl rfl (fun v4 g5 ho6 => ?_)
   refine st_freeze (fun τ7 hl8 hg9 => ?_)
   have hs10 := ho6.freeze hl8 hg9
   refine o_bstr (xs := [(IntKind.u8.wrap (IntKind.i64.wrap (48 - (s3.1.tmod 10))))]) rfl rfl rfl Tryz.underlying27 Tryz.underlying5 Tryz.underlying9 rfl hs10 ?_
   refine o_move rfl rfl rfl rfl ?_
   obtain ⟨hf11, h⟩ := h
   refine o_sadd rfl rfl rfl rfl rfl hf11 ?_
   refine Z 8 rfl ?_
   exact hn3 _ _ _ _ h ⟨(hl3.trans hl8), rfl, rfl⟩
  ·refine st_exit rfl ?_
   obtain rfl := he3 _ h
   replace h := hA3
   exact hk1 _ _ _ ⟨(s3.1, s3.2), h, hl3, rfl, rfl⟩
 ·refine Z 3 rfl ?_
  refine o_assign rfl rfl rfl (ev_str z_str1) ?_
  refine Z 2 rfl ?_
  refine st_cut (fun ρ τ13 gs => ∃ (s13 : Int × ByteArray), ref07_Digits_j3 s13 r ∧ σ.Le τ13 ∧ ESub ρ [(0, .I s13.1), (2, .E0), (4, .string s13.2)] ∧ gs = []) ?_ (fun hk13 => ?_)
  ·rintro ρ13 τ13 gs13 ⟨s13, h, hl13, hρ, rfl⟩
   refine st_es hρ ?_
   refine Z 5 rfl ?_
   refine o_litE (eI .u8) [(IntKind.u8.wrap (IntKind.i64.wrap (48 + s13.1)))] rfl rfl rfl z_slT27 z_zero5 ⟨rfl, ⟨_, rfl, rfl⟩, trivial⟩ rfl rfl rfl rfl (fun v14 g15 ho16 => ?_)
   refine st_freeze (fun τ17 hl18 hg19 => ?_)
   have hs20 := ho16.freeze hl18 hg19
   refine o_bstr (xs := [(IntKind.u8.wrap (IntKind.i64.wrap (48 + s13.1)))]) rfl rfl rfl Tryz.underlying27 Tryz.underlying5 Tryz.underlying9 rfl hs20 ?_
   refine o_move rfl rfl rfl rfl ?_
   obtain ⟨hf21, h⟩ := h
   refine o_sadd rfl rfl rfl rfl rfl hf21 ?_
   refine Z 2 rfl ?_
   obtain rfl := Eq.symm h
   exact st_ret (gs' := []) Tryz.func46 rfl (List.Sublist.refl _) (hl13.trans hl18) ⟨rfl, rfl⟩
  obtain ⟨e22, hL22, hA22⟩ := h
  refine st_loop hL22 (fun (s22 : Int × ByteArray) ρ τ22 gs => σ.Le τ22 ∧ ESub ρ [(0, .I s22.1), (2, .E0), (4, .string s22.2)] ∧ gs = []) ⟨Sto.Le.refl _, rfl, rfl⟩ ?_
  rintro s22 o22 h he22 ρ22 τ22 gs22 ⟨hl22, hρ, rfl⟩ hn22
  refine st_es hρ ?_
  refine Z 6 rfl ?_
  refine st_if rfl h (fun h => ?_) (fun h => ?_)
  ·refine Z 8 rfl ?_
   refine o_litE (eI .u8) [(IntKind.u8.wrap (IntKind.i64.wrap (48 + (s22.1.tmod 10))))] rfl rfl rfl z_slT27 z_zero5 ⟨rfl, ⟨_, rfl, rfl⟩, trivial⟩ rfl rfl rfl rfl (fun v23 g24 ho25 => ?_)
   refine st_freeze (fun τ26 hl27 hg28 => ?_)
   have hs29 := ho25.freeze hl27 hg28
   refine o_bstr (xs := [(IntKind.u8.wrap (IntKind.i64.wrap (48 + (s22.1.tmod 10))))]) rfl rfl rfl Tryz.underlying27 Tryz.underlying5 Tryz.underlying9 rfl hs29 ?_
   refine o_move rfl rfl rfl rfl ?_
   obtain ⟨hf30, h⟩ := h
   refine o_sadd rfl rfl rfl rfl rfl hf30 ?_
   refine Z 8 rfl ?_
   exact hn22 _ _ _ _ h ⟨(hl22.trans hl27), rfl, rfl⟩
  ·refine st_exit rfl ?_
   obtain rfl := he22 _ h
   replace h := hA22
   exact hk13 _ _ _ ⟨(s22.1, s22.2), h, hl22, rfl, rfl⟩
theorem ref20_hex_ok {a0 : ByteArray} {r : ByteArray} (h : ref20_hex a0 r) (σ : Sto)  :
    Does Tryz.prog 84 [.string a0] σ [] (fun v τ gs => gs = [] ∧ .string r = v) := by
 refine call_of Tryz.func84 Tryz.ntmps84 rfl rfl (fun cs fs => ?_)
 refine Z 2 rfl ?_
 refine o_assign rfl rfl rfl (ev_str z_str1) ?_
 refine Z 5 rfl ?_
 refine o_sbin (v := .bool (decide (a0 = (bstr [])))) rfl rfl rfl rfl (ev_str z_str1) rfl ?_
 refine st_end ?_
 refine st_if rfl h (fun h => ?_) (fun h => ?_)
 ·refine Z 2 rfl ?_
  refine o_assign rfl rfl rfl (ev_str z_str33) ?_
  refine st_end ?_
  obtain rfl := Eq.symm h
  exact st_ret (gs' := []) Tryz.func84 rfl (List.Sublist.refl _) (Sto.Le.refl _) ⟨rfl, rfl⟩
 ·refine Z 3 rfl ?_
  refine o_assign rfl rfl rfl (ev_str z_str1) ?_
  refine Z 2 rfl ?_
  refine st_cut (fun ρ τ1 gs => ∃ (s1 : ByteArray), ref20_hex_j1 s1 r ∧ σ.Le τ1 ∧ ESub ρ [(2, .E0), (3, .string s1)] ∧ gs = []) ?_ (fun hk1 => ?_)
  ·rintro ρ1 τ1 gs1 ⟨s1, h, hl1, hρ, rfl⟩
   refine st_es hρ ?_
   refine Z 5 rfl ?_
   obtain rfl := Eq.symm h
   exact st_ret (gs' := []) Tryz.func84 rfl (List.Sublist.refl _) hl1 ⟨rfl, rfl⟩
  refine Z 4 rfl ?_
  obtain ⟨e2, hL2, hA2⟩ := h
  refine st_loop hL2 (fun (s2 : ByteArray × Int) ρ τ2 gs => σ.Le τ2 ∧ ESub ρ [(0, .string a0), (2, .E0), (3, .string s2.1), (4, .I s2.2)] ∧ gs = []) ⟨Sto.Le.refl _, rfl, rfl⟩ ?_
  rintro s2 o2 h he2 ρ2 τ2 gs2 ⟨hl2, hρ, rfl⟩ hn2
  refine st_es hρ ?_
  refine Z 8 rfl ?_
  refine st_if rfl h (fun h => ?_) (fun h => ?_)
  ·refine Z 3 rfl ?_
   obtain ⟨q3, hf4, r5, hr6, q9, hf10, r11, hr12, hf22, h⟩ := h
   refine st_draw 14 (dl [.v (.string s2.1), .v (.string a0), .v (.I s2.2), .v (.int .u8 q3), .v (.int .u8 (IntKind.u8.wrap (q3.tdiv 16))), .v (.int .u8 r5), .v (.string a0), .v (.I s2.2), .v (.int .u8 q9), .v (.int .u8 (q9.tmod 16)), .v (.int .u8 r11), .t fun τ v => ∃ (v15 : Value), (v15 : Value) = v ∧ Sl (kI .u8) τ v15 [r5, r11], .v (.string (bstr [r5, r11])), .v (.string (s2.1 ++ (bstr [r5, r11])))]) (fun _ _ => []) z_mix rfl (dl_mono ⟨fun _ _ _ hl ⟨v15, hv, hs21⟩ => ⟨v15, hv, hs21.up hl⟩, trivial⟩) (allB_cons (allB_cons (allB_cons (allB_cons (allB_cons (allB_cons (allB_cons (allB_cons (allB_cons (allB_cons (allB_cons (allB_cons (allB_cons (allB_cons allB_nil (p1 dA)) (p1 dA)) (p1 dA)) ?_) (p1 dA)) ?_) (p1 dA)) (p1 dA)) ?_) (p1 dA)) ?_) ?_) ?_) ?_) ?_
   ·intro ρ' τ pool rs hl hd hout hk
    obtain ⟨_, e1, rfl⟩ := hd 1 rfl
    obtain ⟨_, e2, rfl⟩ := hd 2 rfl
    refine o_indexS rfl rfl rfl Tryz.underlying9 e1 e2 hf4 ?_
    exact st_addNil (hk _ _ (Sto.Le.refl _) rfl)
   ·intro ρ' τ pool rs hl hd hout hk
    obtain ⟨_, e4, rfl⟩ := hd 4 rfl
    refine st_call (foot := []) rfl rfl rfl rfl (evs_cons e4 rfl) rfl (callV_fn z_en111 (ref20_digit_ok hr6 τ)) ?_
    rintro vτ7 τ7 gsτ7 hl8 ⟨rfl, rfl⟩
    exact st_addNil (hk _ _ hl8 rfl)
   ·intro ρ' τ pool rs hl hd hout hk
    obtain ⟨_, e6, rfl⟩ := hd 6 rfl
    obtain ⟨_, e7, rfl⟩ := hd 7 rfl
    refine o_indexS rfl rfl rfl Tryz.underlying9 e6 e7 hf10 ?_
    exact st_addNil (hk _ _ (Sto.Le.refl _) rfl)
   ·intro ρ' τ pool rs hl hd hout hk
    obtain ⟨_, e9, rfl⟩ := hd 9 rfl
    refine st_call (foot := []) rfl rfl rfl rfl (evs_cons e9 rfl) rfl (callV_fn z_en111 (ref20_digit_ok hr12 τ)) ?_
    rintro vτ13 τ13 gsτ13 hl14 ⟨rfl, rfl⟩
    exact st_addNil (hk _ _ hl14 rfl)
   ·intro ρ' τ pool rs hl hd hout hk
    obtain ⟨_, e5, rfl⟩ := hd 5 rfl
    obtain ⟨_, e10, rfl⟩ := hd 10 rfl
    refine o_litE (eI .u8) [r5, r11] rfl rfl rfl z_slT27 z_zero5 ⟨rfl, ⟨_, e5, rfl⟩, ⟨rfl, ⟨_, e10, rfl⟩, trivial⟩⟩ rfl rfl rfl rfl (fun v15 g16 ho17 => ?_)
    refine st_freeze (fun τ18 hl19 hg20 => ?_)
    have hs21 := ho17.freeze hl19 hg20
    exact st_addNil (hk _ _ hl19 ⟨v15, rfl, hs21⟩)
   ·intro ρ' τ pool rs hl hd hout hk
    obtain ⟨_, e11, v15, rfl, hs21⟩ := hd 11 rfl
    refine o_bstr (xs := [r5, r11]) rfl rfl rfl Tryz.underlying27 Tryz.underlying5 Tryz.underlying9 e11 hs21 ?_
    exact st_addNil (hk _ _ (Sto.Le.refl _) rfl)
   ·intro ρ' τ pool rs hl hd hout hk
    obtain ⟨_, e0, rfl⟩ := hd 0 rfl
    obtain ⟨_, e12, rfl⟩ := hd 12 rfl
    refine o_sadd rfl rfl rfl e0 e12 hf22 ?_
    exact st_addNil (hk _ _ (Sto.Le.refl _) rfl)
   intro ρ' τ23 vals hl23 hv hout
   refine st_ord [] _ rfl ?_
   refine st_env (ρ' := [(26, .string (s2.1 ++ (bstr [r5, r11]))), (0, .string a0), (2, .E0), (4, .I s2.2)]) ⟨(lv1 hv 13 rfl rfl), (hout 0 rfl).trans rfl, (hout 2 rfl).trans rfl, (hout 4 rfl).trans rfl, trivial⟩ ?_
   refine Z 8 rfl ?_
   exact hn2 _ _ _ _ h ⟨(hl2.trans hl23), rfl, rfl⟩
  ·refine st_exit rfl ?_
   obtain rfl := he2 _ h
   replace h := hA2
   exact hk1 _ _ _ ⟨s2.1, h, hl2, rfl, rfl⟩
theorem ref20_Line_ok {a0 : TyR} {v1 : Value} {v2 : Value} {r : ByteArray} (h : ref20_Line a0 r) (σ : Sto) (hs3 : Sl (kA .i64 2) σ v1 a0.2.2.1) (hs4 : Sl (kI .i64) σ v2 a0.2.2.2.1) :
    Does Tryz.prog 44 [.agg [.I a0.1, .I (a0.2.1.getD 0 0), .I (a0.2.1.getD 1 0), .I (a0.2.1.getD 2 0), .I (a0.2.1.getD 3 0), .I (a0.2.1.getD 4 0), .I (a0.2.1.getD 5 0), v1, v2, .string a0.t4.1, .string a0.t4.2].toArray] σ [] (fun v τ gs => gs = [] ∧ .string r = v) := by
 refine call_of Tryz.func44 Tryz.ntmps44 rfl rfl (fun cs fs => ?_)
 refine Z 2 rfl ?_
 refine o_box (cs := [.I a0.1, .I (a0.2.1.getD 0 0), .I (a0.2.1.getD 1 0), .I (a0.2.1.getD 2 0), .I (a0.2.1.getD 3 0), .I (a0.2.1.getD 4 0), .I (a0.2.1.getD 5 0), v1, v2, .string a0.t4.1, .string a0.t4.2]) rfl rfl rfl rfl rfl (fun b5 => ?_)
 refine o_assign rfl rfl rfl (ev_str z_str1) ?_
 refine ZZ 5 [0] rfl rfl ?_
 obtain ⟨r6, hr7, h⟩ := h
 refine st_call (foot := []) rfl rfl rfl rfl rfl rfl (callV_fn z_en38 (ref17_Check_ok hr7 σ hs3 hs4)) ?_
 rintro vτ8 τ8 gsτ8 hl9 ⟨rfl, rfl⟩
 refine Z 2 rfl ?_
 refine st_if rfl h (fun h => ?_) (fun h => ?_)
 ·refine Z 2 rfl ?_
  refine o_assign rfl rfl rfl (ev_str z_str1) ?_
  refine st_end ?_
  refine st_ord [] _ rfl ?_
  obtain rfl := Eq.symm h
  exact st_ret (gs' := []) Tryz.func44 rfl (List.Sublist.refl _) hl9 ⟨rfl, rfl⟩
 ·refine ZZ 5 [0] rfl rfl ?_
  obtain ⟨r10, hr11, h⟩ := h
  refine st_call (foot := []) rfl rfl rfl rfl rfl rfl (callV_fn z_en66 (ref16_Word_ok hr11 τ8)) ?_
  rintro vτ12 τ12 gsτ12 hl13 ⟨rfl, rfl⟩
  refine ZZ 6 [0] rfl rfl ?_
  obtain ⟨r14, hr15, h⟩ := h
  refine st_call (foot := []) rfl rfl rfl rfl rfl rfl (callV_fn z_en67 (ref16_All_ok hr15 τ12)) ?_
  rintro vτ16 τ16 gsτ16 hl17 ⟨v18, rfl, rfl, hs19⟩
  refine Z 3 rfl ?_
  refine st_cut (fun ρ τ20 gs => ∃ (s20 : ByteArray), ref20_Line_j1 s20 r ∧ τ16.Le τ20 ∧ ESub ρ [(2, .E0), (3, .string s20)] ∧ gs = []) ?_ (fun hk20 => ?_)
  ·rintro ρ20 τ20 gs20 ⟨s20, h, hl20, hρ, rfl⟩
   refine st_es hρ ?_
   refine Z 5 rfl ?_
   obtain rfl := Eq.symm h
   exact st_ret (gs' := []) Tryz.func44 rfl (List.Sublist.refl _) (((hl9.trans hl13).trans hl17).trans hl20) ⟨rfl, rfl⟩
  refine Z 4 rfl ?_
  obtain ⟨e21, hL21, hA21⟩ := h
  refine st_loop hL21 (fun (s21 : ByteArray × Int) ρ τ21 gs => τ16.Le τ21 ∧ ESub ρ [(1, .Pb b5), (2, .E0), (3, .string s21.1), (4, v18), (5, .I s21.2)] ∧ gs = [[(b5, .cells #[.I a0.1, .I (a0.2.1.getD 0 0), .I (a0.2.1.getD 1 0), .I (a0.2.1.getD 2 0), .I (a0.2.1.getD 3 0), .I (a0.2.1.getD 4 0), .I (a0.2.1.getD 5 0), v1, v2, .string a0.t4.1, .string a0.t4.2] 37 (0, 0))]]) ⟨Sto.Le.refl _, rfl, rfl⟩ ?_
  rintro s21 o21 h he21 ρ21 τ21 gs21 ⟨hl21, hρ, rfl⟩ hn21
  refine st_es hρ ?_
  refine Z 5 rfl ?_
  refine o_lenI rfl rfl rfl z_slT126 rfl (hs19.up hl21) ?_
  refine Z 2 rfl ?_
  refine st_if rfl h (fun h => ?_) (fun h => ?_)
  ·refine Z 5 rfl ?_
   refine o_assign rfl rfl rfl (ev_str z_str1) ?_
   refine Z 2 rfl ?_
   refine st_cut (fun ρ τ22 gs => ∃ (s22 : ByteArray), ref20_Line_j3 r14 s21 s22 o21 ∧ τ21.Le τ22 ∧ ESub ρ [(1, .Pb b5), (2, .E0), (3, .string s21.1), (4, v18), (5, .I s21.2), (6, .string s22)] ∧ gs = [[(b5, .cells #[.I a0.1, .I (a0.2.1.getD 0 0), .I (a0.2.1.getD 1 0), .I (a0.2.1.getD 2 0), .I (a0.2.1.getD 3 0), .I (a0.2.1.getD 4 0), .I (a0.2.1.getD 5 0), v1, v2, .string a0.t4.1, .string a0.t4.2] 37 (0, 0))]]) ?_ (fun hk22 => ?_)
   ·rintro ρ22 τ22 gs22 ⟨s22, h, hl22, hρ, rfl⟩
    refine st_es hρ ?_
    refine Z 2 rfl ?_
    obtain ⟨hf23, h⟩ := h
    refine o_sadd rfl rfl rfl rfl (ev_str z_str0) hf23 ?_
    refine Z 2 rfl ?_
    obtain ⟨q24, hf25, h⟩ := h
    refine o_index rfl rfl rfl z_slT126 rfl rfl (hs19.up (hl21.trans hl22)) rfl hf25 (fun b26 of27 vs hc28 hrep => ?_)
    obtain ⟨_, _, rfl, rfl, ⟨_, _, rfl, rfl, ⟨_, _, rfl, rfl, ⟨_, _, rfl, rfl, ⟨_, _, rfl, rfl, ⟨_, _, rfl, rfl, rfl⟩⟩⟩⟩⟩⟩ := hrep
    refine o_fieldAddr rfl rfl rfl z_field129_0 rfl ?_
    refine o_loadI (v := .string q24.1) rfl rfl rfl z_sc9 rfl (hc28 0 _ rfl) ?_
    obtain ⟨hf29, h⟩ := h
    refine o_sadd rfl rfl rfl rfl rfl hf29 ?_
    obtain ⟨hf30, h⟩ := h
    refine o_sadd rfl rfl rfl rfl (ev_str z_str0) hf30 ?_
    refine o_move rfl rfl rfl rfl ?_
    obtain ⟨hf31, h⟩ := h
    refine o_sadd rfl rfl rfl rfl rfl hf31 ?_
    refine Z 8 rfl ?_
    exact hn21 _ _ _ _ h ⟨(hl21.trans hl22), rfl, rfl⟩
   refine Z 4 rfl ?_
   obtain ⟨q32, hf33, h⟩ := h
   refine o_index rfl rfl rfl z_slT126 rfl rfl (hs19.up hl21) rfl hf33 (fun b34 of35 vs hc36 hrep => ?_)
   obtain ⟨_, _, rfl, rfl, ⟨_, _, rfl, rfl, ⟨_, _, rfl, rfl, ⟨_, _, rfl, rfl, ⟨_, _, rfl, rfl, ⟨_, _, rfl, rfl, rfl⟩⟩⟩⟩⟩⟩ := hrep
   refine o_fieldAddr rfl rfl rfl z_field129_1 rfl ?_
   refine o_loadI (v := .I q32.2.1) rfl rfl rfl z_sc3 rfl (hc36 1 _ rfl) ?_
   refine Z 7 rfl ?_
   refine st_if rfl h (fun h => ?_) (fun h => ?_)
   ·refine Z 4 rfl ?_
    obtain ⟨e37, hL37, hA37⟩ := h
    refine st_loop hL37 (fun (s37 : ByteArray × Int) ρ τ37 gs => τ21.Le τ37 ∧ ESub ρ [(1, .Pb b5), (2, .E0), (3, .string s21.1), (4, v18), (5, .I s21.2), (6, .string s37.1), (7, .I s37.2)] ∧ gs = [[(b5, .cells #[.I a0.1, .I (a0.2.1.getD 0 0), .I (a0.2.1.getD 1 0), .I (a0.2.1.getD 2 0), .I (a0.2.1.getD 3 0), .I (a0.2.1.getD 4 0), .I (a0.2.1.getD 5 0), v1, v2, .string a0.t4.1, .string a0.t4.2] 37 (0, 0))]]) ⟨Sto.Le.refl _, rfl, rfl⟩ ?_
    rintro s37 o37 h he37 ρ37 τ37 gs37 ⟨hl37, hρ, rfl⟩ hn37
    refine st_es hρ ?_
    refine ZZ 6 [0] rfl rfl ?_
    refine o_lenI rfl rfl rfl z_slT35 rfl (hs3.up ((((hl9.trans hl13).trans hl17).trans hl21).trans hl37)) ?_
    refine Z 2 rfl ?_
    refine st_if rfl h (fun h => ?_) (fun h => ?_)
    ·refine Z 4 rfl ?_
     refine st_cut (fun ρ τ38 gs => ∃ (s38 : ByteArray), ref20_Line_j5 a0 s37 s38 o37 ∧ τ37.Le τ38 ∧ ESub ρ [(1, .Pb b5), (2, .E0), (3, .string s21.1), (4, v18), (5, .I s21.2), (6, .string s38), (7, .I s37.2)] ∧ gs = [[(b5, .cells #[.I a0.1, .I (a0.2.1.getD 0 0), .I (a0.2.1.getD 1 0), .I (a0.2.1.getD 2 0), .I (a0.2.1.getD 3 0), .I (a0.2.1.getD 4 0), .I (a0.2.1.getD 5 0), v1, v2, .string a0.t4.1, .string a0.t4.2] 37 (0, 0))]]) ?_ (fun hk38 => ?_)
     ·rintro ρ38 τ38 gs38 ⟨s38, h, hl38, hρ, rfl⟩
      refine st_es hρ ?_
      obtain ⟨q39, hf40, r44, hr45, hf48, hf49, q50, hf51, r55, hr56, hf59, h⟩ := h
      refine st_draw 18 (dl [.v (.string s38), .v (.pointer (some ⟨b5, 7, none⟩)), .v (v1), .v (.I s37.2), .t fun τ v => ∃ (b41 : Nat) (of42 : Nat) (vsb41 : List Value), (.pointer (some ⟨b41, of42, none⟩) : Value) = v ∧ CelN τ ⟨b41, of42, none⟩ vsb41 ∧ (kA .i64 2).rep τ vsb41 q39, .t fun τ v => ∃ (b41 : Nat) (of42 : Nat) (vsb41 : List Value), (.pointer (some ⟨b41, of42 + (0 : Int).toNat * 1, none⟩) : Value) = v ∧ CelN τ ⟨b41, of42, none⟩ vsb41 ∧ (kA .i64 2).rep τ vsb41 q39, .v (.I (q39.getD 0 0)), .v (.string r44), .v (.string (s38 ++ r44)), .v (.string ((s38 ++ r44) ++ (bstr [44]))), .v (.pointer (some ⟨b5, 7, none⟩)), .v (v1), .v (.I s37.2), .t fun τ v => ∃ (b52 : Nat) (of53 : Nat) (vsb52 : List Value), (.pointer (some ⟨b52, of53, none⟩) : Value) = v ∧ CelN τ ⟨b52, of53, none⟩ vsb52 ∧ (kA .i64 2).rep τ vsb52 q50, .t fun τ v => ∃ (b52 : Nat) (of53 : Nat) (vsb52 : List Value), (.pointer (some ⟨b52, of53 + (1 : Int).toNat * 1, none⟩) : Value) = v ∧ CelN τ ⟨b52, of53, none⟩ vsb52 ∧ (kA .i64 2).rep τ vsb52 q50, .v (.I (q50.getD 1 0)), .v (.string r55), .v (.string (((s38 ++ r44) ++ (bstr [44])) ++ r55))]) (fun _ _ => []) z_mix rfl (dl_mono ⟨fun _ _ _ hl ⟨b41, of42, vsb41, hv, hc43, hrepb41⟩ => ⟨b41, of42, vsb41, hv, hc43.up hl, Kd.mono _ hl hrepb41⟩, ⟨fun _ _ _ hl ⟨b41, of42, vsb41, hv, hc43, hrepb41⟩ => ⟨b41, of42, vsb41, hv, hc43.up hl, Kd.mono _ hl hrepb41⟩, ⟨fun _ _ _ hl ⟨b52, of53, vsb52, hv, hc54, hrepb52⟩ => ⟨b52, of53, vsb52, hv, hc54.up hl, Kd.mono _ hl hrepb52⟩, ⟨fun _ _ _ hl ⟨b52, of53, vsb52, hv, hc54, hrepb52⟩ => ⟨b52, of53, vsb52, hv, hc54.up hl, Kd.mono _ hl hrepb52⟩, trivial⟩⟩⟩⟩) (allB_cons (allB_cons (allB_cons (allB_cons (allB_cons (allB_cons (allB_cons (allB_cons (allB_cons (allB_cons (allB_cons (allB_cons (allB_cons (allB_cons (allB_cons (allB_cons (allB_cons (allB_cons allB_nil (p1 dA)) (p1 dA)) ?_) (p1 dA)) ?_) ?_) ?_) ?_) ?_) ?_) (p1 dA)) ?_) (p1 dA)) ?_) ?_) ?_) ?_) ?_) ?_
      ·intro ρ' τ pool rs hl hd hout hk
       obtain ⟨_, e1, rfl⟩ := hd 1 rfl
       refine o_load (j := 0) (v := v1) rfl rfl rfl z_sc35 e1 rfl rfl ?_
       exact st_addNil (hk _ _ (Sto.Le.refl _) rfl)
      ·intro ρ' τ pool rs hl hd hout hk
       obtain ⟨_, e2, rfl⟩ := hd 2 rfl
       obtain ⟨_, e3, rfl⟩ := hd 3 rfl
       refine o_index rfl rfl rfl z_slT35 rfl e2 (hs3.up ((((((hl9.trans hl13).trans hl17).trans hl21).trans hl37).trans hl38).trans hl)) e3 hf40 (fun b41 of42 vsb41 hc43 hrepb41 => ?_)
       exact st_addNil (hk _ _ (Sto.Le.refl _) ⟨b41, of42, _, rfl, hc43, hrepb41⟩)
      ·intro ρ' τ pool rs hl hd hout hk
       obtain ⟨_, e4, b41, of42, vsb41, rfl, hc43, hrepb41⟩ := hd 4 rfl
       have hrepb41 := hrepb41
       obtain rfl := hrepb41
       refine o_indexA rfl rfl rfl z_arr134 e4 rfl (by decide) (by decide) ?_
       exact st_addNil (hk _ _ (Sto.Le.refl _) ⟨b41, of42, _, rfl, hc43, hrepb41⟩)
      ·intro ρ' τ pool rs hl hd hout hk
       obtain ⟨_, e5, b41, of42, vsb41, rfl, hc43, hrepb41⟩ := hd 5 rfl
       have hrepb41 := hrepb41
       obtain rfl := hrepb41
       refine o_loadI (v := .I (q39.getD 0 0)) rfl rfl rfl z_sc3 e5 (cel_arr (f := (Value.int .i64)) (zz := 0) (n := 2) (xs := q39) (p := 0) (q := 0) hc43 rfl (by omega) (by omega)) ?_
       exact st_addNil (hk _ _ (Sto.Le.refl _) rfl)
      ·intro ρ' τ pool rs hl hd hout hk
       obtain ⟨_, e6, rfl⟩ := hd 6 rfl
       refine st_call (foot := []) rfl rfl rfl rfl (evs_cons e6 rfl) rfl (callV_fn z_en46 (ref07_Digits_ok hr45 τ)) ?_
       rintro vτ46 τ46 gsτ46 hl47 ⟨rfl, rfl⟩
       exact st_addNil (hk _ _ hl47 rfl)
      ·intro ρ' τ pool rs hl hd hout hk
       obtain ⟨_, e0, rfl⟩ := hd 0 rfl
       obtain ⟨_, e7, rfl⟩ := hd 7 rfl
       refine o_sadd rfl rfl rfl e0 e7 hf48 ?_
       exact st_addNil (hk _ _ (Sto.Le.refl _) rfl)
      ·intro ρ' τ pool rs hl hd hout hk
       obtain ⟨_, e8, rfl⟩ := hd 8 rfl
       refine o_sadd rfl rfl rfl e8 (ev_str z_str32) hf49 ?_
       exact st_addNil (hk _ _ (Sto.Le.refl _) rfl)
      ·intro ρ' τ pool rs hl hd hout hk
       obtain ⟨_, e10, rfl⟩ := hd 10 rfl
       refine o_load (j := 0) (v := v1) rfl rfl rfl z_sc35 e10 rfl rfl ?_
       exact st_addNil (hk _ _ (Sto.Le.refl _) rfl)
      ·intro ρ' τ pool rs hl hd hout hk
       obtain ⟨_, e11, rfl⟩ := hd 11 rfl
       obtain ⟨_, e12, rfl⟩ := hd 12 rfl
       refine o_index rfl rfl rfl z_slT35 rfl e11 (hs3.up ((((((hl9.trans hl13).trans hl17).trans hl21).trans hl37).trans hl38).trans hl)) e12 hf51 (fun b52 of53 vsb52 hc54 hrepb52 => ?_)
       exact st_addNil (hk _ _ (Sto.Le.refl _) ⟨b52, of53, _, rfl, hc54, hrepb52⟩)
      ·intro ρ' τ pool rs hl hd hout hk
       obtain ⟨_, e13, b52, of53, vsb52, rfl, hc54, hrepb52⟩ := hd 13 rfl
       have hrepb52 := hrepb52
       obtain rfl := hrepb52
       refine o_indexA rfl rfl rfl z_arr134 e13 rfl (by decide) (by decide) ?_
       exact st_addNil (hk _ _ (Sto.Le.refl _) ⟨b52, of53, _, rfl, hc54, hrepb52⟩)
      ·intro ρ' τ pool rs hl hd hout hk
       obtain ⟨_, e14, b52, of53, vsb52, rfl, hc54, hrepb52⟩ := hd 14 rfl
       have hrepb52 := hrepb52
       obtain rfl := hrepb52
       refine o_loadI (v := .I (q50.getD 1 0)) rfl rfl rfl z_sc3 e14 (cel_arr (f := (Value.int .i64)) (zz := 0) (n := 2) (xs := q50) (p := 0) (q := 1) hc54 rfl (by omega) (by omega)) ?_
       exact st_addNil (hk _ _ (Sto.Le.refl _) rfl)
      ·intro ρ' τ pool rs hl hd hout hk
       obtain ⟨_, e15, rfl⟩ := hd 15 rfl
       refine st_call (foot := []) rfl rfl rfl rfl (evs_cons e15 rfl) rfl (callV_fn z_en46 (ref07_Digits_ok hr56 τ)) ?_
       rintro vτ57 τ57 gsτ57 hl58 ⟨rfl, rfl⟩
       exact st_addNil (hk _ _ hl58 rfl)
      ·intro ρ' τ pool rs hl hd hout hk
       obtain ⟨_, e9, rfl⟩ := hd 9 rfl
       obtain ⟨_, e16, rfl⟩ := hd 16 rfl
       refine o_sadd rfl rfl rfl e9 e16 hf59 ?_
       exact st_addNil (hk _ _ (Sto.Le.refl _) rfl)
      intro ρ' τ60 vals hl60 hv hout
      refine st_ord [0] _ rfl ?_
      refine st_env (ρ' := [(68, .string (((s38 ++ r44) ++ (bstr [44])) ++ r55)), (1, .Pb b5), (2, .E0), (3, .string s21.1), (4, v18), (5, .I s21.2), (7, .I s37.2)]) ⟨(lv1 hv 17 rfl rfl), (hout 1 rfl).trans rfl, (hout 2 rfl).trans rfl, (hout 3 rfl).trans rfl, (hout 4 rfl).trans rfl, (hout 5 rfl).trans rfl, (hout 7 rfl).trans rfl, trivial⟩ ?_
      refine Z 8 rfl ?_
      exact hn37 _ _ _ _ h ⟨((hl37.trans hl38).trans hl60), rfl, rfl⟩
     refine Z 5 rfl ?_
     refine st_if rfl h (fun h => ?_) (fun h => ?_)
     ·refine Z 2 rfl ?_
      obtain ⟨hf61, h⟩ := h
      refine o_sadd rfl rfl rfl rfl (ev_str z_str31) hf61 ?_
      refine Z 2 rfl ?_
      exact hk38 _ _ _ ⟨(s37.1 ++ (bstr [59])), h, (Sto.Le.refl _), rfl, rfl⟩
     ·refine st_skip ?_
      exact hk38 _ _ _ ⟨s37.1, h, (Sto.Le.refl _), rfl, rfl⟩
    ·refine Z 2 rfl ?_
     obtain rfl := he37 _ h
     replace h := hA37
     exact hk22 _ _ _ ⟨s37.1, h, hl37, rfl, rfl⟩
   ·refine Z 5 rfl ?_
    refine st_if rfl h (fun h => ?_) (fun h => ?_)
    ·refine Z 4 rfl ?_
     obtain ⟨e63, hL63, hA63⟩ := h
     refine st_loop hL63 (fun (s63 : ByteArray × Int) ρ τ63 gs => τ21.Le τ63 ∧ ESub ρ [(1, .Pb b5), (2, .E0), (3, .string s21.1), (4, v18), (5, .I s21.2), (6, .string s63.1), (8, .I s63.2)] ∧ gs = [[(b5, .cells #[.I a0.1, .I (a0.2.1.getD 0 0), .I (a0.2.1.getD 1 0), .I (a0.2.1.getD 2 0), .I (a0.2.1.getD 3 0), .I (a0.2.1.getD 4 0), .I (a0.2.1.getD 5 0), v1, v2, .string a0.t4.1, .string a0.t4.2] 37 (0, 0))]]) ⟨Sto.Le.refl _, rfl, rfl⟩ ?_
     rintro s63 o63 h he63 ρ63 τ63 gs63 ⟨hl63, hρ, rfl⟩ hn63
     refine st_es hρ ?_
     refine ZZ 6 [0] rfl rfl ?_
     refine o_lenI rfl rfl rfl z_slT24 rfl (hs4.up ((((hl9.trans hl13).trans hl17).trans hl21).trans hl63)) ?_
     refine Z 2 rfl ?_
     refine st_if rfl h (fun h => ?_) (fun h => ?_)
     ·refine Z 4 rfl ?_
      refine st_cut (fun ρ τ64 gs => ∃ (s64 : ByteArray), ref20_Line_j7 a0 s63 s64 o63 ∧ τ63.Le τ64 ∧ ESub ρ [(1, .Pb b5), (2, .E0), (3, .string s21.1), (4, v18), (5, .I s21.2), (6, .string s64), (8, .I s63.2)] ∧ gs = [[(b5, .cells #[.I a0.1, .I (a0.2.1.getD 0 0), .I (a0.2.1.getD 1 0), .I (a0.2.1.getD 2 0), .I (a0.2.1.getD 3 0), .I (a0.2.1.getD 4 0), .I (a0.2.1.getD 5 0), v1, v2, .string a0.t4.1, .string a0.t4.2] 37 (0, 0))]]) ?_ (fun hk64 => ?_)
      ·rintro ρ64 τ64 gs64 ⟨s64, h, hl64, hρ, rfl⟩
       refine st_es hρ ?_
       refine ZZ 5 [0] rfl rfl ?_
       obtain ⟨q65, hf66, h⟩ := h
       refine o_index rfl rfl rfl z_slT24 rfl rfl (hs4.up (((((hl9.trans hl13).trans hl17).trans hl21).trans hl63).trans hl64)) rfl hf66 (fun b67 of68 vs hc69 hrep => ?_)
       obtain rfl := hrep
       refine o_loadI (v := .I q65) rfl rfl rfl z_sc3 rfl (hc69 0 _ rfl) ?_
       obtain ⟨r70, hr71, h⟩ := h
       refine st_call (foot := []) rfl rfl rfl rfl rfl rfl (callV_fn z_en46 (ref07_Digits_ok hr71 τ64)) ?_
       rintro vτ72 τ72 gsτ72 hl73 ⟨rfl, rfl⟩
       obtain ⟨hf74, h⟩ := h
       refine o_sadd rfl rfl rfl rfl rfl hf74 ?_
       refine Z 8 rfl ?_
       exact hn63 _ _ _ _ h ⟨((hl63.trans hl64).trans hl73), rfl, rfl⟩
      refine Z 5 rfl ?_
      refine st_if rfl h (fun h => ?_) (fun h => ?_)
      ·refine Z 2 rfl ?_
       obtain ⟨hf75, h⟩ := h
       refine o_sadd rfl rfl rfl rfl (ev_str z_str32) hf75 ?_
       refine Z 2 rfl ?_
       exact hk64 _ _ _ ⟨(s63.1 ++ (bstr [44])), h, (Sto.Le.refl _), rfl, rfl⟩
      ·refine st_skip ?_
       exact hk64 _ _ _ ⟨s63.1, h, (Sto.Le.refl _), rfl, rfl⟩
     ·refine Z 2 rfl ?_
      obtain rfl := he63 _ h
      replace h := hA63
      exact hk22 _ _ _ ⟨s63.1, h, hl63, rfl, rfl⟩
    ·refine Z 5 rfl ?_
     refine st_if rfl h (fun h => ?_) (fun h => ?_)
     ·refine ZZ 3 [0] rfl rfl ?_
      obtain ⟨r77, hr78, h⟩ := h
      refine st_call (foot := []) rfl rfl rfl rfl rfl rfl (callV_fn z_en84 (ref20_hex_ok hr78 τ21)) ?_
      rintro vτ79 τ79 gsτ79 hl80 ⟨rfl, rfl⟩
      refine Z 3 rfl ?_
      exact hk22 _ _ _ ⟨r77, h, hl80, rfl, rfl⟩
     ·refine Z 5 rfl ?_
      refine st_if rfl h (fun h => ?_) (fun h => ?_)
      ·refine ZZ 3 [0] rfl rfl ?_
       obtain ⟨r81, hr82, h⟩ := h
       refine st_call (foot := []) rfl rfl rfl rfl rfl rfl (callV_fn z_en84 (ref20_hex_ok hr82 τ21)) ?_
       rintro vτ83 τ83 gsτ83 hl84 ⟨rfl, rfl⟩
       refine Z 3 rfl ?_
       exact hk22 _ _ _ ⟨r81, h, hl84, rfl, rfl⟩
      ·refine Z 3 rfl ?_
       obtain ⟨q85, hf86, h⟩ := h
       refine o_index rfl rfl rfl z_slT126 rfl rfl (hs19.up hl21) rfl hf86 (fun b87 of88 vs hc89 hrep => ?_)
       obtain ⟨_, _, rfl, rfl, ⟨_, _, rfl, rfl, ⟨_, _, rfl, rfl, ⟨_, _, rfl, rfl, ⟨_, _, rfl, rfl, ⟨_, _, rfl, rfl, rfl⟩⟩⟩⟩⟩⟩ := hrep
       refine o_fieldAddr rfl rfl rfl z_field129_2 rfl ?_
       refine o_loadI (v := .I q85.2.2.1) rfl rfl rfl z_sc3 rfl (hc89 2 _ rfl) ?_
       refine o_fieldAddr rfl rfl rfl z_field37_1 rfl ?_
       obtain ⟨hf90, hf91, h⟩ := h
       refine o_indexA rfl rfl rfl z_arr22 rfl rfl hf90 hf91 ?_
       refine o_loadV (j := 0) (q85.2.2.1.toNat) (f := (Value.int .i64)) (zz := 0) (l := 6) (xs := a0.2.1) [.I a0.1] [v1, v2, .string a0.t4.1, .string a0.t4.2] rfl rfl rfl z_sc3 rfl rfl (by simp only [List.length_cons, List.length_nil] <;> omega) (by omega) ?_
       obtain ⟨r92, hr93, h⟩ := h
       refine st_call (foot := []) rfl rfl rfl rfl rfl rfl (callV_fn z_en46 (ref07_Digits_ok hr93 τ21)) ?_
       rintro vτ94 τ94 gsτ94 hl95 ⟨rfl, rfl⟩
       refine Z 3 rfl ?_
       exact hk22 _ _ _ ⟨r92, h, hl95, rfl, rfl⟩
  ·refine st_exit rfl ?_
   obtain rfl := he21 _ h
   replace h := hA21
   refine st_ord [] _ rfl ?_
   exact hk20 _ _ _ ⟨s21.1, h, hl21, rfl, rfl⟩
theorem ref26_Hex_ok {a0 : List Int} {v1 : Value} {r : ByteArray} (h : ref26_Hex a0 r) (σ : Sto) (hs2 : Sl (kI .u8) σ v1 a0) :
    Does Tryz.prog 85 [v1] σ [] (fun v τ gs => gs = [] ∧ .string r = v) := by
 refine call_of Tryz.func85 Tryz.ntmps85 rfl rfl (fun cs fs => ?_)
 refine Z 2 rfl ?_
 refine o_assign rfl rfl rfl (ev_str z_str1) ?_
 refine Z 5 rfl ?_
 refine o_lenI rfl rfl rfl z_slT27 rfl hs2 ?_
 refine Z 2 rfl ?_
 refine st_if rfl h (fun h => ?_) (fun h => ?_)
 ·refine Z 2 rfl ?_
  refine o_assign rfl rfl rfl (ev_str z_str33) ?_
  refine st_end ?_
  obtain rfl := Eq.symm h
  exact st_ret (gs' := []) Tryz.func85 rfl (List.Sublist.refl _) (Sto.Le.refl _) ⟨rfl, rfl⟩
 ·refine Z 3 rfl ?_
  refine o_assign rfl rfl rfl (ev_str z_str1) ?_
  refine Z 2 rfl ?_
  refine st_cut (fun ρ τ3 gs => ∃ (s3 : ByteArray), ref26_Hex_j1 s3 r ∧ σ.Le τ3 ∧ ESub ρ [(2, .E0), (3, .string s3)] ∧ gs = []) ?_ (fun hk3 => ?_)
  ·rintro ρ3 τ3 gs3 ⟨s3, h, hl3, hρ, rfl⟩
   refine st_es hρ ?_
   refine Z 5 rfl ?_
   obtain rfl := Eq.symm h
   exact st_ret (gs' := []) Tryz.func85 rfl (List.Sublist.refl _) hl3 ⟨rfl, rfl⟩
  refine Z 4 rfl ?_
  obtain ⟨e4, hL4, hA4⟩ := h
  refine st_loop hL4 (fun (s4 : ByteArray × Int) ρ τ4 gs => σ.Le τ4 ∧ ESub ρ [(0, v1), (2, .E0), (3, .string s4.1), (4, .I s4.2)] ∧ gs = []) ⟨Sto.Le.refl _, rfl, rfl⟩ ?_
  rintro s4 o4 h he4 ρ4 τ4 gs4 ⟨hl4, hρ, rfl⟩ hn4
  refine st_es hρ ?_
  refine Z 5 rfl ?_
  refine o_lenI rfl rfl rfl z_slT27 rfl (hs2.up hl4) ?_
  refine Z 2 rfl ?_
  refine st_if rfl h (fun h => ?_) (fun h => ?_)
  ·refine Z 3 rfl ?_
   obtain ⟨q5, hf6, r10, hr11, q14, hf15, r19, hr20, hf30, h⟩ := h
   refine st_draw 16 (dl [.v (.string s4.1), .v (v1), .v (.I s4.2), .t fun τ v => ∃ (b7 : Nat) (of8 : Nat) (vsb7 : List Value), (.pointer (some ⟨b7, of8, none⟩) : Value) = v ∧ CelN τ ⟨b7, of8, none⟩ vsb7 ∧ (kI .u8).rep τ vsb7 q5, .v (.int .u8 q5), .v (.int .u8 (IntKind.u8.wrap (q5.tdiv 16))), .v (.int .u8 r10), .v (v1), .v (.I s4.2), .t fun τ v => ∃ (b16 : Nat) (of17 : Nat) (vsb16 : List Value), (.pointer (some ⟨b16, of17, none⟩) : Value) = v ∧ CelN τ ⟨b16, of17, none⟩ vsb16 ∧ (kI .u8).rep τ vsb16 q14, .v (.int .u8 q14), .v (.int .u8 (q14.tmod 16)), .v (.int .u8 r19), .t fun τ v => ∃ (v23 : Value), (v23 : Value) = v ∧ Sl (kI .u8) τ v23 [r10, r19], .v (.string (bstr [r10, r19])), .v (.string (s4.1 ++ (bstr [r10, r19])))]) (fun _ _ => []) z_mix rfl (dl_mono ⟨fun _ _ _ hl ⟨b7, of8, vsb7, hv, hc9, hrepb7⟩ => ⟨b7, of8, vsb7, hv, hc9.up hl, Kd.mono _ hl hrepb7⟩, ⟨fun _ _ _ hl ⟨b16, of17, vsb16, hv, hc18, hrepb16⟩ => ⟨b16, of17, vsb16, hv, hc18.up hl, Kd.mono _ hl hrepb16⟩, ⟨fun _ _ _ hl ⟨v23, hv, hs29⟩ => ⟨v23, hv, hs29.up hl⟩, trivial⟩⟩⟩) (allB_cons (allB_cons (allB_cons (allB_cons (allB_cons (allB_cons (allB_cons (allB_cons (allB_cons (allB_cons (allB_cons (allB_cons (allB_cons (allB_cons (allB_cons (allB_cons allB_nil (p1 dA)) (p1 dA)) (p1 dA)) ?_) ?_) (p1 dA)) ?_) (p1 dA)) (p1 dA)) ?_) ?_) (p1 dA)) ?_) ?_) ?_) ?_) ?_
   ·intro ρ' τ pool rs hl hd hout hk
    obtain ⟨_, e1, rfl⟩ := hd 1 rfl
    obtain ⟨_, e2, rfl⟩ := hd 2 rfl
    refine o_index rfl rfl rfl z_slT27 rfl e1 (hs2.up (hl4.trans hl)) e2 hf6 (fun b7 of8 vsb7 hc9 hrepb7 => ?_)
    exact st_addNil (hk _ _ (Sto.Le.refl _) ⟨b7, of8, _, rfl, hc9, hrepb7⟩)
   ·intro ρ' τ pool rs hl hd hout hk
    obtain ⟨_, e3, b7, of8, vsb7, rfl, hc9, hrepb7⟩ := hd 3 rfl
    have hrepb7 := hrepb7
    obtain rfl := hrepb7
    refine o_loadI (v := .int .u8 q5) rfl rfl rfl z_sc5 e3 (hc9 0 _ rfl) ?_
    exact st_addNil (hk _ _ (Sto.Le.refl _) rfl)
   ·intro ρ' τ pool rs hl hd hout hk
    obtain ⟨_, e5, rfl⟩ := hd 5 rfl
    refine st_call (foot := []) rfl rfl rfl rfl (evs_cons e5 rfl) rfl (callV_fn z_en102 (ref26_digit_ok hr11 τ)) ?_
    rintro vτ12 τ12 gsτ12 hl13 ⟨rfl, rfl⟩
    exact st_addNil (hk _ _ hl13 rfl)
   ·intro ρ' τ pool rs hl hd hout hk
    obtain ⟨_, e7, rfl⟩ := hd 7 rfl
    obtain ⟨_, e8, rfl⟩ := hd 8 rfl
    refine o_index rfl rfl rfl z_slT27 rfl e7 (hs2.up (hl4.trans hl)) e8 hf15 (fun b16 of17 vsb16 hc18 hrepb16 => ?_)
    exact st_addNil (hk _ _ (Sto.Le.refl _) ⟨b16, of17, _, rfl, hc18, hrepb16⟩)
   ·intro ρ' τ pool rs hl hd hout hk
    obtain ⟨_, e9, b16, of17, vsb16, rfl, hc18, hrepb16⟩ := hd 9 rfl
    have hrepb16 := hrepb16
    obtain rfl := hrepb16
    refine o_loadI (v := .int .u8 q14) rfl rfl rfl z_sc5 e9 (hc18 0 _ rfl) ?_
    exact st_addNil (hk _ _ (Sto.Le.refl _) rfl)
   ·intro ρ' τ pool rs hl hd hout hk
    obtain ⟨_, e11, rfl⟩ := hd 11 rfl
    refine st_call (foot := []) rfl rfl rfl rfl (evs_cons e11 rfl) rfl (callV_fn z_en102 (ref26_digit_ok hr20 τ)) ?_
    rintro vτ21 τ21 gsτ21 hl22 ⟨rfl, rfl⟩
    exact st_addNil (hk _ _ hl22 rfl)
   ·intro ρ' τ pool rs hl hd hout hk
    obtain ⟨_, e6, rfl⟩ := hd 6 rfl
    obtain ⟨_, e12, rfl⟩ := hd 12 rfl
    refine o_litE (eI .u8) [r10, r19] rfl rfl rfl z_slT27 z_zero5 ⟨rfl, ⟨_, e6, rfl⟩, ⟨rfl, ⟨_, e12, rfl⟩, trivial⟩⟩ rfl rfl rfl rfl (fun v23 g24 ho25 => ?_)
    refine st_freeze (fun τ26 hl27 hg28 => ?_)
    have hs29 := ho25.freeze hl27 hg28
    exact st_addNil (hk _ _ hl27 ⟨v23, rfl, hs29⟩)
   ·intro ρ' τ pool rs hl hd hout hk
    obtain ⟨_, e13, v23, rfl, hs29⟩ := hd 13 rfl
    refine o_bstr (xs := [r10, r19]) rfl rfl rfl Tryz.underlying27 Tryz.underlying5 Tryz.underlying9 e13 hs29 ?_
    exact st_addNil (hk _ _ (Sto.Le.refl _) rfl)
   ·intro ρ' τ pool rs hl hd hout hk
    obtain ⟨_, e0, rfl⟩ := hd 0 rfl
    obtain ⟨_, e14, rfl⟩ := hd 14 rfl
    refine o_sadd rfl rfl rfl e0 e14 hf30 ?_
    exact st_addNil (hk _ _ (Sto.Le.refl _) rfl)
   intro ρ' τ31 vals hl31 hv hout
   refine st_ord [] _ rfl ?_
   refine st_env (ρ' := [(29, .string (s4.1 ++ (bstr [r10, r19]))), (0, v1), (2, .E0), (4, .I s4.2)]) ⟨(lv1 hv 15 rfl rfl), (hout 0 rfl).trans rfl, (hout 2 rfl).trans rfl, (hout 4 rfl).trans rfl, trivial⟩ ?_
   refine Z 8 rfl ?_
   exact hn4 _ _ _ _ h ⟨(hl4.trans hl31), rfl, rfl⟩
  ·refine st_exit rfl ?_
   obtain rfl := he4 _ h
   replace h := hA4
   exact hk3 _ _ _ ⟨s4.1, h, hl4, rfl, rfl⟩
theorem ref26_Line_ok {a0 : TyI} {v1 : Value} {r : ByteArray} (h : ref26_Line a0 r) (σ : Sto) (hs2 : Sl (kI .u8) σ v1 a0.t4) :
    Does Tryz.prog 45 [.agg [.I a0.1, .I a0.2.1, .I a0.2.2.1, .I a0.2.2.2.1, v1].toArray] σ [] (fun v τ gs => gs = [] ∧ .string r = v) := by
 refine call_of Tryz.func45 Tryz.ntmps45 rfl rfl (fun cs fs => ?_)
 refine Z 2 rfl ?_
 refine o_box (cs := [.I a0.1, .I a0.2.1, .I a0.2.2.1, .I a0.2.2.2.1, v1]) rfl rfl rfl rfl rfl (fun b3 => ?_)
 refine o_assign rfl rfl rfl (ev_str z_str1) ?_
 refine Z 2 rfl ?_
 obtain ⟨r4, hr5, hf8, r9, hr10, hf13, hf14, r15, hr16, hf19, h⟩ := h
 refine st_draw 13 (dl [.v (.pointer (some ⟨b3, 1, none⟩)), .v (.I a0.2.1), .v (.string r4), .v (.string (r4 ++ (bstr [32]))), .v (.pointer (some ⟨b3, 2, none⟩)), .v (.I a0.2.2.1), .v (.string r9), .v (.string ((r4 ++ (bstr [32])) ++ r9)), .v (.string (((r4 ++ (bstr [32])) ++ r9) ++ (bstr [32]))), .v (.pointer (some ⟨b3, 3, none⟩)), .v (.I a0.2.2.2.1), .v (.string r15), .v (.string ((((r4 ++ (bstr [32])) ++ r9) ++ (bstr [32])) ++ r15))]) (fun _ _ => []) z_mix rfl (dl_mono trivial) (allB_cons (allB_cons (allB_cons (allB_cons (allB_cons (allB_cons (allB_cons (allB_cons (allB_cons (allB_cons (allB_cons (allB_cons (allB_cons allB_nil (p1 dA)) ?_) ?_) ?_) (p1 dA)) ?_) ?_) ?_) ?_) (p1 dA)) ?_) ?_) ?_) ?_
 ·intro ρ' τ pool rs hl hd hout hk
  obtain ⟨_, e0, rfl⟩ := hd 0 rfl
  refine o_load (j := 0) (v := .I a0.2.1) rfl rfl rfl z_sc3 e0 rfl rfl ?_
  exact st_addNil (hk _ _ (Sto.Le.refl _) rfl)
 ·intro ρ' τ pool rs hl hd hout hk
  obtain ⟨_, e1, rfl⟩ := hd 1 rfl
  refine st_call (foot := []) rfl rfl rfl rfl (evs_cons e1 rfl) rfl (callV_fn z_en46 (ref07_Digits_ok hr5 τ)) ?_
  rintro vτ6 τ6 gsτ6 hl7 ⟨rfl, rfl⟩
  exact st_addNil (hk _ _ hl7 rfl)
 ·intro ρ' τ pool rs hl hd hout hk
  obtain ⟨_, e2, rfl⟩ := hd 2 rfl
  refine o_sadd rfl rfl rfl e2 (ev_str z_str0) hf8 ?_
  exact st_addNil (hk _ _ (Sto.Le.refl _) rfl)
 ·intro ρ' τ pool rs hl hd hout hk
  obtain ⟨_, e4, rfl⟩ := hd 4 rfl
  refine o_load (j := 0) (v := .I a0.2.2.1) rfl rfl rfl z_sc3 e4 rfl rfl ?_
  exact st_addNil (hk _ _ (Sto.Le.refl _) rfl)
 ·intro ρ' τ pool rs hl hd hout hk
  obtain ⟨_, e5, rfl⟩ := hd 5 rfl
  refine st_call (foot := []) rfl rfl rfl rfl (evs_cons e5 rfl) rfl (callV_fn z_en46 (ref07_Digits_ok hr10 τ)) ?_
  rintro vτ11 τ11 gsτ11 hl12 ⟨rfl, rfl⟩
  exact st_addNil (hk _ _ hl12 rfl)
 ·intro ρ' τ pool rs hl hd hout hk
  obtain ⟨_, e3, rfl⟩ := hd 3 rfl
  obtain ⟨_, e6, rfl⟩ := hd 6 rfl
  refine o_sadd rfl rfl rfl e3 e6 hf13 ?_
  exact st_addNil (hk _ _ (Sto.Le.refl _) rfl)
 ·intro ρ' τ pool rs hl hd hout hk
  obtain ⟨_, e7, rfl⟩ := hd 7 rfl
  refine o_sadd rfl rfl rfl e7 (ev_str z_str0) hf14 ?_
  exact st_addNil (hk _ _ (Sto.Le.refl _) rfl)
 ·intro ρ' τ pool rs hl hd hout hk
  obtain ⟨_, e9, rfl⟩ := hd 9 rfl
  refine o_load (j := 0) (v := .I a0.2.2.2.1) rfl rfl rfl z_sc3 e9 rfl rfl ?_
  exact st_addNil (hk _ _ (Sto.Le.refl _) rfl)
 ·intro ρ' τ pool rs hl hd hout hk
  obtain ⟨_, e10, rfl⟩ := hd 10 rfl
  refine st_call (foot := []) rfl rfl rfl rfl (evs_cons e10 rfl) rfl (callV_fn z_en46 (ref07_Digits_ok hr16 τ)) ?_
  rintro vτ17 τ17 gsτ17 hl18 ⟨rfl, rfl⟩
  exact st_addNil (hk _ _ hl18 rfl)
 ·intro ρ' τ pool rs hl hd hout hk
  obtain ⟨_, e8, rfl⟩ := hd 8 rfl
  obtain ⟨_, e11, rfl⟩ := hd 11 rfl
  refine o_sadd rfl rfl rfl e8 e11 hf19 ?_
  exact st_addNil (hk _ _ (Sto.Le.refl _) rfl)
 intro ρ' τ20 vals hl20 hv hout
 refine st_ord [0] _ rfl ?_
 refine st_env (ρ' := [(16, .string ((((r4 ++ (bstr [32])) ++ r9) ++ (bstr [32])) ++ r15)), (1, .Pb b3), (2, .E0)]) ⟨(lv1 hv 12 rfl rfl), (hout 1 rfl).trans rfl, (hout 2 rfl).trans rfl, trivial⟩ ?_
 refine ZZ 14 [0] rfl rfl ?_
 refine st_if rfl h (fun h => ?_) (fun h => ?_)
 ·refine ZZ 4 [0] rfl rfl ?_
  obtain ⟨r21, hr22, h⟩ := h
  refine st_call (foot := []) rfl rfl rfl rfl rfl rfl (callV_fn z_en46 (ref07_Digits_ok hr22 τ20)) ?_
  rintro vτ23 τ23 gsτ23 hl24 ⟨rfl, rfl⟩
  obtain ⟨hf25, h⟩ := h
  refine o_sadd rfl rfl rfl (ev_str z_str45) rfl hf25 ?_
  refine Z 2 rfl ?_
  refine st_ord [] _ rfl ?_
  obtain rfl := Eq.symm h
  exact st_ret (gs' := []) Tryz.func45 rfl (List.Sublist.refl _) (hl20.trans hl24) ⟨rfl, rfl⟩
 ·refine Z 5 rfl ?_
  refine st_if rfl h (fun h => ?_) (fun h => ?_)
  ·refine Z 3 rfl ?_
   obtain ⟨hf26, h⟩ := h
   refine o_sadd rfl rfl rfl (ev_str z_str46) rfl hf26 ?_
   refine Z 2 rfl ?_
   refine st_ord [] _ rfl ?_
   obtain rfl := Eq.symm h
   exact st_ret (gs' := []) Tryz.func45 rfl (List.Sublist.refl _) hl20 ⟨rfl, rfl⟩
  ·refine Z 5 rfl ?_
   refine st_if rfl h (fun h => ?_) (fun h => ?_)
   ·refine Z 3 rfl ?_
    obtain ⟨hf27, h⟩ := h
    refine o_sadd rfl rfl rfl (ev_str z_str47) rfl hf27 ?_
    refine Z 2 rfl ?_
    refine st_ord [] _ rfl ?_
    obtain rfl := Eq.symm h
    exact st_ret (gs' := []) Tryz.func45 rfl (List.Sublist.refl _) hl20 ⟨rfl, rfl⟩
   ·refine Z 5 rfl ?_
    refine st_if rfl h (fun h => ?_) (fun h => ?_)
    ·refine ZZ 4 [0] rfl rfl ?_
     obtain ⟨r28, hr29, h⟩ := h
     refine st_call (foot := []) rfl rfl rfl rfl rfl rfl (callV_fn z_en85 (ref26_Hex_ok hr29 τ20 (hs2.up hl20))) ?_
     rintro vτ30 τ30 gsτ30 hl31 ⟨rfl, rfl⟩
     obtain ⟨hf32, h⟩ := h
     refine o_sadd rfl rfl rfl (ev_str z_str48) rfl hf32 ?_
     refine Z 2 rfl ?_
     refine st_ord [] _ rfl ?_
     obtain rfl := Eq.symm h
     exact st_ret (gs' := []) Tryz.func45 rfl (List.Sublist.refl _) (hl20.trans hl31) ⟨rfl, rfl⟩
    ·refine Z 4 rfl ?_
     refine o_assign rfl rfl rfl (ev_str z_str1) ?_
     refine st_end ?_
     refine st_ord [] _ rfl ?_
     obtain rfl := Eq.symm h
     exact st_ret (gs' := []) Tryz.func45 rfl (List.Sublist.refl _) hl20 ⟨rfl, rfl⟩
theorem ref27_Line_ok {a0 : TyZ} {v1 : Value} {v2 : Value} {v3 : Value} {v4 : Value} {r : ByteArray} (h : ref27_Line a0 r) (σ : Sto) (hs5 : Sl (kA .i64 2) σ v1 a0.2.1.2.2.1) (hs6 : Sl (kI .i64) σ v2 a0.2.1.2.2.2.1) (hs7 : Sl (kI .u8) σ v3 a0.2.2.1.t4) (hs8 : Sl (kI .i64) σ v4 a0.2.2.2) :
    Does Tryz.prog 16 [.agg [.I a0.1, .I a0.2.1.1, .I (a0.2.1.2.1.getD 0 0), .I (a0.2.1.2.1.getD 1 0), .I (a0.2.1.2.1.getD 2 0), .I (a0.2.1.2.1.getD 3 0), .I (a0.2.1.2.1.getD 4 0), .I (a0.2.1.2.1.getD 5 0), v1, v2, .string a0.2.1.t4.1, .string a0.2.1.t4.2, .I a0.2.2.1.1, .I a0.2.2.1.2.1, .I a0.2.2.1.2.2.1, .I a0.2.2.1.2.2.2.1, v3, v4].toArray] σ [] (fun v τ gs => gs = [] ∧ .string r = v) := by
 refine call_of Tryz.func16 Tryz.ntmps16 rfl rfl (fun cs fs => ?_)
 refine Z 2 rfl ?_
 refine o_box (cs := [.I a0.1, .I a0.2.1.1, .I (a0.2.1.2.1.getD 0 0), .I (a0.2.1.2.1.getD 1 0), .I (a0.2.1.2.1.getD 2 0), .I (a0.2.1.2.1.getD 3 0), .I (a0.2.1.2.1.getD 4 0), .I (a0.2.1.2.1.getD 5 0), v1, v2, .string a0.2.1.t4.1, .string a0.2.1.t4.2, .I a0.2.2.1.1, .I a0.2.2.1.2.1, .I a0.2.2.1.2.2.1, .I a0.2.2.1.2.2.2.1, v3, v4]) rfl rfl rfl rfl rfl (fun b9 => ?_)
 refine o_assign rfl rfl rfl (ev_str z_str1) ?_
 refine ZZ 5 [0] rfl rfl ?_
 obtain ⟨r10, hr11, h⟩ := h
 refine st_call (foot := []) rfl rfl rfl rfl rfl rfl (callV_fn z_en13 (ref27_Check_ok hr11 σ hs5 hs6 hs7 hs8)) ?_
 rintro vτ12 τ12 gsτ12 hl13 ⟨rfl, rfl⟩
 refine Z 2 rfl ?_
 refine st_if rfl h (fun h => ?_) (fun h => ?_)
 ·refine Z 2 rfl ?_
  refine o_assign rfl rfl rfl (ev_str z_str1) ?_
  refine st_end ?_
  refine st_ord [] _ rfl ?_
  obtain rfl := Eq.symm h
  exact st_ret (gs' := []) Tryz.func16 rfl (List.Sublist.refl _) hl13 ⟨rfl, rfl⟩
 ·refine ZZ 13 [0] rfl rfl ?_
  refine st_if rfl h (fun h => ?_) (fun h => ?_)
  ·refine ZZ 4 [0] rfl rfl ?_
   obtain ⟨r14, hr15, h⟩ := h
   refine st_call (foot := []) rfl rfl rfl rfl rfl rfl (callV_fn z_en44 (ref20_Line_ok hr15 τ12 (hs5.up hl13) (hs6.up hl13))) ?_
   rintro vτ16 τ16 gsτ16 hl17 ⟨rfl, rfl⟩
   obtain ⟨hf18, h⟩ := h
   refine o_sadd rfl rfl rfl (ev_str z_str43) rfl hf18 ?_
   refine Z 2 rfl ?_
   refine st_ord [] _ rfl ?_
   obtain rfl := Eq.symm h
   exact st_ret (gs' := []) Tryz.func16 rfl (List.Sublist.refl _) (hl13.trans hl17) ⟨rfl, rfl⟩
  ·refine Z 5 rfl ?_
   refine st_if rfl h (fun h => ?_) (fun h => ?_)
   ·refine ZZ 4 [0] rfl rfl ?_
    obtain ⟨r19, hr20, h⟩ := h
    refine st_call (foot := []) rfl rfl rfl rfl rfl rfl (callV_fn z_en45 (ref26_Line_ok hr20 τ12 (hs7.up hl13))) ?_
    rintro vτ21 τ21 gsτ21 hl22 ⟨rfl, rfl⟩
    refine Z 2 rfl ?_
    refine st_ord [] _ rfl ?_
    obtain rfl := Eq.symm h
    exact st_ret (gs' := []) Tryz.func16 rfl (List.Sublist.refl _) (hl13.trans hl22) ⟨rfl, rfl⟩
   ·refine Z 5 rfl ?_
    refine st_if rfl h (fun h => ?_) (fun h => ?_)
    ·refine Z 2 rfl ?_
     refine o_assign rfl rfl rfl (ev_str z_str3) ?_
     refine st_end ?_
     refine st_ord [] _ rfl ?_
     obtain rfl := Eq.symm h
     exact st_ret (gs' := []) Tryz.func16 rfl (List.Sublist.refl _) hl13 ⟨rfl, rfl⟩
    ·refine Z 5 rfl ?_
     refine st_if rfl h (fun h => ?_) (fun h => ?_)
     ·refine Z 2 rfl ?_
      refine o_assign rfl rfl rfl (ev_str z_str5) ?_
      refine st_end ?_
      refine st_ord [] _ rfl ?_
      obtain rfl := Eq.symm h
      exact st_ret (gs' := []) Tryz.func16 rfl (List.Sublist.refl _) hl13 ⟨rfl, rfl⟩
     ·refine Z 5 rfl ?_
      refine st_if rfl h (fun h => ?_) (fun h => ?_)
      ·refine Z 2 rfl ?_
       refine o_assign rfl rfl rfl (ev_str z_str6) ?_
       refine st_end ?_
       refine st_ord [] _ rfl ?_
       obtain rfl := Eq.symm h
       exact st_ret (gs' := []) Tryz.func16 rfl (List.Sublist.refl _) hl13 ⟨rfl, rfl⟩
      ·refine Z 4 rfl ?_
       refine o_assign rfl rfl rfl (ev_str z_str4) ?_
       refine Z 2 rfl ?_
       refine st_cut (fun ρ τ23 gs => ∃ (s23 : ByteArray), ref27_Line_j1 s23 r ∧ τ12.Le τ23 ∧ ESub ρ [(2, .E0), (3, .string s23)] ∧ gs = []) ?_ (fun hk23 => ?_)
       ·rintro ρ23 τ23 gs23 ⟨s23, h, hl23, hρ, rfl⟩
        refine st_es hρ ?_
        refine Z 5 rfl ?_
        obtain rfl := Eq.symm h
        exact st_ret (gs' := []) Tryz.func16 rfl (List.Sublist.refl _) (hl13.trans hl23) ⟨rfl, rfl⟩
       refine Z 4 rfl ?_
       obtain ⟨e24, hL24, hA24⟩ := h
       refine st_loop hL24 (fun (s24 : ByteArray × Int) ρ τ24 gs => τ12.Le τ24 ∧ ESub ρ [(1, .Pb b9), (2, .E0), (3, .string s24.1), (4, .I s24.2)] ∧ gs = [[(b9, .cells #[.I a0.1, .I a0.2.1.1, .I (a0.2.1.2.1.getD 0 0), .I (a0.2.1.2.1.getD 1 0), .I (a0.2.1.2.1.getD 2 0), .I (a0.2.1.2.1.getD 3 0), .I (a0.2.1.2.1.getD 4 0), .I (a0.2.1.2.1.getD 5 0), v1, v2, .string a0.2.1.t4.1, .string a0.2.1.t4.2, .I a0.2.2.1.1, .I a0.2.2.1.2.1, .I a0.2.2.1.2.2.1, .I a0.2.2.1.2.2.2.1, v3, v4] 40 (0, 0))]]) ⟨Sto.Le.refl _, rfl, rfl⟩ ?_
       rintro s24 o24 h he24 ρ24 τ24 gs24 ⟨hl24, hρ, rfl⟩ hn24
       refine st_es hρ ?_
       refine ZZ 6 [0] rfl rfl ?_
       refine o_lenI rfl rfl rfl z_slT24 rfl (hs8.up (hl13.trans hl24)) ?_
       refine Z 2 rfl ?_
       refine st_if rfl h (fun h => ?_) (fun h => ?_)
       ·refine Z 5 rfl ?_
        obtain ⟨hf25, h⟩ := h
        refine o_sadd rfl rfl rfl rfl (ev_str z_str0) hf25 ?_
        refine ZZ 3 [0] rfl rfl ?_
        obtain ⟨q26, hf27, h⟩ := h
        refine o_index rfl rfl rfl z_slT24 rfl rfl (hs8.up (hl13.trans hl24)) rfl hf27 (fun b28 of29 vs hc30 hrep => ?_)
        obtain rfl := hrep
        refine o_loadI (v := .I q26) rfl rfl rfl z_sc3 rfl (hc30 0 _ rfl) ?_
        obtain ⟨r31, hr32, h⟩ := h
        refine st_call (foot := []) rfl rfl rfl rfl rfl rfl (callV_fn z_en46 (ref07_Digits_ok hr32 τ24)) ?_
        rintro vτ33 τ33 gsτ33 hl34 ⟨rfl, rfl⟩
        obtain ⟨hf35, h⟩ := h
        refine o_sadd rfl rfl rfl rfl rfl hf35 ?_
        refine Z 8 rfl ?_
        exact hn24 _ _ _ _ h ⟨(hl24.trans hl34), rfl, rfl⟩
       ·refine st_exit rfl ?_
        obtain rfl := he24 _ h
        replace h := hA24
        refine st_ord [] _ rfl ?_
        exact hk23 _ _ _ ⟨s24.1, h, hl24, rfl, rfl⟩
theorem script_Same_ok {a0 : TyS} {a1 : TyS} {v1 : Value} {v2 : Value} {v3 : Value} {v4 : Value} {v9 : Value} {v10 : Value} {v11 : Value} {v12 : Value} {r : Bool} (h : script_Same a0 a1 r) (σ : Sto) (hs5 : Sl (kP (kI .i64) (kI .i64)) σ v1 a0.2.1.2.2.1) (hs6 : Sl (kI .i64) σ v2 a0.2.1.2.2.2.1) (hs7 : Sl (kI .u8) σ v3 a0.2.2.1.t4) (hs8 : Sl (kI .i64) σ v4 a0.2.2.2) (hs13 : Sl (kP (kI .i64) (kI .i64)) σ v9 a1.2.1.2.2.1) (hs14 : Sl (kI .i64) σ v10 a1.2.1.2.2.2.1) (hs15 : Sl (kI .u8) σ v11 a1.2.2.1.t4) (hs16 : Sl (kI .i64) σ v12 a1.2.2.2) (hT : Tab Tryz.prog σ) :
    Does Tryz.prog 17 [.agg [.I a0.1, .I a0.2.1.1, .I (a0.2.1.2.1.getD 0 0), .I (a0.2.1.2.1.getD 1 0), .I (a0.2.1.2.1.getD 2 0), .I (a0.2.1.2.1.getD 3 0), .I (a0.2.1.2.1.getD 4 0), .I (a0.2.1.2.1.getD 5 0), v1, v2, .string a0.2.1.t4.1, .string a0.2.1.t4.2, .I a0.2.2.1.1, .I a0.2.2.1.2.1, .I a0.2.2.1.2.2.1, .I a0.2.2.1.2.2.2.1, v3, v4].toArray, .agg [.I a1.1, .I a1.2.1.1, .I (a1.2.1.2.1.getD 0 0), .I (a1.2.1.2.1.getD 1 0), .I (a1.2.1.2.1.getD 2 0), .I (a1.2.1.2.1.getD 3 0), .I (a1.2.1.2.1.getD 4 0), .I (a1.2.1.2.1.getD 5 0), v9, v10, .string a1.2.1.t4.1, .string a1.2.1.t4.2, .I a1.2.2.1.1, .I a1.2.2.1.2.1, .I a1.2.2.1.2.2.1, .I a1.2.2.1.2.2.2.1, v11, v12].toArray] σ [] (fun v τ gs => gs = [] ∧ .bool r = v) := by
 refine call_of Tryz.func17 Tryz.ntmps17 rfl rfl (fun cs fs => ?_)
 refine Z 2 rfl ?_
 refine o_box (cs := [.I a0.1, .I a0.2.1.1, .I (a0.2.1.2.1.getD 0 0), .I (a0.2.1.2.1.getD 1 0), .I (a0.2.1.2.1.getD 2 0), .I (a0.2.1.2.1.getD 3 0), .I (a0.2.1.2.1.getD 4 0), .I (a0.2.1.2.1.getD 5 0), v1, v2, .string a0.2.1.t4.1, .string a0.2.1.t4.2, .I a0.2.2.1.1, .I a0.2.2.1.2.1, .I a0.2.2.1.2.2.1, .I a0.2.2.1.2.2.2.1, v3, v4]) rfl rfl rfl rfl rfl (fun b17 => ?_)
 refine o_box (cs := [.I a1.1, .I a1.2.1.1, .I (a1.2.1.2.1.getD 0 0), .I (a1.2.1.2.1.getD 1 0), .I (a1.2.1.2.1.getD 2 0), .I (a1.2.1.2.1.getD 3 0), .I (a1.2.1.2.1.getD 4 0), .I (a1.2.1.2.1.getD 5 0), v9, v10, .string a1.2.1.t4.1, .string a1.2.1.t4.2, .I a1.2.2.1.1, .I a1.2.2.1.2.1, .I a1.2.2.1.2.2.1, .I a1.2.2.1.2.2.2.1, v11, v12]) rfl rfl rfl rfl rfl (fun b18 => ?_)
 refine ZZ 11 [1, 0] rfl rfl ?_
 refine st_if rfl h (fun h => ?_) (fun h => ?_)
 ·refine Z 4 rfl ?_
  refine st_ord [] _ rfl ?_
  obtain rfl := Eq.symm h
  exact st_ret (gs' := []) Tryz.func17 rfl (List.Sublist.refl _) (Sto.Le.refl _) ⟨rfl, rfl⟩
 ·refine ZZ 13 [1] rfl rfl ?_
  refine st_if rfl h (fun h => ?_) (fun h => ?_)
  ·refine ZZ 6 [1, 0] rfl rfl ?_
   obtain ⟨r19, hr20, h⟩ := h
   refine st_call (foot := []) rfl rfl rfl rfl rfl rfl (callV_fn z_en47 (msg_Same_ok hr20 σ hs5 hs6 hs13 hs14)) ?_
   rintro vτ21 τ21 gsτ21 hl22 ⟨rfl, rfl⟩
   refine Z 2 rfl ?_
   refine st_ord [] _ rfl ?_
   obtain rfl := Eq.symm h
   exact st_ret (gs' := []) Tryz.func17 rfl (List.Sublist.refl _) hl22 ⟨rfl, rfl⟩
  ·refine Z 5 rfl ?_
   refine st_if rfl h (fun h => ?_) (fun h => ?_)
   ·refine st_seq ?_
    obtain ⟨r23, hr24, r27, hr28, h⟩ := h
    refine st_draw 7 (dl [.v (.pointer (some ⟨b17, 12, none⟩)), .v (.agg #[.I a0.2.2.1.1, .I a0.2.2.1.2.1, .I a0.2.2.1.2.2.1, .I a0.2.2.1.2.2.2.1, v3]), .v (.string r23), .v (.pointer (some ⟨b18, 12, none⟩)), .v (.agg #[.I a1.2.2.1.1, .I a1.2.2.1.2.1, .I a1.2.2.1.2.2.1, .I a1.2.2.1.2.2.2.1, v11]), .v (.string r27), .v (.bool (decide (r23 = r27)))]) (fun _ _ => []) z_mix rfl (dl_mono trivial) (allB_cons (allB_cons (allB_cons (allB_cons (allB_cons (allB_cons (allB_cons allB_nil (p1 dA)) ?_) ?_) (p1 dA)) ?_) ?_) (p1 dA)) ?_
    ·intro ρ' τ pool rs hl hd hout hk
     obtain ⟨_, e0, rfl⟩ := hd 0 rfl
     refine o_loadN (j := 1) (vs := [.I a0.2.2.1.1, .I a0.2.2.1.2.1, .I a0.2.2.1.2.2.1, .I a0.2.2.1.2.2.2.1, v3]) rfl rfl rfl z_agg29 e0 rfl rfl ?_
     exact st_addNil (hk _ _ (Sto.Le.refl _) rfl)
    ·intro ρ' τ pool rs hl hd hout hk
     obtain ⟨_, e1, rfl⟩ := hd 1 rfl
     refine st_call (foot := []) rfl rfl rfl rfl (evs_cons e1 rfl) rfl (callV_fn z_en33 (noise_Line_ok hr24 τ (hs7.up hl) (hT.up hl))) ?_
     rintro vτ25 τ25 gsτ25 hl26 ⟨rfl, rfl⟩
     exact st_addNil (hk _ _ hl26 rfl)
    ·intro ρ' τ pool rs hl hd hout hk
     obtain ⟨_, e3, rfl⟩ := hd 3 rfl
     refine o_loadN (j := 0) (vs := [.I a1.2.2.1.1, .I a1.2.2.1.2.1, .I a1.2.2.1.2.2.1, .I a1.2.2.1.2.2.2.1, v11]) rfl rfl rfl z_agg29 e3 rfl rfl ?_
     exact st_addNil (hk _ _ (Sto.Le.refl _) rfl)
    ·intro ρ' τ pool rs hl hd hout hk
     obtain ⟨_, e4, rfl⟩ := hd 4 rfl
     refine st_call (foot := []) rfl rfl rfl rfl (evs_cons e4 rfl) rfl (callV_fn z_en33 (noise_Line_ok hr28 τ (hs15.up hl) (hT.up hl))) ?_
     rintro vτ29 τ29 gsτ29 hl30 ⟨rfl, rfl⟩
     exact st_addNil (hk _ _ hl30 rfl)
    intro ρ' τ31 vals hl31 hv hout
    refine st_ord [0, 0] _ rfl ?_
    refine st_env (ρ' := [(27, .bool (decide (r23 = r27))), (4, .bool false)]) ⟨(lv1 hv 6 rfl rfl), (hout 4 rfl).trans rfl, trivial⟩ ?_
    refine Z 2 rfl ?_
    refine st_ord [] _ rfl ?_
    obtain rfl := Eq.symm h
    exact st_ret (gs' := []) Tryz.func17 rfl (List.Sublist.refl _) hl31 ⟨rfl, rfl⟩
   ·refine Z 5 rfl ?_
    refine st_if rfl h (fun h => ?_) (fun h => ?_)
    ·refine ZZ 6 [1, 0] rfl rfl ?_
     obtain ⟨r32, hr33, h⟩ := h
     refine st_call (foot := []) rfl rfl rfl rfl rfl rfl (callV_fn z_en48 (slices_Equal_int_int_ok hr33 σ hs8 hs16)) ?_
     rintro vτ34 τ34 gsτ34 hl35 ⟨rfl, rfl⟩
     refine Z 2 rfl ?_
     refine st_ord [] _ rfl ?_
     obtain rfl := Eq.symm h
     exact st_ret (gs' := []) Tryz.func17 rfl (List.Sublist.refl _) hl35 ⟨rfl, rfl⟩
    ·refine Z 6 rfl ?_
     refine st_ord [] _ rfl ?_
     obtain rfl := Eq.symm h
     exact st_ret (gs' := []) Tryz.func17 rfl (List.Sublist.refl _) (Sto.Le.refl _) ⟨rfl, rfl⟩
theorem law27_ScriptSteps_ok {a0 : TyS} {v1 : Value} {v2 : Value} {v3 : Value} {v4 : Value} {r : Bool} (h : law27_ScriptSteps a0 r) (σ : Sto) (hs5 : Sl (kP (kI .i64) (kI .i64)) σ v1 a0.2.1.2.2.1) (hs6 : Sl (kI .i64) σ v2 a0.2.1.2.2.2.1) (hs7 : Sl (kI .u8) σ v3 a0.2.2.1.t4) (hs8 : Sl (kI .i64) σ v4 a0.2.2.2) (hT : Tab Tryz.prog σ) (hE : Errs Tryz.prog σ) :
    Does Tryz.prog 4 [.agg [.I a0.1, .I a0.2.1.1, .I (a0.2.1.2.1.getD 0 0), .I (a0.2.1.2.1.getD 1 0), .I (a0.2.1.2.1.getD 2 0), .I (a0.2.1.2.1.getD 3 0), .I (a0.2.1.2.1.getD 4 0), .I (a0.2.1.2.1.getD 5 0), v1, v2, .string a0.2.1.t4.1, .string a0.2.1.t4.2, .I a0.2.2.1.1, .I a0.2.2.1.2.1, .I a0.2.2.1.2.2.1, .I a0.2.2.1.2.2.2.1, v3, v4].toArray] σ [] (fun v τ gs => gs = [] ∧ .bool r = v) := by
 refine call_of Tryz.func4 Tryz.ntmps4 rfl rfl (fun cs fs => ?_)
 refine Z 2 rfl ?_
 refine o_box (cs := [.I a0.1, .I a0.2.1.1, .I (a0.2.1.2.1.getD 0 0), .I (a0.2.1.2.1.getD 1 0), .I (a0.2.1.2.1.getD 2 0), .I (a0.2.1.2.1.getD 3 0), .I (a0.2.1.2.1.getD 4 0), .I (a0.2.1.2.1.getD 5 0), v1, v2, .string a0.2.1.t4.1, .string a0.2.1.t4.2, .I a0.2.2.1.1, .I a0.2.2.1.2.1, .I a0.2.2.1.2.2.1, .I a0.2.2.1.2.2.2.1, v3, v4]) rfl rfl rfl rfl rfl (fun b9 => ?_)
 refine ZZ 5 [0] rfl rfl ?_
 obtain ⟨r10, hr11, h⟩ := h
 refine st_call (foot := []) rfl rfl rfl rfl rfl rfl (callV_fn z_en12 (law27_Cut_ok hr11 σ hs5 hs6 hs7 hs8)) ?_
 rintro vτ12 τ12 gsτ12 hl13 ⟨v14, v15, v16, v17, rfl, rfl, hs18, hs19, hs20, hs21⟩
 refine o_store (j := 0) (vs := [.I r10.1, .I r10.2.1.1, .I (r10.2.1.2.1.getD 0 0), .I (r10.2.1.2.1.getD 1 0), .I (r10.2.1.2.1.getD 2 0), .I (r10.2.1.2.1.getD 3 0), .I (r10.2.1.2.1.getD 4 0), .I (r10.2.1.2.1.getD 5 0), v14, v15, .string r10.2.1.t4.1, .string r10.2.1.t4.2, .I r10.2.2.1.1, .I r10.2.2.1.2.1, .I r10.2.2.1.2.2.1, .I r10.2.2.1.2.2.2.1, v16, v17]) (cs' := [.I r10.1, .I r10.2.1.1, .I (r10.2.1.2.1.getD 0 0), .I (r10.2.1.2.1.getD 1 0), .I (r10.2.1.2.1.getD 2 0), .I (r10.2.1.2.1.getD 3 0), .I (r10.2.1.2.1.getD 4 0), .I (r10.2.1.2.1.getD 5 0), v14, v15, .string r10.2.1.t4.1, .string r10.2.1.t4.2, .I r10.2.2.1.1, .I r10.2.2.1.2.1, .I r10.2.2.1.2.2.1, .I r10.2.2.1.2.2.2.1, v16, v17]) rfl rfl rfl z_size31 rfl rfl rfl (ones_cons rfl (ones_cons rfl (ones_cons rfl (ones_cons rfl (ones_cons rfl (ones_cons rfl (ones_cons rfl (ones_cons rfl (ones_cons hs18.one' (ones_cons hs19.one' (ones_cons rfl (ones_cons rfl (ones_cons rfl (ones_cons rfl (ones_cons rfl (ones_cons rfl (ones_cons hs20.one' (ones_cons hs21.one' ones_nil)))))))))))))))))) rfl rfl rfl ?_
 refine st_gs [[(b9, .cells #[.I r10.1, .I r10.2.1.1, .I (r10.2.1.2.1.getD 0 0), .I (r10.2.1.2.1.getD 1 0), .I (r10.2.1.2.1.getD 2 0), .I (r10.2.1.2.1.getD 3 0), .I (r10.2.1.2.1.getD 4 0), .I (r10.2.1.2.1.getD 5 0), v14, v15, .string r10.2.1.t4.1, .string r10.2.1.t4.2, .I r10.2.2.1.1, .I r10.2.2.1.2.1, .I r10.2.2.1.2.2.1, .I r10.2.2.1.2.2.2.1, v16, v17] 31 (0, 0))]] rfl ?_
 refine ZZ 4 [0] rfl rfl ?_
 obtain ⟨r22, hr23, h⟩ := h
 refine st_call (foot := []) rfl rfl rfl rfl rfl rfl (callV_fn z_en11 (script_Line_ok hr23 τ12 hs18 hs19 hs20 hs21 (hT.up hl13))) ?_
 rintro vτ24 τ24 gsτ24 hl25 ⟨rfl, rfl⟩
 refine ZZ 5 [0] rfl rfl ?_
 obtain ⟨r26, hr27, h⟩ := h
 refine st_call (foot := []) rfl rfl rfl rfl rfl rfl (callV_fn z_en14 (law27_Of_ok hr27 τ24 (hs18.up hl25) (hs19.up hl25) (hs20.up hl25) (hs21.up hl25))) ?_
 rintro vτ28 τ28 gsτ28 hl29 ⟨v30, v31, v32, v33, rfl, rfl, hs34, hs35, hs36, hs37⟩
 obtain ⟨r38, hr39, h⟩ := h
 refine st_call (foot := []) rfl rfl rfl rfl rfl rfl (callV_fn z_en13 (ref27_Check_ok hr39 τ28 hs34 hs35 hs36 hs37)) ?_
 rintro vτ40 τ40 gsτ40 hl41 ⟨rfl, rfl⟩
 refine Z 4 rfl ?_
 refine st_cut (fun ρ τ42 gs => ∃ (s42 : Bool), law27_ScriptSteps_j1 r10 r22 r38 s42 r ∧ τ40.Le τ42 ∧ ESub ρ [(1, .Pb b9), (2, .bool false), (3, .string r22), (4, .I r38), (30, .bool s42)] ∧ gs = [[(b9, .cells #[.I r10.1, .I r10.2.1.1, .I (r10.2.1.2.1.getD 0 0), .I (r10.2.1.2.1.getD 1 0), .I (r10.2.1.2.1.getD 2 0), .I (r10.2.1.2.1.getD 3 0), .I (r10.2.1.2.1.getD 4 0), .I (r10.2.1.2.1.getD 5 0), v14, v15, .string r10.2.1.t4.1, .string r10.2.1.t4.2, .I r10.2.2.1.1, .I r10.2.2.1.2.1, .I r10.2.2.1.2.2.1, .I r10.2.2.1.2.2.2.1, v16, v17] 31 (0, 0))]]) ?_ (fun hk42 => ?_)
 ·rintro ρ42 τ42 gs42 ⟨s42, h, hl42, hρ, rfl⟩
  refine st_es hρ ?_
  refine st_if rfl h (fun h => ?_) (fun h => ?_)
  ·refine Z 4 rfl ?_
   refine st_ord [] _ rfl ?_
   obtain rfl := Eq.symm h
   exact st_ret (gs' := []) Tryz.func4 rfl (List.Sublist.refl _) ((((hl13.trans hl25).trans hl29).trans hl41).trans hl42) ⟨rfl, rfl⟩
  ·refine Z 4 rfl ?_
   obtain ⟨r43, hr44, h⟩ := h
   refine st_call (foot := []) rfl rfl rfl rfl rfl rfl (callV_fn z_en7 (script_Parse_ok hr44 τ42 (hT.up ((((hl13.trans hl25).trans hl29).trans hl41).trans hl42)) (hE.up ((((hl13.trans hl25).trans hl29).trans hl41).trans hl42)))) ?_
   rintro vτ45 τ45 gsτ45 hl46 ⟨v47, v48, v49, v50, rfl, rfl, hs51, hs52, hs53, hs54⟩
   refine Z 3 rfl ?_
   refine o_alloc rfl rfl rfl z_zero31 (fun b55 => ?_)
   refine o_store (j := 0) (vs := [.I r43.1.1, .I r43.1.2.1.1, .I (r43.1.2.1.2.1.getD 0 0), .I (r43.1.2.1.2.1.getD 1 0), .I (r43.1.2.1.2.1.getD 2 0), .I (r43.1.2.1.2.1.getD 3 0), .I (r43.1.2.1.2.1.getD 4 0), .I (r43.1.2.1.2.1.getD 5 0), v47, v48, .string r43.1.2.1.t4.1, .string r43.1.2.1.t4.2, .I r43.1.2.2.1.1, .I r43.1.2.2.1.2.1, .I r43.1.2.2.1.2.2.1, .I r43.1.2.2.1.2.2.2.1, v49, v50]) (cs' := [.I r43.1.1, .I r43.1.2.1.1, .I (r43.1.2.1.2.1.getD 0 0), .I (r43.1.2.1.2.1.getD 1 0), .I (r43.1.2.1.2.1.getD 2 0), .I (r43.1.2.1.2.1.getD 3 0), .I (r43.1.2.1.2.1.getD 4 0), .I (r43.1.2.1.2.1.getD 5 0), v47, v48, .string r43.1.2.1.t4.1, .string r43.1.2.1.t4.2, .I r43.1.2.2.1.1, .I r43.1.2.2.1.2.1, .I r43.1.2.2.1.2.2.1, .I r43.1.2.2.1.2.2.2.1, v49, v50]) rfl rfl rfl z_size31 rfl rfl rfl (ones_cons rfl (ones_cons rfl (ones_cons rfl (ones_cons rfl (ones_cons rfl (ones_cons rfl (ones_cons rfl (ones_cons rfl (ones_cons hs51.one' (ones_cons hs52.one' (ones_cons rfl (ones_cons rfl (ones_cons rfl (ones_cons rfl (ones_cons rfl (ones_cons rfl (ones_cons hs53.one' (ones_cons hs54.one' ones_nil)))))))))))))))))) rfl rfl rfl ?_
   refine st_gs [[(b55, .cells #[.I r43.1.1, .I r43.1.2.1.1, .I (r43.1.2.1.2.1.getD 0 0), .I (r43.1.2.1.2.1.getD 1 0), .I (r43.1.2.1.2.1.getD 2 0), .I (r43.1.2.1.2.1.getD 3 0), .I (r43.1.2.1.2.1.getD 4 0), .I (r43.1.2.1.2.1.getD 5 0), v47, v48, .string r43.1.2.1.t4.1, .string r43.1.2.1.t4.2, .I r43.1.2.2.1.1, .I r43.1.2.2.1.2.1, .I r43.1.2.2.1.2.2.1, .I r43.1.2.2.1.2.2.2.1, v49, v50] 31 (0, 0))], [(b9, .cells #[.I r10.1, .I r10.2.1.1, .I (r10.2.1.2.1.getD 0 0), .I (r10.2.1.2.1.getD 1 0), .I (r10.2.1.2.1.getD 2 0), .I (r10.2.1.2.1.getD 3 0), .I (r10.2.1.2.1.getD 4 0), .I (r10.2.1.2.1.getD 5 0), v14, v15, .string r10.2.1.t4.1, .string r10.2.1.t4.2, .I r10.2.2.1.1, .I r10.2.2.1.2.1, .I r10.2.2.1.2.2.1, .I r10.2.2.1.2.2.2.1, v16, v17] 31 (0, 0))]] rfl ?_
   refine Z 8 rfl ?_
   refine st_if rfl h (fun h => ?_) (fun h => ?_)
   ·refine st_seq ?_
    refine st_cut (fun ρ τ56 gs => ∃ (s56 : Bool), law27_ScriptSteps_j2 s56 r ∧ τ45.Le τ56 ∧ ESub ρ [(1, .Pb b9), (2, .bool s56), (3, .string r22), (5, .Pb b55), (6, .I r43.2)] ∧ gs = [[(b9, .cells #[.I r10.1, .I r10.2.1.1, .I (r10.2.1.2.1.getD 0 0), .I (r10.2.1.2.1.getD 1 0), .I (r10.2.1.2.1.getD 2 0), .I (r10.2.1.2.1.getD 3 0), .I (r10.2.1.2.1.getD 4 0), .I (r10.2.1.2.1.getD 5 0), v14, v15, .string r10.2.1.t4.1, .string r10.2.1.t4.2, .I r10.2.2.1.1, .I r10.2.2.1.2.1, .I r10.2.2.1.2.2.1, .I r10.2.2.1.2.2.2.1, v16, v17] 31 (0, 0))], [(b55, .cells #[.I r43.1.1, .I r43.1.2.1.1, .I (r43.1.2.1.2.1.getD 0 0), .I (r43.1.2.1.2.1.getD 1 0), .I (r43.1.2.1.2.1.getD 2 0), .I (r43.1.2.1.2.1.getD 3 0), .I (r43.1.2.1.2.1.getD 4 0), .I (r43.1.2.1.2.1.getD 5 0), v47, v48, .string r43.1.2.1.t4.1, .string r43.1.2.1.t4.2, .I r43.1.2.2.1.1, .I r43.1.2.2.1.2.1, .I r43.1.2.2.1.2.2.1, .I r43.1.2.2.1.2.2.2.1, v49, v50] 31 (0, 0))]]) ?_ (fun hk56 => ?_)
    ·rintro ρ56 τ56 gs56 ⟨s56, h, hl56, hρ, rfl⟩
     refine st_es hρ ?_
     refine st_ord [] _ rfl ?_
     obtain rfl := Eq.symm h
     exact st_ret (gs' := []) Tryz.func4 rfl (List.Sublist.refl _) ((((((hl13.trans hl25).trans hl29).trans hl41).trans hl42).trans hl46).trans hl56) ⟨rfl, rfl⟩
    refine st_region ?_
    obtain ⟨r57, hr58, h⟩ := h
    refine st_call (foot := []) rfl rfl rfl rfl rfl rfl (callV_fn z_en9 (law27_known_ok hr58 τ45 (hT.up (((((hl13.trans hl25).trans hl29).trans hl41).trans hl42).trans hl46)))) ?_
    rintro vτ59 τ59 gsτ59 hl60 ⟨rfl, rfl⟩
    refine o_mif rfl rfl rfl rfl h (fun h => ?_) (fun h => ?_)
    ·refine Z 5 rfl ?_
     refine st_ord [1, 0] _ rfl ?_
     exact hk56 _ _ _ ⟨(!(decide (r43.2 = 0))), h, hl60, rfl, rfl⟩
    ·refine Z 5 rfl ?_
     refine st_ord [1, 0] _ rfl ?_
     exact hk56 _ _ _ ⟨false, h, hl60, rfl, rfl⟩
   ·refine Z 2 rfl ?_
    refine st_cut (fun ρ τ61 gs => ∃ (s61 : Bool), law27_ScriptSteps_j3 s61 r ∧ τ45.Le τ61 ∧ ESub ρ [(2, .bool s61)] ∧ gs = []) ?_ (fun hk61 => ?_)
    ·rintro ρ61 τ61 gs61 ⟨s61, h, hl61, hρ, rfl⟩
     refine st_es hρ ?_
     obtain rfl := Eq.symm h
     exact st_ret (gs' := []) Tryz.func4 rfl (List.Sublist.refl _) ((((((hl13.trans hl25).trans hl29).trans hl41).trans hl42).trans hl46).trans hl61) ⟨rfl, rfl⟩
    refine st_region ?_
    obtain ⟨r62, hr63, h⟩ := h
    refine st_call (foot := []) rfl rfl rfl rfl rfl rfl (callV_fn z_en9 (law27_known_ok hr63 τ45 (hT.up (((((hl13.trans hl25).trans hl29).trans hl41).trans hl42).trans hl46)))) ?_
    rintro vτ64 τ64 gsτ64 hl65 ⟨rfl, rfl⟩
    refine o_mif rfl rfl rfl rfl h (fun h => ?_) (fun h => ?_)
    ·refine Z 3 rfl ?_
     refine o_mif rfl rfl rfl rfl h (fun h => ?_) (fun h => ?_)
     ·refine ZZ 2 [0, 1] rfl rfl ?_
      obtain ⟨r66, hr67, h⟩ := h
      refine st_call (foot := []) rfl rfl rfl rfl rfl rfl (callV_fn z_en17 (script_Same_ok hr67 τ64 (hs51.up hl65) (hs52.up hl65) (hs53.up hl65) (hs54.up hl65) (hs18.up (((((hl25.trans hl29).trans hl41).trans hl42).trans hl46).trans hl65)) (hs19.up (((((hl25.trans hl29).trans hl41).trans hl42).trans hl46).trans hl65)) (hs20.up (((((hl25.trans hl29).trans hl41).trans hl42).trans hl46).trans hl65)) (hs21.up (((((hl25.trans hl29).trans hl41).trans hl42).trans hl46).trans hl65)) (hT.up ((((((hl13.trans hl25).trans hl29).trans hl41).trans hl42).trans hl46).trans hl65)))) ?_
      rintro vτ68 τ68 gsτ68 hl69 ⟨rfl, rfl⟩
      refine o_pick rfl rfl rfl rfl rfl ?_
      refine o_mif rfl rfl rfl rfl h (fun h => ?_) (fun h => ?_)
      ·refine ZZ 1 [0] rfl rfl ?_
       obtain ⟨r70, hr71, h⟩ := h
       refine st_call (foot := []) rfl rfl rfl rfl rfl rfl (callV_fn z_en11 (script_Line_ok hr71 τ68 (hs51.up (hl65.trans hl69)) (hs52.up (hl65.trans hl69)) (hs53.up (hl65.trans hl69)) (hs54.up (hl65.trans hl69)) (hT.up (((((((hl13.trans hl25).trans hl29).trans hl41).trans hl42).trans hl46).trans hl65).trans hl69)))) ?_
       rintro vτ72 τ72 gsτ72 hl73 ⟨rfl, rfl⟩
       refine Z 5 rfl ?_
       refine st_ord [] _ rfl ?_
       exact hk61 _ _ _ ⟨(decide (r70 = r22)), h, ((hl65.trans hl69).trans hl73), rfl, rfl⟩
      ·refine Z 7 rfl ?_
       refine st_ord [] _ rfl ?_
       exact hk61 _ _ _ ⟨false, h, (hl65.trans hl69), rfl, rfl⟩
     ·refine Z 12 rfl ?_
      refine st_ord [] _ rfl ?_
      exact hk61 _ _ _ ⟨false, h, hl65, rfl, rfl⟩
    ·refine Z 16 rfl ?_
     refine st_ord [] _ rfl ?_
     exact hk61 _ _ _ ⟨false, h, hl65, rfl, rfl⟩
 refine ZZ 2 [0] rfl rfl ?_
 obtain ⟨r74, hr75, h⟩ := h
 refine st_call (foot := []) rfl rfl rfl rfl rfl rfl (callV_fn z_en15 (script_Check_ok hr75 τ40 (hs18.up ((hl25.trans hl29).trans hl41)) (hs19.up ((hl25.trans hl29).trans hl41)) (hs20.up ((hl25.trans hl29).trans hl41)) (hs21.up ((hl25.trans hl29).trans hl41)) (hT.up (((hl13.trans hl25).trans hl29).trans hl41)))) ?_
 rintro vτ76 τ76 gsτ76 hl77 ⟨rfl, rfl⟩
 refine Z 2 rfl ?_
 refine o_mif rfl rfl rfl rfl h (fun h => ?_) (fun h => ?_)
 ·refine Z 13 rfl ?_
  exact hk42 _ _ _ ⟨true, h, hl77, rfl, rfl⟩
 ·refine ZZ 2 [0] rfl rfl ?_
  obtain ⟨r78, hr79, h⟩ := h
  refine st_call (foot := []) rfl rfl rfl rfl rfl rfl (callV_fn z_en14 (law27_Of_ok hr79 τ76 (hs18.up (((hl25.trans hl29).trans hl41).trans hl77)) (hs19.up (((hl25.trans hl29).trans hl41).trans hl77)) (hs20.up (((hl25.trans hl29).trans hl41).trans hl77)) (hs21.up (((hl25.trans hl29).trans hl41).trans hl77)))) ?_
  rintro vτ80 τ80 gsτ80 hl81 ⟨v82, v83, v84, v85, rfl, rfl, hs86, hs87, hs88, hs89⟩
  obtain ⟨r90, hr91, h⟩ := h
  refine st_call (foot := []) rfl rfl rfl rfl rfl rfl (callV_fn z_en16 (ref27_Line_ok hr91 τ80 hs86 hs87 hs88 hs89)) ?_
  rintro vτ92 τ92 gsτ92 hl93 ⟨rfl, rfl⟩
  refine Z 2 rfl ?_
  refine o_mif rfl rfl rfl rfl h (fun h => ?_) (fun h => ?_)
  ·refine Z 6 rfl ?_
   exact hk42 _ _ _ ⟨true, h, ((hl77.trans hl81).trans hl93), rfl, rfl⟩
  ·refine ZZ 2 [0, 0] rfl rfl ?_
   obtain ⟨r94, hr95, h⟩ := h
   refine st_call (foot := []) rfl rfl rfl rfl rfl rfl (callV_fn z_en17 (script_Same_ok hr95 τ92 (hs18.up (((((hl25.trans hl29).trans hl41).trans hl77).trans hl81).trans hl93)) (hs19.up (((((hl25.trans hl29).trans hl41).trans hl77).trans hl81).trans hl93)) (hs20.up (((((hl25.trans hl29).trans hl41).trans hl77).trans hl81).trans hl93)) (hs21.up (((((hl25.trans hl29).trans hl41).trans hl77).trans hl81).trans hl93)) (hs18.up (((((hl25.trans hl29).trans hl41).trans hl77).trans hl81).trans hl93)) (hs19.up (((((hl25.trans hl29).trans hl41).trans hl77).trans hl81).trans hl93)) (hs20.up (((((hl25.trans hl29).trans hl41).trans hl77).trans hl81).trans hl93)) (hs21.up (((((hl25.trans hl29).trans hl41).trans hl77).trans hl81).trans hl93)) (hT.up ((((((hl13.trans hl25).trans hl29).trans hl41).trans hl77).trans hl81).trans hl93)))) ?_
   rintro vτ96 τ96 gsτ96 hl97 ⟨rfl, rfl⟩
   refine Z 3 rfl ?_
   exact hk42 _ _ _ ⟨(!r94), h, (((hl77.trans hl81).trans hl93).trans hl97), rfl, rfl⟩
end Go.Rel
