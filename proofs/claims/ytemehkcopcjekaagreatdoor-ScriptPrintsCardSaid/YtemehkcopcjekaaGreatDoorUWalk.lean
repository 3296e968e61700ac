import Derived.Test.YtemehkcopcjekaaGreatDoorURel
import Derived.Test.YtemehkcopcjekaaGreatDoorUFacts
import Derived.Test.YtemehkcopcjekaaGreatDoorUWalk1
/-! The walks. -/
set_option linter.unusedVariables false
set_option linter.unusedSimpArgs false
set_option maxRecDepth 4000
set_option maxHeartbeats 4000000
namespace Go.Rel
open Go Go.Eng Go.Proofs
theorem law27_Cut_ok {a0 : TyS} {v1 : Value} {v2 : Value} {v3 : Value} {v4 : Value} {r : (TyS)} (h : law27_Cut a0 r) (σ : Sto) (hs5 : Sl (kP (kI .i64) (kI .i64)) σ v1 a0.2.1.2.2.1) (hs6 : Sl (kI .i64) σ v2 a0.2.1.2.2.2.1) (hs7 : Sl (kI .u8) σ v3 a0.2.2.1.t4) (hs8 : Sl (kI .i64) σ v4 a0.2.2.2) :
    Does Tryz.prog 12 [.agg (lS a0 v1 v2 v3 v4).toArray] σ [] (fun v τ gs => ∃ (v40 : Value) (v41 : Value) (v42 : Value) (v43 : Value), gs = [] ∧ .agg (lS r v40 v41 v42 v43).toArray = v ∧ Sl (kP (kI .i64) (kI .i64)) τ v40 r.2.1.2.2.1 ∧ Sl (kI .i64) τ v41 r.2.1.2.2.2.1 ∧ Sl (kI .u8) τ v42 r.2.2.1.t4 ∧ Sl (kI .i64) τ v43 r.2.2.2) := by
 refine call_of Tryz.func12 Tryz.ntmps12 rfl rfl (fun cs fs => ?_)
 refine Z 2 rfl ?_
 refine o_box (cs := (lS a0 v1 v2 v3 v4)) rfl rfl rfl rfl rfl (fun b9 => ?_)
 refine o_alloc rfl rfl rfl z_zero31 (fun b10 => ?_)
 refine Z 2 rfl ?_
 obtain ⟨r11, hr12, r19, hr20, hf25, hf26, h⟩ := h
 refine st_d41 [[(b10, .cells lZ.toArray 31 (0, 0))]] [[(b9, .cells (lS a0 v1 v2 v3 v4).toArray 31 (0, 0))]] 17 2 [none, none, none, none, none, none, none, none, none, none, none, none, none, none, some (0, 0), none, some (0, 1)] [none, some (0, 0), none, none, some (0, 0), none, none, some (0, 0), none, some (0, 0), none, none, none, none, none, none, none] [[none, none, none]] [.v (.pointer (some ⟨b9, 1, none⟩)), .v (.agg (lM a0.2.1 v1 v2).toArray), .t fun τ v => ∃ (v15 : Value) (v16 : Value), (.agg (lM r11 v15 v16).toArray : Value) = v ∧ Sl (kP (kI .i64) (kI .i64)) τ v15 r11.2.2.1 ∧ Sl (kI .i64) τ v16 r11.2.2.2.1, .v (.pointer (some ⟨b9, 12, none⟩)), .v (.agg (lI a0.2.2.1 v3).toArray), .t fun τ v => ∃ (v23 : Value), (.agg (lI r19 v23).toArray : Value) = v ∧ Sl (kI .u8) τ v23 r19.t4, .v (.pointer (some ⟨b9, 17, none⟩)), .v (v4), .v (.pointer (some ⟨b9, 17, none⟩)), .v (v4), .v (.I (a0.2.2.2.length : Int)), .v (.I (min (a0.2.2.2.length : Int) 20)), .t fun τ v => ∃ (v27 : Value), (v27 : Value) = v ∧ Sl (kI .i64) τ v27 ((a0.2.2.2.drop (0 : Int).toNat).take (((min (a0.2.2.2.length : Int) 20) : Int) - 0).toNat), .v (.pointer (some ⟨b9, 1, none⟩)), .t fun _ _ => True, .v (.pointer (some ⟨b9, 12, none⟩)), .t fun _ _ => True] [[fun τ u F => F = [[(b9, .cells (lS a0 v1 v2 v3 v4).toArray 31 (0, 0))]], fun τ u F => ∃ (v29 : Value) (v31 : Value), F = [[(b9, .cells #[.I a0.1, .I r11.1, .I (r11.2.1.getD 0 0), .I (r11.2.1.getD 1 0), .I (r11.2.1.getD 2 0), .I (r11.2.1.getD 3 0), .I (r11.2.1.getD 4 0), .I (r11.2.1.getD 5 0), v29, v31, .string r11.t4.1, .string r11.t4.2, .I a0.2.2.1.1, .I a0.2.2.1.2.1, .I a0.2.2.1.2.2.1, .I a0.2.2.1.2.2.2.1, v3, v4] 31 (0, 0))]] ∧ Sl (kP (kI .i64) (kI .i64)) τ v29 r11.2.2.1 ∧ Sl (kI .i64) τ v31 r11.2.2.2.1, fun τ u F => ∃ (v33 : Value) (v35 : Value) (v37 : Value), F = [[(b9, .cells #[.I a0.1, .I r11.1, .I (r11.2.1.getD 0 0), .I (r11.2.1.getD 1 0), .I (r11.2.1.getD 2 0), .I (r11.2.1.getD 3 0), .I (r11.2.1.getD 4 0), .I (r11.2.1.getD 5 0), v33, v35, .string r11.t4.1, .string r11.t4.2, .I r19.1, .I r19.2.1, .I r19.2.2.1, .I r19.2.2.2.1, v37, v4] 31 (0, 0))]] ∧ Sl (kP (kI .i64) (kI .i64)) τ v33 r11.2.2.1 ∧ Sl (kI .i64) τ v35 r11.2.2.2.1 ∧ Sl (kI .u8) τ v37 r19.t4]] rfl z_mix rfl ⟨fun _ _ _ hl ⟨v15, v16, hv, hs17, hs18⟩ => ⟨v15, v16, hv, hs17.up hl, hs18.up hl⟩, ⟨fun _ _ _ hl ⟨v23, hv, hs24⟩ => ⟨v23, hv, hs24.up hl⟩, ⟨fun _ _ _ hl ⟨v27, hv, hs28⟩ => ⟨v27, hv, hs28.up hl⟩, ⟨fun _ _ _ _ _ => trivial, ⟨fun _ _ _ _ _ => trivial, trivial⟩⟩⟩⟩⟩ ⟨⟨fun _ _ _ _ hl h => h, ⟨fun _ _ _ _ hl h => (let ⟨v29, v31, hF, hs30, hs32⟩ := h; ⟨v29, v31, hF, hs30.up hl, hs32.up hl⟩), ⟨fun _ _ _ _ hl h => (let ⟨v33, v35, v37, hF, hs34, hs36, hs38⟩ := h; ⟨v33, v35, v37, hF, hs34.up hl, hs36.up hl, hs38.up hl⟩), trivial⟩⟩⟩, trivial⟩ rfl rfl ?_ (allB_cons (allB_cons (allB_cons (allB_cons (allB_cons (allB_cons (allB_cons (allB_cons (allB_cons (allB_cons (allB_cons (allB_cons (allB_cons (allB_cons (allB_cons (allB_cons (allB_cons allB_nil (p4 dA)) ?_) ?_) (p4 dA)) ?_) ?_) (p4 dA)) ?_) (p4 dA)) ?_) ?_) (p4 dA)) ?_) (p4 dA)) ?_) (p4 dA)) ?_) ?_
 ·exact rfl
 ·intro ρ' τ u Fv pool rs hl hI hu hd hout hw hk
  obtain ⟨_, e0, rfl⟩ := hd 0 rfl _ rfl
  have hI0 := hI
  obtain rfl := hI
  refine o_loadN (j := 1) (vs := (lM a0.2.1 v1 v2)) rfl rfl rfl z_agg26 e0 rfl rfl ?_
  exact hk _ _ (Sto.Le.refl _) rfl
 ·intro ρ' τ pool rs hl hd hout hw hk
  obtain ⟨_, e1, rfl⟩ := hd 1 rfl _ rfl
  refine st_call (foot := []) rfl rfl rfl rfl (evs_cons e1 rfl) rfl (callV_fn z_en36 (law17_Cut_ok hr12 τ (hs5.up hl) (hs6.up hl))) ?_
  rintro vτ13 τ13 gsτ13 hl14 ⟨v15, v16, rfl, rfl, hs17, hs18⟩
  exact hk _ _ hl14 ⟨v15, v16, rfl, hs17, hs18⟩
 ·intro ρ' τ u Fv pool rs hl hI hu hd hout hw hk
  obtain ⟨_, e3, rfl⟩ := hd 3 rfl _ rfl
  have hI0 := hI
  obtain rfl := hI
  refine o_loadN (j := 1) (vs := (lI a0.2.2.1 v3)) rfl rfl rfl z_agg29 e3 rfl rfl ?_
  exact hk _ _ (Sto.Le.refl _) rfl
 ·intro ρ' τ pool rs hl hd hout hw hk
  obtain ⟨_, e4, rfl⟩ := hd 4 rfl _ rfl
  refine st_call (foot := []) rfl rfl rfl rfl (evs_cons e4 rfl) rfl (callV_fn z_en37 (law26_Cut_ok hr20 τ (hs7.up hl))) ?_
  rintro vτ21 τ21 gsτ21 hl22 ⟨v23, rfl, rfl, hs24⟩
  exact hk _ _ hl22 ⟨v23, rfl, hs24⟩
 ·intro ρ' τ u Fv pool rs hl hI hu hd hout hw hk
  obtain ⟨_, e6, rfl⟩ := hd 6 rfl _ rfl
  have hI0 := hI
  obtain rfl := hI
  refine o_load (j := 1) (v := v4) rfl rfl rfl z_sc24 e6 rfl rfl ?_
  exact hk _ _ (Sto.Le.refl _) rfl
 ·intro ρ' τ u Fv pool rs hl hI hu hd hout hw hk
  obtain ⟨_, e8, rfl⟩ := hd 8 rfl _ rfl
  have hI0 := hI
  obtain rfl := hI
  refine o_load (j := 1) (v := v4) rfl rfl rfl z_sc24 e8 rfl rfl ?_
  exact hk _ _ (Sto.Le.refl _) rfl
 ·intro ρ' τ pool rs hl hd hout hw hk
  obtain ⟨_, e9, rfl⟩ := hd 9 rfl _ rfl
  refine o_lenI rfl rfl rfl z_slT24 e9 (hs8.up hl) ?_
  exact hk _ _ (Sto.Le.refl _) rfl
 ·intro ρ' τ pool rs hl hd hout hw hk
  obtain ⟨_, e7, rfl⟩ := hd 7 rfl _ rfl
  obtain ⟨_, e11, rfl⟩ := hd 11 rfl _ rfl
  refine o_slice (L := 0) (H := (min (a0.2.2.2.length : Int) 20)) rfl rfl rfl z_slT24 rfl e7 (hs8.up hl) rfl ⟨_, e11⟩ (by decide) hf25 hf26 trivial (by simp) (fun v27 hs28 => ?_)
  exact hk _ _ (Sto.Le.refl _) ⟨v27, rfl, hs28⟩
 ·intro ρ' τ u Fv pool rs hl hI hu hd hout hw hk
  obtain ⟨_, e2, v15, v16, rfl, hs17, hs18⟩ := hd 2 rfl _ rfl
  obtain ⟨_, e13, rfl⟩ := hd 13 rfl _ rfl
  have hI0 := hI
  obtain rfl := hI
  refine o_store (j := 1) (vs := (lM r11 v15 v16)) (cs' := [.I a0.1, .I r11.1, .I (r11.2.1.getD 0 0), .I (r11.2.1.getD 1 0), .I (r11.2.1.getD 2 0), .I (r11.2.1.getD 3 0), .I (r11.2.1.getD 4 0), .I (r11.2.1.getD 5 0), v15, v16, .string r11.t4.1, .string r11.t4.2, .I a0.2.2.1.1, .I a0.2.2.1.2.1, .I a0.2.2.1.2.2.1, .I a0.2.2.1.2.2.2.1, v3, v4]) rfl rfl rfl z_size26 e13 e2 rfl (ones_cons rfl (ones_cons rfl (ones_cons rfl (ones_cons rfl (ones_cons rfl (ones_cons rfl (ones_cons rfl (ones_cons hs17.one' (ones_cons hs18.one' (ones_cons rfl (ones_cons rfl ones_nil))))))))))) rfl rfl rfl ?_
  exact hk _ _ [[(b9, .cells #[.I a0.1, .I r11.1, .I (r11.2.1.getD 0 0), .I (r11.2.1.getD 1 0), .I (r11.2.1.getD 2 0), .I (r11.2.1.getD 3 0), .I (r11.2.1.getD 4 0), .I (r11.2.1.getD 5 0), v15, v16, .string r11.t4.1, .string r11.t4.2, .I a0.2.2.1.1, .I a0.2.2.1.2.1, .I a0.2.2.1.2.2.1, .I a0.2.2.1.2.2.2.1, v3, v4] 31 (0, 0))]] (Sto.Le.refl _) trivial (by exact ⟨v15, v16, rfl, hs17, hs18⟩)
 ·intro ρ' τ u Fv pool rs hl hI hu hd hout hw hk
  obtain ⟨_, e5, v23, rfl, hs24⟩ := hd 5 rfl _ rfl
  obtain ⟨_, e15, rfl⟩ := hd 15 rfl _ rfl
  have hI0 := hI
  obtain ⟨v29, v31, rfl, hs30, hs32⟩ := hI
  refine o_store (j := 1) (vs := (lI r19 v23)) (cs' := [.I a0.1, .I r11.1, .I (r11.2.1.getD 0 0), .I (r11.2.1.getD 1 0), .I (r11.2.1.getD 2 0), .I (r11.2.1.getD 3 0), .I (r11.2.1.getD 4 0), .I (r11.2.1.getD 5 0), v29, v31, .string r11.t4.1, .string r11.t4.2, .I r19.1, .I r19.2.1, .I r19.2.2.1, .I r19.2.2.2.1, v23, v4]) rfl rfl rfl z_size29 e15 e5 rfl (ones_cons rfl (ones_cons rfl (ones_cons rfl (ones_cons rfl (ones_cons hs24.one' ones_nil))))) rfl rfl rfl ?_
  exact hk _ _ [[(b9, .cells #[.I a0.1, .I r11.1, .I (r11.2.1.getD 0 0), .I (r11.2.1.getD 1 0), .I (r11.2.1.getD 2 0), .I (r11.2.1.getD 3 0), .I (r11.2.1.getD 4 0), .I (r11.2.1.getD 5 0), v29, v31, .string r11.t4.1, .string r11.t4.2, .I r19.1, .I r19.2.1, .I r19.2.2.1, .I r19.2.2.2.1, v23, v4] 31 (0, 0))]] (Sto.Le.refl _) trivial (by exact ⟨v29, v31, v23, rfl, hs30, hs32, hs24⟩)
 intro ρ' τ39 vals u Fv hl39 hI hu hv hout
 obtain ⟨l12, v27, t12, hs28⟩ := hv 12 (by decide)
 replace l12 := l12 _ rfl
 replace l12 : Eng.look ρ' 15 = some (v27) := l12.trans (congrArg some (Eq.symm t12))
 obtain ⟨v33, v35, v37, rfl, hs34, hs36, hs38⟩ := hI
 refine st_env (ρ' := [(15, v27), (1, .Pb b9), (2, .Pb b10)]) ⟨l12, (hout 1 rfl).trans rfl, (hout 2 rfl).trans rfl, trivial⟩ ?_
 refine o_fieldAddr rfl rfl rfl z_field31_3 rfl ?_
 refine o_store (j := 1) (vs := [v27]) (cs' := [.I a0.1, .I r11.1, .I (r11.2.1.getD 0 0), .I (r11.2.1.getD 1 0), .I (r11.2.1.getD 2 0), .I (r11.2.1.getD 3 0), .I (r11.2.1.getD 4 0), .I (r11.2.1.getD 5 0), v33, v35, .string r11.t4.1, .string r11.t4.2, .I r19.1, .I r19.2.1, .I r19.2.2.1, .I r19.2.2.2.1, v37, v27]) rfl rfl rfl z_size24 rfl rfl (oneL_sl hs28) (ones_cons hs28.one' ones_nil) rfl rfl rfl ?_
 refine ZZ 4 [1] rfl rfl ?_
 refine o_store (j := 0) (vs := [.I a0.1, .I r11.1, .I (r11.2.1.getD 0 0), .I (r11.2.1.getD 1 0), .I (r11.2.1.getD 2 0), .I (r11.2.1.getD 3 0), .I (r11.2.1.getD 4 0), .I (r11.2.1.getD 5 0), v33, v35, .string r11.t4.1, .string r11.t4.2, .I r19.1, .I r19.2.1, .I r19.2.2.1, .I r19.2.2.2.1, v37, v27]) (cs' := [.I a0.1, .I r11.1, .I (r11.2.1.getD 0 0), .I (r11.2.1.getD 1 0), .I (r11.2.1.getD 2 0), .I (r11.2.1.getD 3 0), .I (r11.2.1.getD 4 0), .I (r11.2.1.getD 5 0), v33, v35, .string r11.t4.1, .string r11.t4.2, .I r19.1, .I r19.2.1, .I r19.2.2.1, .I r19.2.2.2.1, v37, v27]) rfl rfl rfl z_size31 rfl rfl rfl (ones_cons rfl (ones_cons rfl (ones_cons rfl (ones_cons rfl (ones_cons rfl (ones_cons rfl (ones_cons rfl (ones_cons rfl (ones_cons hs34.one' (ones_cons hs36.one' (ones_cons rfl (ones_cons rfl (ones_cons rfl (ones_cons rfl (ones_cons rfl (ones_cons rfl (ones_cons hs38.one' (ones_cons hs28.one' ones_nil)))))))))))))))))) rfl rfl rfl ?_
 refine st_end ?_
 obtain rfl := Eq.symm h
 exact st_retC (gs' := []) [.agg #[.I a0.1, .I r11.1, .I (r11.2.1.getD 0 0), .I (r11.2.1.getD 1 0), .I (r11.2.1.getD 2 0), .I (r11.2.1.getD 3 0), .I (r11.2.1.getD 4 0), .I (r11.2.1.getD 5 0), v33, v35, .string r11.t4.1, .string r11.t4.2, .I r19.1, .I r19.2.1, .I r19.2.2.1, .I r19.2.2.2.1, v37, v27]] Tryz.func12 ⟨⟨_, _, _, _, rfl, mem_flat 0 rfl, fun w hw => cellOfN (vs := [.I a0.1, .I r11.1, .I (r11.2.1.getD 0 0), .I (r11.2.1.getD 1 0), .I (r11.2.1.getD 2 0), .I (r11.2.1.getD 3 0), .I (r11.2.1.getD 4 0), .I (r11.2.1.getD 5 0), v33, v35, .string r11.t4.1, .string r11.t4.2, .I r19.1, .I r19.2.1, .I r19.2.2.1, .I r19.2.2.2.1, v37, v27]) z_agg31 rfl w hw⟩, trivial⟩ (by simp) hl39 ⟨_, _, _, _, rfl, rfl, hs34, hs36, hs38, hs28⟩
theorem ref07_Digits_ok {a0 : Int} {r : ByteArray} (h : ref07_Digits a0 r) (σ : Sto)  :
    Does Tryz.prog 46 [.I a0] σ [] (fun v τ gs => gs = [] ∧ .string r = v) := by
 refine call_of Tryz.func46 Tryz.ntmps46 rfl rfl (fun cs fs => ?_)
 refine Z 2 rfl ?_
 refine o_assign rfl rfl rfl (ev_str z_str1) ?_
 refine Z 7 rfl ?_
 refine st_if rfl h (fun h => ?_) (fun h => ?_)
 ·refine Z 2 rfl ?_
  refine o_assign rfl rfl rfl (ev_str z_str1) ?_
  refine Z 2 rfl ?_
  refine st_cut (fun ρ τ1 gs => ∃ (s1 : Int × ByteArray), ref07_Digits_j1 s1 r ∧ σ.Le τ1 ∧ ESub ρ [(0, .I s1.1), (2, .E0), (3, .string s1.2)] ∧ gs = []) ?_ (fun hk1 => ?_)
  ·rintro ρ1 τ1 gs1 ⟨s1, h, hl1, hρ, rfl⟩
   refine st_es hρ ?_
   refine Z 3 rfl ?_
   obtain ⟨hf2, h⟩ := h
   refine o_sadd rfl rfl rfl (ev_str z_str33) rfl hf2 ?_
   refine Z 2 rfl ?_
   obtain rfl := Eq.symm h
   exact st_ret (gs' := []) Tryz.func46 rfl (List.Sublist.refl _) hl1 ⟨rfl, rfl⟩
  obtain ⟨e3, hL3, hA3⟩ := h
  refine st_loop hL3 (fun (s3 : Int × ByteArray) ρ τ3 gs => σ.Le τ3 ∧ ESub ρ [(0, .I s3.1), (2, .E0), (3, .string s3.2)] ∧ gs = []) ⟨Sto.Le.refl _, rfl, rfl⟩ ?_
  rintro s3 o3 h he3 ρ3 τ3 gs3 ⟨hl3, hρ, rfl⟩ hn3
  refine st_es hρ ?_
  refine Z 6 rfl ?_
  refine st_if rfl h (fun h => ?_) (fun h => ?_)
  ·refine Z 8 rfl ?_
   refine o_litE (eI .u8) [(IntKind.u8.wrap (IntKind.i64.wrap (48 - (s3.1.tmod 10))))] rfl rfl rfl z_slT27 z_zero5 ⟨rfl, ⟨_, rfl, rfl⟩, trivial⟩ rfl rfl rfl rfl (fun v4 g5 ho6 => ?_)
   refine st_freeze (fun τ7 hl8 hg9 => ?_)
   have hs10 := ho6.freeze hl8 hg9
   refine o_bstr (xs := [(IntKind.u8.wrap (IntKind.i64.wrap (48 - (s3.1.tmod 10))))]) rfl rfl rfl Tryz.underlying27 Tryz.underlying5 Tryz.underlying9 rfl hs10 ?_
   refine o_move rfl rfl rfl rfl ?_
   obtain ⟨hf11, h⟩ := h
   refine o_sadd rfl rfl rfl rfl rfl hf11 ?_
   refine Z 8 rfl ?_
   exact hn3 _ _ _ _ h ⟨(hl3.trans hl8), rfl, rfl⟩
  ·refine st_exit rfl ?_
   obtain rfl := he3 _ h
   replace h := hA3
   exact hk1 _ _ _ ⟨(s3.1, s3.2), h, hl3, rfl, rfl⟩
 ·refine Z 3 rfl ?_
  refine o_assign rfl rfl rfl (ev_str z_str1) ?_
  refine Z 2 rfl ?_
  refine st_cut (fun ρ τ13 gs => ∃ (s13 : Int × ByteArray), ref07_Digits_j3 s13 r ∧ σ.Le τ13 ∧ ESub ρ [(0, .I s13.1), (2, .E0), (4, .string s13.2)] ∧ gs = []) ?_ (fun hk13 => ?_)
  ·rintro ρ13 τ13 gs13 ⟨s13, h, hl13, hρ, rfl⟩
   refine st_es hρ ?_
   refine Z 5 rfl ?_
   refine o_litE (eI .u8) [(IntKind.u8.wrap (IntKind.i64.wrap (48 + s13.1)))] rfl rfl rfl z_slT27 z_zero5 ⟨rfl, ⟨_, rfl, rfl⟩, trivial⟩ rfl rfl rfl rfl (fun v14 g15 ho16 => ?_)
   refine st_freeze (fun τ17 hl18 hg19 => ?_)
   have hs20 := ho16.freeze hl18 hg19
   refine o_bstr (xs := [(IntKind.u8.wrap (IntKind.i64.wrap (48 + s13.1)))]) rfl rfl rfl Tryz.underlying27 Tryz.underlying5 Tryz.underlying9 rfl hs20 ?_
   refine o_move rfl rfl rfl rfl ?_
   obtain ⟨hf21, h⟩ := h
   refine o_sadd rfl rfl rfl rfl rfl hf21 ?_
   refine Z 2 rfl ?_
   obtain rfl := Eq.symm h
   exact st_ret (gs' := []) Tryz.func46 rfl (List.Sublist.refl _) (hl13.trans hl18) ⟨rfl, rfl⟩
  obtain ⟨e22, hL22, hA22⟩ := h
  refine st_loop hL22 (fun (s22 : Int × ByteArray) ρ τ22 gs => σ.Le τ22 ∧ ESub ρ [(0, .I s22.1), (2, .E0), (4, .string s22.2)] ∧ gs = []) ⟨Sto.Le.refl _, rfl, rfl⟩ ?_
  rintro s22 o22 h he22 ρ22 τ22 gs22 ⟨hl22, hρ, rfl⟩ hn22
  refine st_es hρ ?_
  refine Z 6 rfl ?_
  refine st_if rfl h (fun h => ?_) (fun h => ?_)
  ·refine Z 8 rfl ?_
   refine o_litE (eI .u8) [(IntKind.u8.wrap (IntKind.i64.wrap (48 + (s22.1.tmod 10))))] rfl rfl rfl z_slT27 z_zero5 ⟨rfl, ⟨_, rfl, rfl⟩, trivial⟩ rfl rfl rfl rfl (fun v23 g24 ho25 => ?_)
   refine st_freeze (fun τ26 hl27 hg28 => ?_)
   have hs29 := ho25.freeze hl27 hg28
   refine o_bstr (xs := [(IntKind.u8.wrap (IntKind.i64.wrap (48 + (s22.1.tmod 10))))]) rfl rfl rfl Tryz.underlying27 Tryz.underlying5 Tryz.underlying9 rfl hs29 ?_
   refine o_move rfl rfl rfl rfl ?_
   obtain ⟨hf30, h⟩ := h
   refine o_sadd rfl rfl rfl rfl rfl hf30 ?_
   refine Z 8 rfl ?_
   exact hn22 _ _ _ _ h ⟨(hl22.trans hl27), rfl, rfl⟩
  ·refine st_exit rfl ?_
   obtain rfl := he22 _ h
   replace h := hA22
   exact hk13 _ _ _ ⟨(s22.1, s22.2), h, hl22, rfl, rfl⟩
theorem ref20_hex_ok {a0 : ByteArray} {r : ByteArray} (h : ref20_hex a0 r) (σ : Sto)  :
    Does Tryz.prog 84 [.string a0] σ [] (fun v τ gs => gs = [] ∧ .string r = v) := by
 refine call_of Tryz.func84 Tryz.ntmps84 rfl rfl (fun cs fs => ?_)
 refine Z 2 rfl ?_
 refine o_assign rfl rfl rfl (ev_str z_str1) ?_
 refine Z 5 rfl ?_
 refine o_sbin (v := .bool (decide (a0 = (bstr [])))) rfl rfl rfl rfl (ev_str z_str1) rfl ?_
 refine st_end ?_
 refine st_if rfl h (fun h => ?_) (fun h => ?_)
 ·refine Z 2 rfl ?_
  refine o_assign rfl rfl rfl (ev_str z_str33) ?_
  refine st_end ?_
  obtain rfl := Eq.symm h
  exact st_ret (gs' := []) Tryz.func84 rfl (List.Sublist.refl _) (Sto.Le.refl _) ⟨rfl, rfl⟩
 ·refine Z 3 rfl ?_
  refine o_assign rfl rfl rfl (ev_str z_str1) ?_
  refine Z 2 rfl ?_
  refine st_cut (fun ρ τ1 gs => ∃ (s1 : ByteArray), ref20_hex_j1 s1 r ∧ σ.Le τ1 ∧ ESub ρ [(2, .E0), (3, .string s1)] ∧ gs = []) ?_ (fun hk1 => ?_)
  ·rintro ρ1 τ1 gs1 ⟨s1, h, hl1, hρ, rfl⟩
   refine st_es hρ ?_
   refine Z 5 rfl ?_
   obtain rfl := Eq.symm h
   exact st_ret (gs' := []) Tryz.func84 rfl (List.Sublist.refl _) hl1 ⟨rfl, rfl⟩
  refine Z 4 rfl ?_
  obtain ⟨e2, hL2, hA2⟩ := h
  refine st_loop hL2 (fun (s2 : ByteArray × Int) ρ τ2 gs => σ.Le τ2 ∧ ESub ρ [(0, .string a0), (2, .E0), (3, .string s2.1), (4, .I s2.2)] ∧ gs = []) ⟨Sto.Le.refl _, rfl, rfl⟩ ?_
  rintro s2 o2 h he2 ρ2 τ2 gs2 ⟨hl2, hρ, rfl⟩ hn2
  refine st_es hρ ?_
  refine Z 8 rfl ?_
  refine st_if rfl h (fun h => ?_) (fun h => ?_)
  ·refine Z 3 rfl ?_
   obtain ⟨q3, hf4, r5, hr6, q9, hf10, r11, hr12, hf22, h⟩ := h
   refine st_draw 14 (dl [.v (.string s2.1), .v (.string a0), .v (.I s2.2), .v (.int .u8 q3), .v (.int .u8 (IntKind.u8.wrap (q3.tdiv 16))), .v (.int .u8 r5), .v (.string a0), .v (.I s2.2), .v (.int .u8 q9), .v (.int .u8 (q9.tmod 16)), .v (.int .u8 r11), .t fun τ v => ∃ (v15 : Value), (v15 : Value) = v ∧ Sl (kI .u8) τ v15 [r5, r11], .v (.string (bstr [r5, r11])), .v (.string (s2.1 ++ (bstr [r5, r11])))]) (fun _ _ => []) z_mix rfl (dl_mono ⟨fun _ _ _ hl ⟨v15, hv, hs21⟩ => ⟨v15, hv, hs21.up hl⟩, trivial⟩) (allB_cons (allB_cons (allB_cons (allB_cons (allB_cons (allB_cons (allB_cons (allB_cons (allB_cons (allB_cons (allB_cons (allB_cons (allB_cons (allB_cons allB_nil (p1 dA)) (p1 dA)) (p1 dA)) ?_) (p1 dA)) ?_) (p1 dA)) (p1 dA)) ?_) (p1 dA)) ?_) ?_) ?_) ?_) ?_
   ·intro ρ' τ pool rs hl hd hout hk
    obtain ⟨_, e1, rfl⟩ := hd 1 rfl
    obtain ⟨_, e2, rfl⟩ := hd 2 rfl
    refine o_indexS rfl rfl rfl Tryz.underlying9 e1 e2 hf4 ?_
    exact st_addNil (hk _ _ (Sto.Le.refl _) rfl)
   ·intro ρ' τ pool rs hl hd hout hk
    obtain ⟨_, e4, rfl⟩ := hd 4 rfl
    refine st_call (foot := []) rfl rfl rfl rfl (evs_cons e4 rfl) rfl (callV_fn z_en111 (ref20_digit_ok hr6 τ)) ?_
    rintro vτ7 τ7 gsτ7 hl8 ⟨rfl, rfl⟩
    exact st_addNil (hk _ _ hl8 rfl)
   ·intro ρ' τ pool rs hl hd hout hk
    obtain ⟨_, e6, rfl⟩ := hd 6 rfl
    obtain ⟨_, e7, rfl⟩ := hd 7 rfl
    refine o_indexS rfl rfl rfl Tryz.underlying9 e6 e7 hf10 ?_
    exact st_addNil (hk _ _ (Sto.Le.refl _) rfl)
   ·intro ρ' τ pool rs hl hd hout hk
    obtain ⟨_, e9, rfl⟩ := hd 9 rfl
    refine st_call (foot := []) rfl rfl rfl rfl (evs_cons e9 rfl) rfl (callV_fn z_en111 (ref20_digit_ok hr12 τ)) ?_
    rintro vτ13 τ13 gsτ13 hl14 ⟨rfl, rfl⟩
    exact st_addNil (hk _ _ hl14 rfl)
   ·intro ρ' τ pool rs hl hd hout hk
    obtain ⟨_, e5, rfl⟩ := hd 5 rfl
    obtain ⟨_, e10, rfl⟩ := hd 10 rfl
    refine o_litE (eI .u8) [r5, r11] rfl rfl rfl z_slT27 z_zero5 ⟨rfl, ⟨_, e5, rfl⟩, ⟨rfl, ⟨_, e10, rfl⟩, trivial⟩⟩ rfl rfl rfl rfl (fun v15 g16 ho17 => ?_)
    refine st_freeze (fun τ18 hl19 hg20 => ?_)
    have hs21 := ho17.freeze hl19 hg20
    exact st_addNil (hk _ _ hl19 ⟨v15, rfl, hs21⟩)
   ·intro ρ' τ pool rs hl hd hout hk
    obtain ⟨_, e11, v15, rfl, hs21⟩ := hd 11 rfl
    refine o_bstr (xs := [r5, r11]) rfl rfl rfl Tryz.underlying27 Tryz.underlying5 Tryz.underlying9 e11 hs21 ?_
    exact st_addNil (hk _ _ (Sto.Le.refl _) rfl)
   ·intro ρ' τ pool rs hl hd hout hk
    obtain ⟨_, e0, rfl⟩ := hd 0 rfl
    obtain ⟨_, e12, rfl⟩ := hd 12 rfl
    refine o_sadd rfl rfl rfl e0 e12 hf22 ?_
    exact st_addNil (hk _ _ (Sto.Le.refl _) rfl)
   intro ρ' τ23 vals hl23 hv hout
   refine st_ord [] _ rfl ?_
   refine st_env (ρ' := [(26, .string (s2.1 ++ (bstr [r5, r11]))), (0, .string a0), (2, .E0), (4, .I s2.2)]) ⟨(lv1 hv 13 rfl rfl), (hout 0 rfl).trans rfl, (hout 2 rfl).trans rfl, (hout 4 rfl).trans rfl, trivial⟩ ?_
   refine Z 8 rfl ?_
   exact hn2 _ _ _ _ h ⟨(hl2.trans hl23), rfl, rfl⟩
  ·refine st_exit rfl ?_
   obtain rfl := he2 _ h
   replace h := hA2
   exact hk1 _ _ _ ⟨s2.1, h, hl2, rfl, rfl⟩
theorem ref20_Line_ok {a0 : TyR} {v1 : Value} {v2 : Value} {r : ByteArray} (h : ref20_Line a0 r) (σ : Sto) (hs3 : Sl (kA .i64 2) σ v1 a0.2.2.1) (hs4 : Sl (kI .i64) σ v2 a0.2.2.2.1) :
    Does Tryz.prog 44 [.agg (lM a0 v1 v2).toArray] σ [] (fun v τ gs => gs = [] ∧ .string r = v) := by
 refine call_of Tryz.func44 Tryz.ntmps44 rfl rfl (fun cs fs => ?_)
 refine Z 2 rfl ?_
 refine o_box (cs := (lM a0 v1 v2)) rfl rfl rfl rfl rfl (fun b5 => ?_)
 refine o_assign rfl rfl rfl (ev_str z_str1) ?_
 refine ZZ 5 [0] rfl rfl ?_
 obtain ⟨r6, hr7, h⟩ := h
 refine st_call (foot := []) rfl rfl rfl rfl rfl rfl (callV_fn z_en38 (ref17_Check_ok hr7 σ hs3 hs4)) ?_
 rintro vτ8 τ8 gsτ8 hl9 ⟨rfl, rfl⟩
 refine Z 2 rfl ?_
 refine st_if rfl h (fun h => ?_) (fun h => ?_)
 ·refine Z 2 rfl ?_
  refine o_assign rfl rfl rfl (ev_str z_str1) ?_
  refine st_end ?_
  refine st_ord [] _ rfl ?_
  obtain rfl := Eq.symm h
  exact st_ret (gs' := []) Tryz.func44 rfl (List.Sublist.refl _) hl9 ⟨rfl, rfl⟩
 ·refine ZZ 5 [0] rfl rfl ?_
  obtain ⟨r10, hr11, h⟩ := h
  refine st_call (foot := []) rfl rfl rfl rfl rfl rfl (callV_fn z_en66 (ref16_Word_ok hr11 τ8)) ?_
  rintro vτ12 τ12 gsτ12 hl13 ⟨rfl, rfl⟩
  refine ZZ 6 [0] rfl rfl ?_
  obtain ⟨r14, hr15, h⟩ := h
  refine st_call (foot := []) rfl rfl rfl rfl rfl rfl (callV_fn z_en67 (ref16_All_ok hr15 τ12)) ?_
  rintro vτ16 τ16 gsτ16 hl17 ⟨v18, rfl, rfl, hs19⟩
  refine Z 3 rfl ?_
  refine st_cut (fun ρ τ20 gs => ∃ (s20 : ByteArray), ref20_Line_j1 s20 r ∧ τ16.Le τ20 ∧ ESub ρ [(2, .E0), (3, .string s20)] ∧ gs = []) ?_ (fun hk20 => ?_)
  ·rintro ρ20 τ20 gs20 ⟨s20, h, hl20, hρ, rfl⟩
   refine st_es hρ ?_
   refine Z 5 rfl ?_
   obtain rfl := Eq.symm h
   exact st_ret (gs' := []) Tryz.func44 rfl (List.Sublist.refl _) (((hl9.trans hl13).trans hl17).trans hl20) ⟨rfl, rfl⟩
  refine Z 4 rfl ?_
  obtain ⟨e21, hL21, hA21⟩ := h
  refine st_loop hL21 (fun (s21 : ByteArray × Int) ρ τ21 gs => τ16.Le τ21 ∧ ESub ρ [(1, .Pb b5), (2, .E0), (3, .string s21.1), (4, v18), (5, .I s21.2)] ∧ gs = [[(b5, .cells (lM a0 v1 v2).toArray 37 (0, 0))]]) ⟨Sto.Le.refl _, rfl, rfl⟩ ?_
  rintro s21 o21 h he21 ρ21 τ21 gs21 ⟨hl21, hρ, rfl⟩ hn21
  refine st_es hρ ?_
  refine Z 5 rfl ?_
  refine o_lenI rfl rfl rfl z_slT126 rfl (hs19.up hl21) ?_
  refine Z 2 rfl ?_
  refine st_if rfl h (fun h => ?_) (fun h => ?_)
  ·refine Z 5 rfl ?_
   refine o_assign rfl rfl rfl (ev_str z_str1) ?_
   refine Z 2 rfl ?_
   refine st_cut (fun ρ τ22 gs => ∃ (s22 : ByteArray), ref20_Line_j3 r14 s21 s22 o21 ∧ τ21.Le τ22 ∧ ESub ρ [(1, .Pb b5), (2, .E0), (3, .string s21.1), (4, v18), (5, .I s21.2), (6, .string s22)] ∧ gs = [[(b5, .cells (lM a0 v1 v2).toArray 37 (0, 0))]]) ?_ (fun hk22 => ?_)
   ·rintro ρ22 τ22 gs22 ⟨s22, h, hl22, hρ, rfl⟩
    refine st_es hρ ?_
    refine Z 2 rfl ?_
    obtain ⟨hf23, h⟩ := h
    refine o_sadd rfl rfl rfl rfl (ev_str z_str0) hf23 ?_
    refine Z 2 rfl ?_
    obtain ⟨q24, hf25, h⟩ := h
    refine o_index rfl rfl rfl z_slT126 rfl rfl (hs19.up (hl21.trans hl22)) rfl hf25 (fun b26 of27 vs hc28 hrep => ?_)
    obtain ⟨_, _, rfl, rfl, ⟨_, _, rfl, rfl, ⟨_, _, rfl, rfl, ⟨_, _, rfl, rfl, ⟨_, _, rfl, rfl, ⟨_, _, rfl, rfl, rfl⟩⟩⟩⟩⟩⟩ := hrep
    refine o_fieldAddr rfl rfl rfl z_field129_0 rfl ?_
    refine o_loadI (v := .string q24.1) rfl rfl rfl z_sc9 rfl (hc28 0 _ rfl) ?_
    obtain ⟨hf29, h⟩ := h
    refine o_sadd rfl rfl rfl rfl rfl hf29 ?_
    obtain ⟨hf30, h⟩ := h
    refine o_sadd rfl rfl rfl rfl (ev_str z_str0) hf30 ?_
    refine o_move rfl rfl rfl rfl ?_
    obtain ⟨hf31, h⟩ := h
    refine o_sadd rfl rfl rfl rfl rfl hf31 ?_
    refine Z 8 rfl ?_
    exact hn21 _ _ _ _ h ⟨(hl21.trans hl22), rfl, rfl⟩
   refine Z 4 rfl ?_
   obtain ⟨q32, hf33, h⟩ := h
   refine o_index rfl rfl rfl z_slT126 rfl rfl (hs19.up hl21) rfl hf33 (fun b34 of35 vs hc36 hrep => ?_)
   obtain ⟨_, _, rfl, rfl, ⟨_, _, rfl, rfl, ⟨_, _, rfl, rfl, ⟨_, _, rfl, rfl, ⟨_, _, rfl, rfl, ⟨_, _, rfl, rfl, rfl⟩⟩⟩⟩⟩⟩ := hrep
   refine o_fieldAddr rfl rfl rfl z_field129_1 rfl ?_
   refine o_loadI (v := .I q32.2.1) rfl rfl rfl z_sc3 rfl (hc36 1 _ rfl) ?_
   refine Z 7 rfl ?_
   refine st_if rfl h (fun h => ?_) (fun h => ?_)
   ·refine Z 4 rfl ?_
    obtain ⟨e37, hL37, hA37⟩ := h
    refine st_loop hL37 (fun (s37 : ByteArray × Int) ρ τ37 gs => τ21.Le τ37 ∧ ESub ρ [(1, .Pb b5), (2, .E0), (3, .string s21.1), (4, v18), (5, .I s21.2), (6, .string s37.1), (7, .I s37.2)] ∧ gs = [[(b5, .cells (lM a0 v1 v2).toArray 37 (0, 0))]]) ⟨Sto.Le.refl _, rfl, rfl⟩ ?_
    rintro s37 o37 h he37 ρ37 τ37 gs37 ⟨hl37, hρ, rfl⟩ hn37
    refine st_es hρ ?_
    refine ZZ 6 [0] rfl rfl ?_
    refine o_lenI rfl rfl rfl z_slT35 rfl (hs3.up ((((hl9.trans hl13).trans hl17).trans hl21).trans hl37)) ?_
    refine Z 2 rfl ?_
    refine st_if rfl h (fun h => ?_) (fun h => ?_)
    ·refine Z 4 rfl ?_
     refine st_cut (fun ρ τ38 gs => ∃ (s38 : ByteArray), ref20_Line_j5 a0 s37 s38 o37 ∧ τ37.Le τ38 ∧ ESub ρ [(1, .Pb b5), (2, .E0), (3, .string s21.1), (4, v18), (5, .I s21.2), (6, .string s38), (7, .I s37.2)] ∧ gs = [[(b5, .cells (lM a0 v1 v2).toArray 37 (0, 0))]]) ?_ (fun hk38 => ?_)
     ·rintro ρ38 τ38 gs38 ⟨s38, h, hl38, hρ, rfl⟩
      refine st_es hρ ?_
      obtain ⟨q39, hf40, r44, hr45, hf48, hf49, q50, hf51, r55, hr56, hf59, h⟩ := h
      refine st_draw 18 (dl [.v (.string s38), .v (.pointer (some ⟨b5, 7, none⟩)), .v (v1), .v (.I s37.2), .t fun τ v => ∃ (b41 : Nat) (of42 : Nat) (vsb41 : List Value), (.pointer (some ⟨b41, of42, none⟩) : Value) = v ∧ CelN τ ⟨b41, of42, none⟩ vsb41 ∧ (kA .i64 2).rep τ vsb41 q39, .t fun τ v => ∃ (b41 : Nat) (of42 : Nat) (vsb41 : List Value), (.pointer (some ⟨b41, of42 + (0 : Int).toNat * 1, none⟩) : Value) = v ∧ CelN τ ⟨b41, of42, none⟩ vsb41 ∧ (kA .i64 2).rep τ vsb41 q39, .v (.I (q39.getD 0 0)), .v (.string r44), .v (.string (s38 ++ r44)), .v (.string ((s38 ++ r44) ++ (bstr [44]))), .v (.pointer (some ⟨b5, 7, none⟩)), .v (v1), .v (.I s37.2), .t fun τ v => ∃ (b52 : Nat) (of53 : Nat) (vsb52 : List Value), (.pointer (some ⟨b52, of53, none⟩) : Value) = v ∧ CelN τ ⟨b52, of53, none⟩ vsb52 ∧ (kA .i64 2).rep τ vsb52 q50, .t fun τ v => ∃ (b52 : Nat) (of53 : Nat) (vsb52 : List Value), (.pointer (some ⟨b52, of53 + (1 : Int).toNat * 1, none⟩) : Value) = v ∧ CelN τ ⟨b52, of53, none⟩ vsb52 ∧ (kA .i64 2).rep τ vsb52 q50, .v (.I (q50.getD 1 0)), .v (.string r55), .v (.string (((s38 ++ r44) ++ (bstr [44])) ++ r55))]) (fun _ _ => []) z_mix rfl (dl_mono ⟨fun _ _ _ hl ⟨b41, of42, vsb41, hv, hc43, hrepb41⟩ => ⟨b41, of42, vsb41, hv, hc43.up hl, Kd.mono _ hl hrepb41⟩, ⟨fun _ _ _ hl ⟨b41, of42, vsb41, hv, hc43, hrepb41⟩ => ⟨b41, of42, vsb41, hv, hc43.up hl, Kd.mono _ hl hrepb41⟩, ⟨fun _ _ _ hl ⟨b52, of53, vsb52, hv, hc54, hrepb52⟩ => ⟨b52, of53, vsb52, hv, hc54.up hl, Kd.mono _ hl hrepb52⟩, ⟨fun _ _ _ hl ⟨b52, of53, vsb52, hv, hc54, hrepb52⟩ => ⟨b52, of53, vsb52, hv, hc54.up hl, Kd.mono _ hl hrepb52⟩, trivial⟩⟩⟩⟩) (allB_cons (allB_cons (allB_cons (allB_cons (allB_cons (allB_cons (allB_cons (allB_cons (allB_cons (allB_cons (allB_cons (allB_cons (allB_cons (allB_cons (allB_cons (allB_cons (allB_cons (allB_cons allB_nil (p1 dA)) (p1 dA)) ?_) (p1 dA)) ?_) ?_) ?_) ?_) ?_) ?_) (p1 dA)) ?_) (p1 dA)) ?_) ?_) ?_) ?_) ?_) ?_
      ·intro ρ' τ pool rs hl hd hout hk
       obtain ⟨_, e1, rfl⟩ := hd 1 rfl
       refine o_load (j := 0) (v := v1) rfl rfl rfl z_sc35 e1 rfl rfl ?_
       exact st_addNil (hk _ _ (Sto.Le.refl _) rfl)
      ·intro ρ' τ pool rs hl hd hout hk
       obtain ⟨_, e2, rfl⟩ := hd 2 rfl
       obtain ⟨_, e3, rfl⟩ := hd 3 rfl
       refine o_index rfl rfl rfl z_slT35 rfl e2 (hs3.up ((((((hl9.trans hl13).trans hl17).trans hl21).trans hl37).trans hl38).trans hl)) e3 hf40 (fun b41 of42 vsb41 hc43 hrepb41 => ?_)
       exact st_addNil (hk _ _ (Sto.Le.refl _) ⟨b41, of42, _, rfl, hc43, hrepb41⟩)
      ·intro ρ' τ pool rs hl hd hout hk
       obtain ⟨_, e4, b41, of42, vsb41, rfl, hc43, hrepb41⟩ := hd 4 rfl
       have hrepb41 := hrepb41
       obtain rfl := hrepb41
       refine o_indexA rfl rfl rfl z_arr134 e4 rfl (by decide) (by decide) ?_
       exact st_addNil (hk _ _ (Sto.Le.refl _) ⟨b41, of42, _, rfl, hc43, hrepb41⟩)
      ·intro ρ' τ pool rs hl hd hout hk
       obtain ⟨_, e5, b41, of42, vsb41, rfl, hc43, hrepb41⟩ := hd 5 rfl
       have hrepb41 := hrepb41
       obtain rfl := hrepb41
       refine o_loadI (v := .I (q39.getD 0 0)) rfl rfl rfl z_sc3 e5 (cel_arr (f := (Value.int .i64)) (zz := 0) (n := 2) (xs := q39) (p := 0) (q := 0) hc43 rfl (by omega) (by omega)) ?_
       exact st_addNil (hk _ _ (Sto.Le.refl _) rfl)
      ·intro ρ' τ pool rs hl hd hout hk
       obtain ⟨_, e6, rfl⟩ := hd 6 rfl
       refine st_call (foot := []) rfl rfl rfl rfl (evs_cons e6 rfl) rfl (callV_fn z_en46 (ref07_Digits_ok hr45 τ)) ?_
       rintro vτ46 τ46 gsτ46 hl47 ⟨rfl, rfl⟩
       exact st_addNil (hk _ _ hl47 rfl)
      ·intro ρ' τ pool rs hl hd hout hk
       obtain ⟨_, e0, rfl⟩ := hd 0 rfl
       obtain ⟨_, e7, rfl⟩ := hd 7 rfl
       refine o_sadd rfl rfl rfl e0 e7 hf48 ?_
       exact st_addNil (hk _ _ (Sto.Le.refl _) rfl)
      ·intro ρ' τ pool rs hl hd hout hk
       obtain ⟨_, e8, rfl⟩ := hd 8 rfl
       refine o_sadd rfl rfl rfl e8 (ev_str z_str32) hf49 ?_
       exact st_addNil (hk _ _ (Sto.Le.refl _) rfl)
      ·intro ρ' τ pool rs hl hd hout hk
       obtain ⟨_, e10, rfl⟩ := hd 10 rfl
       refine o_load (j := 0) (v := v1) rfl rfl rfl z_sc35 e10 rfl rfl ?_
       exact st_addNil (hk _ _ (Sto.Le.refl _) rfl)
      ·intro ρ' τ pool rs hl hd hout hk
       obtain ⟨_, e11, rfl⟩ := hd 11 rfl
       obtain ⟨_, e12, rfl⟩ := hd 12 rfl
       refine o_index rfl rfl rfl z_slT35 rfl e11 (hs3.up ((((((hl9.trans hl13).trans hl17).trans hl21).trans hl37).trans hl38).trans hl)) e12 hf51 (fun b52 of53 vsb52 hc54 hrepb52 => ?_)
       exact st_addNil (hk _ _ (Sto.Le.refl _) ⟨b52, of53, _, rfl, hc54, hrepb52⟩)
      ·intro ρ' τ pool rs hl hd hout hk
       obtain ⟨_, e13, b52, of53, vsb52, rfl, hc54, hrepb52⟩ := hd 13 rfl
       have hrepb52 := hrepb52
       obtain rfl := hrepb52
       refine o_indexA rfl rfl rfl z_arr134 e13 rfl (by decide) (by decide) ?_
       exact st_addNil (hk _ _ (Sto.Le.refl _) ⟨b52, of53, _, rfl, hc54, hrepb52⟩)
      ·intro ρ' τ pool rs hl hd hout hk
       obtain ⟨_, e14, b52, of53, vsb52, rfl, hc54, hrepb52⟩ := hd 14 rfl
       have hrepb52 := hrepb52
       obtain rfl := hrepb52
       refine o_loadI (v := .I (q50.getD 1 0)) rfl rfl rfl z_sc3 e14 (cel_arr (f := (Value.int .i64)) (zz := 0) (n := 2) (xs := q50) (p := 0) (q := 1) hc54 rfl (by omega) (by omega)) ?_
       exact st_addNil (hk _ _ (Sto.Le.refl _) rfl)
      ·intro ρ' τ pool rs hl hd hout hk
       obtain ⟨_, e15, rfl⟩ := hd 15 rfl
       refine st_call (foot := []) rfl rfl rfl rfl (evs_cons e15 rfl) rfl (callV_fn z_en46 (ref07_Digits_ok hr56 τ)) ?_
       rintro vτ57 τ57 gsτ57 hl58 ⟨rfl, rfl⟩
       exact st_addNil (hk _ _ hl58 rfl)
      ·intro ρ' τ pool rs hl hd hout hk
       obtain ⟨_, e9, rfl⟩ := hd 9 rfl
       obtain ⟨_, e16, rfl⟩ := hd 16 rfl
       refine o_sadd rfl rfl rfl e9 e16 hf59 ?_
       exact st_addNil (hk _ _ (Sto.Le.refl _) rfl)
      intro ρ' τ60 vals hl60 hv hout
      refine st_ord [0] _ rfl ?_
      refine st_env (ρ' := [(68, .string (((s38 ++ r44) ++ (bstr [44])) ++ r55)), (1, .Pb b5), (2, .E0), (3, .string s21.1), (4, v18), (5, .I s21.2), (7, .I s37.2)]) ⟨(lv1 hv 17 rfl rfl), (hout 1 rfl).trans rfl, (hout 2 rfl).trans rfl, (hout 3 rfl).trans rfl, (hout 4 rfl).trans rfl, (hout 5 rfl).trans rfl, (hout 7 rfl).trans rfl, trivial⟩ ?_
      refine Z 8 rfl ?_
      exact hn37 _ _ _ _ h ⟨((hl37.trans hl38).trans hl60), rfl, rfl⟩
     refine Z 5 rfl ?_
     refine st_if rfl h (fun h => ?_) (fun h => ?_)
     ·refine Z 2 rfl ?_
      obtain ⟨hf61, h⟩ := h
      refine o_sadd rfl rfl rfl rfl (ev_str z_str31) hf61 ?_
      refine Z 2 rfl ?_
      exact hk38 _ _ _ ⟨(s37.1 ++ (bstr [59])), h, (Sto.Le.refl _), rfl, rfl⟩
     ·refine st_skip ?_
      exact hk38 _ _ _ ⟨s37.1, h, (Sto.Le.refl _), rfl, rfl⟩
    ·refine Z 2 rfl ?_
     obtain rfl := he37 _ h
     replace h := hA37
     exact hk22 _ _ _ ⟨s37.1, h, hl37, rfl, rfl⟩
   ·refine Z 5 rfl ?_
    refine st_if rfl h (fun h => ?_) (fun h => ?_)
    ·refine Z 4 rfl ?_
     obtain ⟨e63, hL63, hA63⟩ := h
     refine st_loop hL63 (fun (s63 : ByteArray × Int) ρ τ63 gs => τ21.Le τ63 ∧ ESub ρ [(1, .Pb b5), (2, .E0), (3, .string s21.1), (4, v18), (5, .I s21.2), (6, .string s63.1), (8, .I s63.2)] ∧ gs = [[(b5, .cells (lM a0 v1 v2).toArray 37 (0, 0))]]) ⟨Sto.Le.refl _, rfl, rfl⟩ ?_
     rintro s63 o63 h he63 ρ63 τ63 gs63 ⟨hl63, hρ, rfl⟩ hn63
     refine st_es hρ ?_
     refine ZZ 6 [0] rfl rfl ?_
     refine o_lenI rfl rfl rfl z_slT24 rfl (hs4.up ((((hl9.trans hl13).trans hl17).trans hl21).trans hl63)) ?_
     refine Z 2 rfl ?_
     refine st_if rfl h (fun h => ?_) (fun h => ?_)
     ·refine Z 4 rfl ?_
      refine st_cut (fun ρ τ64 gs => ∃ (s64 : ByteArray), ref20_Line_j7 a0 s63 s64 o63 ∧ τ63.Le τ64 ∧ ESub ρ [(1, .Pb b5), (2, .E0), (3, .string s21.1), (4, v18), (5, .I s21.2), (6, .string s64), (8, .I s63.2)] ∧ gs = [[(b5, .cells (lM a0 v1 v2).toArray 37 (0, 0))]]) ?_ (fun hk64 => ?_)
      ·rintro ρ64 τ64 gs64 ⟨s64, h, hl64, hρ, rfl⟩
       refine st_es hρ ?_
       refine ZZ 5 [0] rfl rfl ?_
       obtain ⟨q65, hf66, h⟩ := h
       refine o_index rfl rfl rfl z_slT24 rfl rfl (hs4.up (((((hl9.trans hl13).trans hl17).trans hl21).trans hl63).trans hl64)) rfl hf66 (fun b67 of68 vs hc69 hrep => ?_)
       obtain rfl := hrep
       refine o_loadI (v := .I q65) rfl rfl rfl z_sc3 rfl (hc69 0 _ rfl) ?_
       obtain ⟨r70, hr71, h⟩ := h
       refine st_call (foot := []) rfl rfl rfl rfl rfl rfl (callV_fn z_en46 (ref07_Digits_ok hr71 τ64)) ?_
       rintro vτ72 τ72 gsτ72 hl73 ⟨rfl, rfl⟩
       obtain ⟨hf74, h⟩ := h
       refine o_sadd rfl rfl rfl rfl rfl hf74 ?_
       refine Z 8 rfl ?_
       exact hn63 _ _ _ _ h ⟨((hl63.trans hl64).trans hl73), rfl, rfl⟩
      refine Z 5 rfl ?_
      refine st_if rfl h (fun h => ?_) (fun h => ?_)
      ·refine Z 2 rfl ?_
       obtain ⟨hf75, h⟩ := h
       refine o_sadd rfl rfl rfl rfl (ev_str z_str32) hf75 ?_
       refine Z 2 rfl ?_
       exact hk64 _ _ _ ⟨(s63.1 ++ (bstr [44])), h, (Sto.Le.refl _), rfl, rfl⟩
      ·refine st_skip ?_
       exact hk64 _ _ _ ⟨s63.1, h, (Sto.Le.refl _), rfl, rfl⟩
     ·refine Z 2 rfl ?_
      obtain rfl := he63 _ h
      replace h := hA63
      exact hk22 _ _ _ ⟨s63.1, h, hl63, rfl, rfl⟩
    ·refine Z 5 rfl ?_
     refine st_if rfl h (fun h => ?_) (fun h => ?_)
     ·refine ZZ 3 [0] rfl rfl ?_
      obtain ⟨r77, hr78, h⟩ := h
      refine st_call (foot := []) rfl rfl rfl rfl rfl rfl (callV_fn z_en84 (ref20_hex_ok hr78 τ21)) ?_
      rintro vτ79 τ79 gsτ79 hl80 ⟨rfl, rfl⟩
      refine Z 3 rfl ?_
      exact hk22 _ _ _ ⟨r77, h, hl80, rfl, rfl⟩
     ·refine Z 5 rfl ?_
      refine st_if rfl h (fun h => ?_) (fun h => ?_)
      ·refine ZZ 3 [0] rfl rfl ?_
       obtain ⟨r81, hr82, h⟩ := h
       refine st_call (foot := []) rfl rfl rfl rfl rfl rfl (callV_fn z_en84 (ref20_hex_ok hr82 τ21)) ?_
       rintro vτ83 τ83 gsτ83 hl84 ⟨rfl, rfl⟩
       refine Z 3 rfl ?_
       exact hk22 _ _ _ ⟨r81, h, hl84, rfl, rfl⟩
      ·refine Z 3 rfl ?_
       obtain ⟨q85, hf86, h⟩ := h
       refine o_index rfl rfl rfl z_slT126 rfl rfl (hs19.up hl21) rfl hf86 (fun b87 of88 vs hc89 hrep => ?_)
       obtain ⟨_, _, rfl, rfl, ⟨_, _, rfl, rfl, ⟨_, _, rfl, rfl, ⟨_, _, rfl, rfl, ⟨_, _, rfl, rfl, ⟨_, _, rfl, rfl, rfl⟩⟩⟩⟩⟩⟩ := hrep
       refine o_fieldAddr rfl rfl rfl z_field129_2 rfl ?_
       refine o_loadI (v := .I q85.2.2.1) rfl rfl rfl z_sc3 rfl (hc89 2 _ rfl) ?_
       refine o_fieldAddr rfl rfl rfl z_field37_1 rfl ?_
       obtain ⟨hf90, hf91, h⟩ := h
       refine o_indexA rfl rfl rfl z_arr22 rfl rfl hf90 hf91 ?_
       refine o_loadV (j := 0) (q85.2.2.1.toNat) (f := (Value.int .i64)) (zz := 0) (l := 6) (xs := a0.2.1) [.I a0.1] [v1, v2, .string a0.t4.1, .string a0.t4.2] rfl rfl rfl z_sc3 rfl rfl (by simp only [List.length_cons, List.length_nil] <;> omega) (by omega) ?_
       obtain ⟨r92, hr93, h⟩ := h
       refine st_call (foot := []) rfl rfl rfl rfl rfl rfl (callV_fn z_en46 (ref07_Digits_ok hr93 τ21)) ?_
       rintro vτ94 τ94 gsτ94 hl95 ⟨rfl, rfl⟩
       refine Z 3 rfl ?_
       exact hk22 _ _ _ ⟨r92, h, hl95, rfl, rfl⟩
  ·refine st_exit rfl ?_
   obtain rfl := he21 _ h
   replace h := hA21
   refine st_ord [] _ rfl ?_
   exact hk20 _ _ _ ⟨s21.1, h, hl21, rfl, rfl⟩
theorem ref26_Hex_ok {a0 : List Int} {v1 : Value} {r : ByteArray} (h : ref26_Hex a0 r) (σ : Sto) (hs2 : Sl (kI .u8) σ v1 a0) :
    Does Tryz.prog 85 [v1] σ [] (fun v τ gs => gs = [] ∧ .string r = v) := by
 refine call_of Tryz.func85 Tryz.ntmps85 rfl rfl (fun cs fs => ?_)
 refine Z 2 rfl ?_
 refine o_assign rfl rfl rfl (ev_str z_str1) ?_
 refine Z 5 rfl ?_
 refine o_lenI rfl rfl rfl z_slT27 rfl hs2 ?_
 refine Z 2 rfl ?_
 refine st_if rfl h (fun h => ?_) (fun h => ?_)
 ·refine Z 2 rfl ?_
  refine o_assign rfl rfl rfl (ev_str z_str33) ?_
  refine st_end ?_
  obtain rfl := Eq.symm h
  exact st_ret (gs' := []) Tryz.func85 rfl (List.Sublist.refl _) (Sto.Le.refl _) ⟨rfl, rfl⟩
 ·refine Z 3 rfl ?_
  refine o_assign rfl rfl rfl (ev_str z_str1) ?_
  refine Z 2 rfl ?_
  refine st_cut (fun ρ τ3 gs => ∃ (s3 : ByteArray), ref26_Hex_j1 s3 r ∧ σ.Le τ3 ∧ ESub ρ [(2, .E0), (3, .string s3)] ∧ gs = []) ?_ (fun hk3 => ?_)
  ·rintro ρ3 τ3 gs3 ⟨s3, h, hl3, hρ, rfl⟩
   refine st_es hρ ?_
   refine Z 5 rfl ?_
   obtain rfl := Eq.symm h
   exact st_ret (gs' := []) Tryz.func85 rfl (List.Sublist.refl _) hl3 ⟨rfl, rfl⟩
  refine Z 4 rfl ?_
  obtain ⟨e4, hL4, hA4⟩ := h
  refine st_loop hL4 (fun (s4 : ByteArray × Int) ρ τ4 gs => σ.Le τ4 ∧ ESub ρ [(0, v1), (2, .E0), (3, .string s4.1), (4, .I s4.2)] ∧ gs = []) ⟨Sto.Le.refl _, rfl, rfl⟩ ?_
  rintro s4 o4 h he4 ρ4 τ4 gs4 ⟨hl4, hρ, rfl⟩ hn4
  refine st_es hρ ?_
  refine Z 5 rfl ?_
  refine o_lenI rfl rfl rfl z_slT27 rfl (hs2.up hl4) ?_
  refine Z 2 rfl ?_
  refine st_if rfl h (fun h => ?_) (fun h => ?_)
  ·refine Z 3 rfl ?_
   obtain ⟨q5, hf6, r10, hr11, q14, hf15, r19, hr20, hf30, h⟩ := h
   refine st_draw 16 (dl [.v (.string s4.1), .v (v1), .v (.I s4.2), .t fun τ v => ∃ (b7 : Nat) (of8 : Nat) (vsb7 : List Value), (.pointer (some ⟨b7, of8, none⟩) : Value) = v ∧ CelN τ ⟨b7, of8, none⟩ vsb7 ∧ (kI .u8).rep τ vsb7 q5, .v (.int .u8 q5), .v (.int .u8 (IntKind.u8.wrap (q5.tdiv 16))), .v (.int .u8 r10), .v (v1), .v (.I s4.2), .t fun τ v => ∃ (b16 : Nat) (of17 : Nat) (vsb16 : List Value), (.pointer (some ⟨b16, of17, none⟩) : Value) = v ∧ CelN τ ⟨b16, of17, none⟩ vsb16 ∧ (kI .u8).rep τ vsb16 q14, .v (.int .u8 q14), .v (.int .u8 (q14.tmod 16)), .v (.int .u8 r19), .t fun τ v => ∃ (v23 : Value), (v23 : Value) = v ∧ Sl (kI .u8) τ v23 [r10, r19], .v (.string (bstr [r10, r19])), .v (.string (s4.1 ++ (bstr [r10, r19])))]) (fun _ _ => []) z_mix rfl (dl_mono ⟨fun _ _ _ hl ⟨b7, of8, vsb7, hv, hc9, hrepb7⟩ => ⟨b7, of8, vsb7, hv, hc9.up hl, Kd.mono _ hl hrepb7⟩, ⟨fun _ _ _ hl ⟨b16, of17, vsb16, hv, hc18, hrepb16⟩ => ⟨b16, of17, vsb16, hv, hc18.up hl, Kd.mono _ hl hrepb16⟩, ⟨fun _ _ _ hl ⟨v23, hv, hs29⟩ => ⟨v23, hv, hs29.up hl⟩, trivial⟩⟩⟩) (allB_cons (allB_cons (allB_cons (allB_cons (allB_cons (allB_cons (allB_cons (allB_cons (allB_cons (allB_cons (allB_cons (allB_cons (allB_cons (allB_cons (allB_cons (allB_cons allB_nil (p1 dA)) (p1 dA)) (p1 dA)) ?_) ?_) (p1 dA)) ?_) (p1 dA)) (p1 dA)) ?_) ?_) (p1 dA)) ?_) ?_) ?_) ?_) ?_
   ·intro ρ' τ pool rs hl hd hout hk
    obtain ⟨_, e1, rfl⟩ := hd 1 rfl
    obtain ⟨_, e2, rfl⟩ := hd 2 rfl
    refine o_index rfl rfl rfl z_slT27 rfl e1 (hs2.up (hl4.trans hl)) e2 hf6 (fun b7 of8 vsb7 hc9 hrepb7 => ?_)
    exact st_addNil (hk _ _ (Sto.Le.refl _) ⟨b7, of8, _, rfl, hc9, hrepb7⟩)
   ·intro ρ' τ pool rs hl hd hout hk
    obtain ⟨_, e3, b7, of8, vsb7, rfl, hc9, hrepb7⟩ := hd 3 rfl
    have hrepb7 := hrepb7
    obtain rfl := hrepb7
    refine o_loadI (v := .int .u8 q5) rfl rfl rfl z_sc5 e3 (hc9 0 _ rfl) ?_
    exact st_addNil (hk _ _ (Sto.Le.refl _) rfl)
   ·intro ρ' τ pool rs hl hd hout hk
    obtain ⟨_, e5, rfl⟩ := hd 5 rfl
    refine st_call (foot := []) rfl rfl rfl rfl (evs_cons e5 rfl) rfl (callV_fn z_en102 (ref26_digit_ok hr11 τ)) ?_
    rintro vτ12 τ12 gsτ12 hl13 ⟨rfl, rfl⟩
    exact st_addNil (hk _ _ hl13 rfl)
   ·intro ρ' τ pool rs hl hd hout hk
    obtain ⟨_, e7, rfl⟩ := hd 7 rfl
    obtain ⟨_, e8, rfl⟩ := hd 8 rfl
    refine o_index rfl rfl rfl z_slT27 rfl e7 (hs2.up (hl4.trans hl)) e8 hf15 (fun b16 of17 vsb16 hc18 hrepb16 => ?_)
    exact st_addNil (hk _ _ (Sto.Le.refl _) ⟨b16, of17, _, rfl, hc18, hrepb16⟩)
   ·intro ρ' τ pool rs hl hd hout hk
    obtain ⟨_, e9, b16, of17, vsb16, rfl, hc18, hrepb16⟩ := hd 9 rfl
    have hrepb16 := hrepb16
    obtain rfl := hrepb16
    refine o_loadI (v := .int .u8 q14) rfl rfl rfl z_sc5 e9 (hc18 0 _ rfl) ?_
    exact st_addNil (hk _ _ (Sto.Le.refl _) rfl)
   ·intro ρ' τ pool rs hl hd hout hk
    obtain ⟨_, e11, rfl⟩ := hd 11 rfl
    refine st_call (foot := []) rfl rfl rfl rfl (evs_cons e11 rfl) rfl (callV_fn z_en102 (ref26_digit_ok hr20 τ)) ?_
    rintro vτ21 τ21 gsτ21 hl22 ⟨rfl, rfl⟩
    exact st_addNil (hk _ _ hl22 rfl)
   ·intro ρ' τ pool rs hl hd hout hk
    obtain ⟨_, e6, rfl⟩ := hd 6 rfl
    obtain ⟨_, e12, rfl⟩ := hd 12 rfl
    refine o_litE (eI .u8) [r10, r19] rfl rfl rfl z_slT27 z_zero5 ⟨rfl, ⟨_, e6, rfl⟩, ⟨rfl, ⟨_, e12, rfl⟩, trivial⟩⟩ rfl rfl rfl rfl (fun v23 g24 ho25 => ?_)
    refine st_freeze (fun τ26 hl27 hg28 => ?_)
    have hs29 := ho25.freeze hl27 hg28
    exact st_addNil (hk _ _ hl27 ⟨v23, rfl, hs29⟩)
   ·intro ρ' τ pool rs hl hd hout hk
    obtain ⟨_, e13, v23, rfl, hs29⟩ := hd 13 rfl
    refine o_bstr (xs := [r10, r19]) rfl rfl rfl Tryz.underlying27 Tryz.underlying5 Tryz.underlying9 e13 hs29 ?_
    exact st_addNil (hk _ _ (Sto.Le.refl _) rfl)
   ·intro ρ' τ pool rs hl hd hout hk
    obtain ⟨_, e0, rfl⟩ := hd 0 rfl
    obtain ⟨_, e14, rfl⟩ := hd 14 rfl
    refine o_sadd rfl rfl rfl e0 e14 hf30 ?_
    exact st_addNil (hk _ _ (Sto.Le.refl _) rfl)
   intro ρ' τ31 vals hl31 hv hout
   refine st_ord [] _ rfl ?_
   refine st_env (ρ' := [(29, .string (s4.1 ++ (bstr [r10, r19]))), (0, v1), (2, .E0), (4, .I s4.2)]) ⟨(lv1 hv 15 rfl rfl), (hout 0 rfl).trans rfl, (hout 2 rfl).trans rfl, (hout 4 rfl).trans rfl, trivial⟩ ?_
   refine Z 8 rfl ?_
   exact hn4 _ _ _ _ h ⟨(hl4.trans hl31), rfl, rfl⟩
  ·refine st_exit rfl ?_
   obtain rfl := he4 _ h
   replace h := hA4
   exact hk3 _ _ _ ⟨s4.1, h, hl4, rfl, rfl⟩
theorem ref26_Line_ok {a0 : TyI} {v1 : Value} {r : ByteArray} (h : ref26_Line a0 r) (σ : Sto) (hs2 : Sl (kI .u8) σ v1 a0.t4) :
    Does Tryz.prog 45 [.agg (lI a0 v1).toArray] σ [] (fun v τ gs => gs = [] ∧ .string r = v) := by
 refine call_of Tryz.func45 Tryz.ntmps45 rfl rfl (fun cs fs => ?_)
 refine Z 2 rfl ?_
 refine o_box (cs := (lI a0 v1)) rfl rfl rfl rfl rfl (fun b3 => ?_)
 refine o_assign rfl rfl rfl (ev_str z_str1) ?_
 refine Z 2 rfl ?_
 obtain ⟨r4, hr5, hf8, r9, hr10, hf13, hf14, r15, hr16, hf19, h⟩ := h
 refine st_draw 13 (dl [.v (.pointer (some ⟨b3, 1, none⟩)), .v (.I a0.2.1), .v (.string r4), .v (.string (r4 ++ (bstr [32]))), .v (.pointer (some ⟨b3, 2, none⟩)), .v (.I a0.2.2.1), .v (.string r9), .v (.string ((r4 ++ (bstr [32])) ++ r9)), .v (.string (((r4 ++ (bstr [32])) ++ r9) ++ (bstr [32]))), .v (.pointer (some ⟨b3, 3, none⟩)), .v (.I a0.2.2.2.1), .v (.string r15), .v (.string ((((r4 ++ (bstr [32])) ++ r9) ++ (bstr [32])) ++ r15))]) (fun _ _ => []) z_mix rfl (dl_mono trivial) (allB_cons (allB_cons (allB_cons (allB_cons (allB_cons (allB_cons (allB_cons (allB_cons (allB_cons (allB_cons (allB_cons (allB_cons (allB_cons allB_nil (p1 dA)) ?_) ?_) ?_) (p1 dA)) ?_) ?_) ?_) ?_) (p1 dA)) ?_) ?_) ?_) ?_
 ·intro ρ' τ pool rs hl hd hout hk
  obtain ⟨_, e0, rfl⟩ := hd 0 rfl
  refine o_load (j := 0) (v := .I a0.2.1) rfl rfl rfl z_sc3 e0 rfl rfl ?_
  exact st_addNil (hk _ _ (Sto.Le.refl _) rfl)
 ·intro ρ' τ pool rs hl hd hout hk
  obtain ⟨_, e1, rfl⟩ := hd 1 rfl
  refine st_call (foot := []) rfl rfl rfl rfl (evs_cons e1 rfl) rfl (callV_fn z_en46 (ref07_Digits_ok hr5 τ)) ?_
  rintro vτ6 τ6 gsτ6 hl7 ⟨rfl, rfl⟩
  exact st_addNil (hk _ _ hl7 rfl)
 ·intro ρ' τ pool rs hl hd hout hk
  obtain ⟨_, e2, rfl⟩ := hd 2 rfl
  refine o_sadd rfl rfl rfl e2 (ev_str z_str0) hf8 ?_
  exact st_addNil (hk _ _ (Sto.Le.refl _) rfl)
 ·intro ρ' τ pool rs hl hd hout hk
  obtain ⟨_, e4, rfl⟩ := hd 4 rfl
  refine o_load (j := 0) (v := .I a0.2.2.1) rfl rfl rfl z_sc3 e4 rfl rfl ?_
  exact st_addNil (hk _ _ (Sto.Le.refl _) rfl)
 ·intro ρ' τ pool rs hl hd hout hk
  obtain ⟨_, e5, rfl⟩ := hd 5 rfl
  refine st_call (foot := []) rfl rfl rfl rfl (evs_cons e5 rfl) rfl (callV_fn z_en46 (ref07_Digits_ok hr10 τ)) ?_
  rintro vτ11 τ11 gsτ11 hl12 ⟨rfl, rfl⟩
  exact st_addNil (hk _ _ hl12 rfl)
 ·intro ρ' τ pool rs hl hd hout hk
  obtain ⟨_, e3, rfl⟩ := hd 3 rfl
  obtain ⟨_, e6, rfl⟩ := hd 6 rfl
  refine o_sadd rfl rfl rfl e3 e6 hf13 ?_
  exact st_addNil (hk _ _ (Sto.Le.refl _) rfl)
 ·intro ρ' τ pool rs hl hd hout hk
  obtain ⟨_, e7, rfl⟩ := hd 7 rfl
  refine o_sadd rfl rfl rfl e7 (ev_str z_str0) hf14 ?_
  exact st_addNil (hk _ _ (Sto.Le.refl _) rfl)
 ·intro ρ' τ pool rs hl hd hout hk
  obtain ⟨_, e9, rfl⟩ := hd 9 rfl
  refine o_load (j := 0) (v := .I a0.2.2.2.1) rfl rfl rfl z_sc3 e9 rfl rfl ?_
  exact st_addNil (hk _ _ (Sto.Le.refl _) rfl)
 ·intro ρ' τ pool rs hl hd hout hk
  obtain ⟨_, e10, rfl⟩ := hd 10 rfl
  refine st_call (foot := []) rfl rfl rfl rfl (evs_cons e10 rfl) rfl (callV_fn z_en46 (ref07_Digits_ok hr16 τ)) ?_
  rintro vτ17 τ17 gsτ17 hl18 ⟨rfl, rfl⟩
  exact st_addNil (hk _ _ hl18 rfl)
 ·intro ρ' τ pool rs hl hd hout hk
  obtain ⟨_, e8, rfl⟩ := hd 8 rfl
  obtain ⟨_, e11, rfl⟩ := hd 11 rfl
  refine o_sadd rfl rfl rfl e8 e11 hf19 ?_
  exact st_addNil (hk _ _ (Sto.Le.refl _) rfl)
 intro ρ' τ20 vals hl20 hv hout
 refine st_ord [0] _ rfl ?_
 refine st_env (ρ' := [(16, .string ((((r4 ++ (bstr [32])) ++ r9) ++ (bstr [32])) ++ r15)), (1, .Pb b3), (2, .E0)]) ⟨(lv1 hv 12 rfl rfl), (hout 1 rfl).trans rfl, (hout 2 rfl).trans rfl, trivial⟩ ?_
 refine ZZ 14 [0] rfl rfl ?_
 refine st_if rfl h (fun h => ?_) (fun h => ?_)
 ·refine ZZ 4 [0] rfl rfl ?_
  obtain ⟨r21, hr22, h⟩ := h
  refine st_call (foot := []) rfl rfl rfl rfl rfl rfl (callV_fn z_en46 (ref07_Digits_ok hr22 τ20)) ?_
  rintro vτ23 τ23 gsτ23 hl24 ⟨rfl, rfl⟩
  obtain ⟨hf25, h⟩ := h
  refine o_sadd rfl rfl rfl (ev_str z_str45) rfl hf25 ?_
  refine Z 2 rfl ?_
  refine st_ord [] _ rfl ?_
  obtain rfl := Eq.symm h
  exact st_ret (gs' := []) Tryz.func45 rfl (List.Sublist.refl _) (hl20.trans hl24) ⟨rfl, rfl⟩
 ·refine Z 5 rfl ?_
  refine st_if rfl h (fun h => ?_) (fun h => ?_)
  ·refine Z 3 rfl ?_
   obtain ⟨hf26, h⟩ := h
   refine o_sadd rfl rfl rfl (ev_str z_str46) rfl hf26 ?_
   refine Z 2 rfl ?_
   refine st_ord [] _ rfl ?_
   obtain rfl := Eq.symm h
   exact st_ret (gs' := []) Tryz.func45 rfl (List.Sublist.refl _) hl20 ⟨rfl, rfl⟩
  ·refine Z 5 rfl ?_
   refine st_if rfl h (fun h => ?_) (fun h => ?_)
   ·refine Z 3 rfl ?_
    obtain ⟨hf27, h⟩ := h
    refine o_sadd rfl rfl rfl (ev_str z_str47) rfl hf27 ?_
    refine Z 2 rfl ?_
    refine st_ord [] _ rfl ?_
    obtain rfl := Eq.symm h
    exact st_ret (gs' := []) Tryz.func45 rfl (List.Sublist.refl _) hl20 ⟨rfl, rfl⟩
   ·refine Z 5 rfl ?_
    refine st_if rfl h (fun h => ?_) (fun h => ?_)
    ·refine ZZ 4 [0] rfl rfl ?_
     obtain ⟨r28, hr29, h⟩ := h
     refine st_call (foot := []) rfl rfl rfl rfl rfl rfl (callV_fn z_en85 (ref26_Hex_ok hr29 τ20 (hs2.up hl20))) ?_
     rintro vτ30 τ30 gsτ30 hl31 ⟨rfl, rfl⟩
     obtain ⟨hf32, h⟩ := h
     refine o_sadd rfl rfl rfl (ev_str z_str48) rfl hf32 ?_
     refine Z 2 rfl ?_
     refine st_ord [] _ rfl ?_
     obtain rfl := Eq.symm h
     exact st_ret (gs' := []) Tryz.func45 rfl (List.Sublist.refl _) (hl20.trans hl31) ⟨rfl, rfl⟩
    ·refine Z 4 rfl ?_
     refine o_assign rfl rfl rfl (ev_str z_str1) ?_
     refine st_end ?_
     refine st_ord [] _ rfl ?_
     obtain rfl := Eq.symm h
     exact st_ret (gs' := []) Tryz.func45 rfl (List.Sublist.refl _) hl20 ⟨rfl, rfl⟩
theorem ref27_Line_ok {a0 : TyZ} {v1 : Value} {v2 : Value} {v3 : Value} {v4 : Value} {r : ByteArray} (h : ref27_Line a0 r) (σ : Sto) (hs5 : Sl (kA .i64 2) σ v1 a0.2.1.2.2.1) (hs6 : Sl (kI .i64) σ v2 a0.2.1.2.2.2.1) (hs7 : Sl (kI .u8) σ v3 a0.2.2.1.t4) (hs8 : Sl (kI .i64) σ v4 a0.2.2.2) :
    Does Tryz.prog 16 [.agg (lS a0 v1 v2 v3 v4).toArray] σ [] (fun v τ gs => gs = [] ∧ .string r = v) := by
 refine call_of Tryz.func16 Tryz.ntmps16 rfl rfl (fun cs fs => ?_)
 refine Z 2 rfl ?_
 refine o_box (cs := (lS a0 v1 v2 v3 v4)) rfl rfl rfl rfl rfl (fun b9 => ?_)
 refine o_assign rfl rfl rfl (ev_str z_str1) ?_
 refine ZZ 5 [0] rfl rfl ?_
 obtain ⟨r10, hr11, h⟩ := h
 refine st_call (foot := []) rfl rfl rfl rfl rfl rfl (callV_fn z_en13 (ref27_Check_ok hr11 σ hs5 hs6 hs7 hs8)) ?_
 rintro vτ12 τ12 gsτ12 hl13 ⟨rfl, rfl⟩
 refine Z 2 rfl ?_
 refine st_if rfl h (fun h => ?_) (fun h => ?_)
 ·refine Z 2 rfl ?_
  refine o_assign rfl rfl rfl (ev_str z_str1) ?_
  refine st_end ?_
  refine st_ord [] _ rfl ?_
  obtain rfl := Eq.symm h
  exact st_ret (gs' := []) Tryz.func16 rfl (List.Sublist.refl _) hl13 ⟨rfl, rfl⟩
 ·refine ZZ 13 [0] rfl rfl ?_
  refine st_if rfl h (fun h => ?_) (fun h => ?_)
  ·refine ZZ 4 [0] rfl rfl ?_
   obtain ⟨r14, hr15, h⟩ := h
   refine st_call (foot := []) rfl rfl rfl rfl rfl rfl (callV_fn z_en44 (ref20_Line_ok hr15 τ12 (hs5.up hl13) (hs6.up hl13))) ?_
   rintro vτ16 τ16 gsτ16 hl17 ⟨rfl, rfl⟩
   obtain ⟨hf18, h⟩ := h
   refine o_sadd rfl rfl rfl (ev_str z_str43) rfl hf18 ?_
   refine Z 2 rfl ?_
   refine st_ord [] _ rfl ?_
   obtain rfl := Eq.symm h
   exact st_ret (gs' := []) Tryz.func16 rfl (List.Sublist.refl _) (hl13.trans hl17) ⟨rfl, rfl⟩
  ·refine Z 5 rfl ?_
   refine st_if rfl h (fun h => ?_) (fun h => ?_)
   ·refine ZZ 4 [0] rfl rfl ?_
    obtain ⟨r19, hr20, h⟩ := h
    refine st_call (foot := []) rfl rfl rfl rfl rfl rfl (callV_fn z_en45 (ref26_Line_ok hr20 τ12 (hs7.up hl13))) ?_
    rintro vτ21 τ21 gsτ21 hl22 ⟨rfl, rfl⟩
    refine Z 2 rfl ?_
    refine st_ord [] _ rfl ?_
    obtain rfl := Eq.symm h
    exact st_ret (gs' := []) Tryz.func16 rfl (List.Sublist.refl _) (hl13.trans hl22) ⟨rfl, rfl⟩
   ·refine Z 5 rfl ?_
    refine st_if rfl h (fun h => ?_) (fun h => ?_)
    ·refine Z 2 rfl ?_
     refine o_assign rfl rfl rfl (ev_str z_str3) ?_
     refine st_end ?_
     refine st_ord [] _ rfl ?_
     obtain rfl := Eq.symm h
     exact st_ret (gs' := []) Tryz.func16 rfl (List.Sublist.refl _) hl13 ⟨rfl, rfl⟩
    ·refine Z 5 rfl ?_
     refine st_if rfl h (fun h => ?_) (fun h => ?_)
     ·refine Z 2 rfl ?_
      refine o_assign rfl rfl rfl (ev_str z_str5) ?_
      refine st_end ?_
      refine st_ord [] _ rfl ?_
      obtain rfl := Eq.symm h
      exact st_ret (gs' := []) Tryz.func16 rfl (List.Sublist.refl _) hl13 ⟨rfl, rfl⟩
     ·refine Z 5 rfl ?_
      refine st_if rfl h (fun h => ?_) (fun h => ?_)
      ·refine Z 2 rfl ?_
       refine o_assign rfl rfl rfl (ev_str z_str6) ?_
       refine st_end ?_
       refine st_ord [] _ rfl ?_
       obtain rfl := Eq.symm h
       exact st_ret (gs' := []) Tryz.func16 rfl (List.Sublist.refl _) hl13 ⟨rfl, rfl⟩
      ·refine Z 4 rfl ?_
       refine o_assign rfl rfl rfl (ev_str z_str4) ?_
       refine Z 2 rfl ?_
       refine st_cut (fun ρ τ23 gs => ∃ (s23 : ByteArray), ref27_Line_j1 s23 r ∧ τ12.Le τ23 ∧ ESub ρ [(2, .E0), (3, .string s23)] ∧ gs = []) ?_ (fun hk23 => ?_)
       ·rintro ρ23 τ23 gs23 ⟨s23, h, hl23, hρ, rfl⟩
        refine st_es hρ ?_
        refine Z 5 rfl ?_
        obtain rfl := Eq.symm h
        exact st_ret (gs' := []) Tryz.func16 rfl (List.Sublist.refl _) (hl13.trans hl23) ⟨rfl, rfl⟩
       refine Z 4 rfl ?_
       obtain ⟨e24, hL24, hA24⟩ := h
       refine st_loop hL24 (fun (s24 : ByteArray × Int) ρ τ24 gs => τ12.Le τ24 ∧ ESub ρ [(1, .Pb b9), (2, .E0), (3, .string s24.1), (4, .I s24.2)] ∧ gs = [[(b9, .cells (lS a0 v1 v2 v3 v4).toArray 40 (0, 0))]]) ⟨Sto.Le.refl _, rfl, rfl⟩ ?_
       rintro s24 o24 h he24 ρ24 τ24 gs24 ⟨hl24, hρ, rfl⟩ hn24
       refine st_es hρ ?_
       refine ZZ 6 [0] rfl rfl ?_
       refine o_lenI rfl rfl rfl z_slT24 rfl (hs8.up (hl13.trans hl24)) ?_
       refine Z 2 rfl ?_
       refine st_if rfl h (fun h => ?_) (fun h => ?_)
       ·refine Z 5 rfl ?_
        obtain ⟨hf25, h⟩ := h
        refine o_sadd rfl rfl rfl rfl (ev_str z_str0) hf25 ?_
        refine ZZ 3 [0] rfl rfl ?_
        obtain ⟨q26, hf27, h⟩ := h
        refine o_index rfl rfl rfl z_slT24 rfl rfl (hs8.up (hl13.trans hl24)) rfl hf27 (fun b28 of29 vs hc30 hrep => ?_)
        obtain rfl := hrep
        refine o_loadI (v := .I q26) rfl rfl rfl z_sc3 rfl (hc30 0 _ rfl) ?_
        obtain ⟨r31, hr32, h⟩ := h
        refine st_call (foot := []) rfl rfl rfl rfl rfl rfl (callV_fn z_en46 (ref07_Digits_ok hr32 τ24)) ?_
        rintro vτ33 τ33 gsτ33 hl34 ⟨rfl, rfl⟩
        obtain ⟨hf35, h⟩ := h
        refine o_sadd rfl rfl rfl rfl rfl hf35 ?_
        refine Z 8 rfl ?_
        exact hn24 _ _ _ _ h ⟨(hl24.trans hl34), rfl, rfl⟩
       ·refine st_exit rfl ?_
        obtain rfl := he24 _ h
        replace h := hA24
        refine st_ord [] _ rfl ?_
        exact hk23 _ _ _ ⟨s24.1, h, hl24, rfl, rfl⟩
theorem script_Same_ok {a0 : TyS} {a1 : TyS} {v1 : Value} {v2 : Value} {v3 : Value} {v4 : Value} {v9 : Value} {v10 : Value} {v11 : Value} {v12 : Value} {r : Bool} (h : script_Same a0 a1 r) (σ : Sto) (hs5 : Sl (kP (kI .i64) (kI .i64)) σ v1 a0.2.1.2.2.1) (hs6 : Sl (kI .i64) σ v2 a0.2.1.2.2.2.1) (hs7 : Sl (kI .u8) σ v3 a0.2.2.1.t4) (hs8 : Sl (kI .i64) σ v4 a0.2.2.2) (hs13 : Sl (kP (kI .i64) (kI .i64)) σ v9 a1.2.1.2.2.1) (hs14 : Sl (kI .i64) σ v10 a1.2.1.2.2.2.1) (hs15 : Sl (kI .u8) σ v11 a1.2.2.1.t4) (hs16 : Sl (kI .i64) σ v12 a1.2.2.2) (hT : Tab Tryz.prog σ) :
    Does Tryz.prog 17 [.agg (lS a0 v1 v2 v3 v4).toArray, .agg (lS a1 v9 v10 v11 v12).toArray] σ [] (fun v τ gs => gs = [] ∧ .bool r = v) := by
 refine call_of Tryz.func17 Tryz.ntmps17 rfl rfl (fun cs fs => ?_)
 refine Z 2 rfl ?_
 refine o_box (cs := (lS a0 v1 v2 v3 v4)) rfl rfl rfl rfl rfl (fun b17 => ?_)
 refine o_box (cs := (lS a1 v9 v10 v11 v12)) rfl rfl rfl rfl rfl (fun b18 => ?_)
 refine ZZ 11 [1, 0] rfl rfl ?_
 refine st_if rfl h (fun h => ?_) (fun h => ?_)
 ·refine Z 4 rfl ?_
  refine st_ord [] _ rfl ?_
  obtain rfl := Eq.symm h
  exact st_ret (gs' := []) Tryz.func17 rfl (List.Sublist.refl _) (Sto.Le.refl _) ⟨rfl, rfl⟩
 ·refine ZZ 13 [1] rfl rfl ?_
  refine st_if rfl h (fun h => ?_) (fun h => ?_)
  ·refine ZZ 6 [1, 0] rfl rfl ?_
   obtain ⟨r19, hr20, h⟩ := h
   refine st_call (foot := []) rfl rfl rfl rfl rfl rfl (callV_fn z_en47 (msg_Same_ok hr20 σ hs5 hs6 hs13 hs14)) ?_
   rintro vτ21 τ21 gsτ21 hl22 ⟨rfl, rfl⟩
   refine Z 2 rfl ?_
   refine st_ord [] _ rfl ?_
   obtain rfl := Eq.symm h
   exact st_ret (gs' := []) Tryz.func17 rfl (List.Sublist.refl _) hl22 ⟨rfl, rfl⟩
  ·refine Z 5 rfl ?_
   refine st_if rfl h (fun h => ?_) (fun h => ?_)
   ·refine st_seq ?_
    obtain ⟨r23, hr24, r27, hr28, h⟩ := h
    refine st_draw 7 (dl [.v (.pointer (some ⟨b17, 12, none⟩)), .v (.agg (lI a0.2.2.1 v3).toArray), .v (.string r23), .v (.pointer (some ⟨b18, 12, none⟩)), .v (.agg (lI a1.2.2.1 v11).toArray), .v (.string r27), .v (.bool (decide (r23 = r27)))]) (fun _ _ => []) z_mix rfl (dl_mono trivial) (allB_cons (allB_cons (allB_cons (allB_cons (allB_cons (allB_cons (allB_cons allB_nil (p1 dA)) ?_) ?_) (p1 dA)) ?_) ?_) (p1 dA)) ?_
    ·intro ρ' τ pool rs hl hd hout hk
     obtain ⟨_, e0, rfl⟩ := hd 0 rfl
     refine o_loadN (j := 1) (vs := (lI a0.2.2.1 v3)) rfl rfl rfl z_agg29 e0 rfl rfl ?_
     exact st_addNil (hk _ _ (Sto.Le.refl _) rfl)
    ·intro ρ' τ pool rs hl hd hout hk
     obtain ⟨_, e1, rfl⟩ := hd 1 rfl
     refine st_call (foot := []) rfl rfl rfl rfl (evs_cons e1 rfl) rfl (callV_fn z_en33 (noise_Line_ok hr24 τ (hs7.up hl) (hT.up hl))) ?_
     rintro vτ25 τ25 gsτ25 hl26 ⟨rfl, rfl⟩
     exact st_addNil (hk _ _ hl26 rfl)
    ·intro ρ' τ pool rs hl hd hout hk
     obtain ⟨_, e3, rfl⟩ := hd 3 rfl
     refine o_loadN (j := 0) (vs := (lI a1.2.2.1 v11)) rfl rfl rfl z_agg29 e3 rfl rfl ?_
     exact st_addNil (hk _ _ (Sto.Le.refl _) rfl)
    ·intro ρ' τ pool rs hl hd hout hk
     obtain ⟨_, e4, rfl⟩ := hd 4 rfl
     refine st_call (foot := []) rfl rfl rfl rfl (evs_cons e4 rfl) rfl (callV_fn z_en33 (noise_Line_ok hr28 τ (hs15.up hl) (hT.up hl))) ?_
     rintro vτ29 τ29 gsτ29 hl30 ⟨rfl, rfl⟩
     exact st_addNil (hk _ _ hl30 rfl)
    intro ρ' τ31 vals hl31 hv hout
    refine st_ord [0, 0] _ rfl ?_
    refine st_env (ρ' := [(27, .bool (decide (r23 = r27))), (4, .bool false)]) ⟨(lv1 hv 6 rfl rfl), (hout 4 rfl).trans rfl, trivial⟩ ?_
    refine Z 2 rfl ?_
    refine st_ord [] _ rfl ?_
    obtain rfl := Eq.symm h
    exact st_ret (gs' := []) Tryz.func17 rfl (List.Sublist.refl _) hl31 ⟨rfl, rfl⟩
   ·refine Z 5 rfl ?_
    refine st_if rfl h (fun h => ?_) (fun h => ?_)
    ·refine ZZ 6 [1, 0] rfl rfl ?_
     obtain ⟨r32, hr33, h⟩ := h
     refine st_call (foot := []) rfl rfl rfl rfl rfl rfl (callV_fn z_en48 (slices_Equal_int_int_ok hr33 σ hs8 hs16)) ?_
     rintro vτ34 τ34 gsτ34 hl35 ⟨rfl, rfl⟩
     refine Z 2 rfl ?_
     refine st_ord [] _ rfl ?_
     obtain rfl := Eq.symm h
     exact st_ret (gs' := []) Tryz.func17 rfl (List.Sublist.refl _) hl35 ⟨rfl, rfl⟩
    ·refine Z 6 rfl ?_
     refine st_ord [] _ rfl ?_
     obtain rfl := Eq.symm h
     exact st_ret (gs' := []) Tryz.func17 rfl (List.Sublist.refl _) (Sto.Le.refl _) ⟨rfl, rfl⟩
theorem strings_Lines_1_ok {c0 : ByteArray} {bc0 : Nat} {σ0 : Sto}  :
    IterV Tryz.prog (fun _ x vx => vx = [.string x]) (.func (.func 90) #[] [.Pb bc0].toArray) σ0 [(bc0, .cells [.string c0].toArray 9 (0, 0))] (fun (oo : ByteArray) υ f => f = [(bc0, .cells [.string oo].toArray 9 (0, 0))]) (strings_Lines_1 c0) := by
 intro S Y I y hyc hyo hIm hY s s' o hR σ g hle hIg
 obtain ⟨r, hr0⟩ : ∃ r, r = (s', o) := ⟨_, rfl⟩
 rw [← hr0] at hR
 have h := hR
 refine callV_of (caps := [.Pb bc0]) z_en90 ?_
 refine call_of Tryz.func90 Tryz.ntmps90 rfl rfl (fun cs fs => ?_)
 refine st_perm (gs' := [g, [(bc0, .cells #[.string c0] 9 (0, 0))]]) (by simp) ?_
 obtain ⟨e1, hL1, hA1⟩ := h
 refine st_ord [1, 0] _ rfl ?_
 refine st_loop hL1 (fun (s1 : S × ByteArray) ρ τ1 gs => σ.Le τ1 ∧ ∃ (g2 : Grp), ESub ρ [(0, y), (1, .Pb bc0)] ∧ gs = [[(bc0, .cells #[.string s1.2] 9 (0, 0))], g2] ∧ I s1.1 τ1 g2) ⟨Sto.Le.refl _, g, rfl, rfl, hIg⟩ ?_
 rintro s1 o1 h he1 ρ1 τ1 gs1 ⟨hl1, g2, hρ, rfl, hI3⟩ hn1
 refine st_es hρ ?_
 refine ZZ 7 [0] rfl rfl ?_
 refine st_if rfl h (fun h => ?_) (fun h => ?_)
 ·refine Z 4 rfl ?_
  refine o_assign rfl rfl rfl (ev_str z_str1) ?_
  refine Z 2 rfl ?_
  refine st_cut (fun ρ τ4 gs => ∃ (s4 : S × ByteArray × ByteArray) (g5 : Grp), strings_Lines_1_j2 S Y s4 o1 ∧ τ1.Le τ4 ∧ ESub ρ [(3, .string s4.2.1), (0, y), (1, .Pb bc0)] ∧ gs = [[(bc0, .cells #[.string s4.2.2] 9 (0, 0))], g5] ∧ I s4.1 τ4 g5) ?_ (fun hk4 => ?_)
  ·rintro ρ4 τ4 gs4 ⟨s4, g5, h, hl4, hρ, rfl, hI6⟩
   refine st_es hρ ?_
   refine Z 4 rfl ?_
   obtain ⟨y7, u8, hy9, h⟩ := h
   refine st_ord [1, 0] _ rfl ?_
   refine st_call (foot := [g5]) rfl rfl rfl rfl rfl rfl (hY s4.2.1 s4.1 _ _ _ _ _ (hle.trans (hl1.trans hl4)) hy9 rfl hI6) ?_
   rintro vτ10 τ10 gsτ10 hl11 ⟨rfl, g12, rfl, hI13⟩
   refine Z 2 rfl ?_
   refine st_if rfl h (fun h => ?_) (fun h => ?_)
   ·obtain rfl := he1 _ h
    replace h := hA1
    obtain rfl := Eq.symm h
    cases hr0
    exact st_ret (gs' := [g12, [(bc0, .cells #[.string s4.2.2] 9 (0, 0))]]) Tryz.func90 rfl (by simp) ((hl1.trans hl4).trans hl11) ⟨g12, _, rfl, hI13, rfl⟩
   ·refine Z 2 rfl ?_
    refine st_ord [1, 0] _ rfl ?_
    exact hn1 _ _ _ _ h ⟨((hl1.trans hl4).trans hl11), g12, rfl, rfl, hI13⟩
  refine ZZ 3 [0] rfl rfl ?_
  obtain ⟨r14, hr15, h⟩ := h
  refine st_call (foot := []) rfl rfl rfl rfl rfl rfl (callV_fn z_en91 (strings_IndexByte_ok hr15 τ1)) ?_
  rintro vτ16 τ16 gsτ16 hl17 ⟨rfl, rfl⟩
  refine Z 7 rfl ?_
  refine st_if rfl h (fun h => ?_) (fun h => ?_)
  ·obtain ⟨hf18, hf19, hf20, hf21, h⟩ := h
   refine st_draw 9 (dl [.v (.string s1.2), .v (.I r14), .v (.I (IntKind.i64.wrap (r14 + 1))), .v (.string (s1.2.extract 0 (IntKind.i64.wrap (r14 + 1)).toNat)), .v (.string s1.2), .v (.I r14), .v (.I (IntKind.i64.wrap (r14 + 1))), .v (.string (s1.2.extract (IntKind.i64.wrap (r14 + 1)).toNat s1.2.size)), .v (.string (s1.2.extract 0 (IntKind.i64.wrap (r14 + 1)).toNat))]) (fun _ _ => []) z_mix rfl (dl_mono trivial) (allB_cons (allB_cons (allB_cons (allB_cons (allB_cons (allB_cons (allB_cons (allB_cons (allB_cons allB_nil ?_) (p1 dA)) (p1 dA)) ?_) ?_) (p1 dA)) (p1 dA)) ?_) (p1 dA)) ?_
   ·intro ρ' τ pool rs hl hd hout hk
    refine o_load (j := 0) (v := .string s1.2) rfl rfl rfl z_sc9 ((hout 1 rfl).trans rfl) rfl rfl ?_
    exact st_addNil (hk _ _ (Sto.Le.refl _) rfl)
   ·intro ρ' τ pool rs hl hd hout hk
    obtain ⟨_, e0, rfl⟩ := hd 0 rfl
    obtain ⟨_, e2, rfl⟩ := hd 2 rfl
    refine o_sliceSh rfl rfl rfl Tryz.underlying9 e0 e2 hf18 hf19 ?_
    exact st_addNil (hk _ _ (Sto.Le.refl _) rfl)
   ·intro ρ' τ pool rs hl hd hout hk
    refine o_load (j := 0) (v := .string s1.2) rfl rfl rfl z_sc9 ((hout 1 rfl).trans rfl) rfl rfl ?_
    exact st_addNil (hk _ _ (Sto.Le.refl _) rfl)
   ·intro ρ' τ pool rs hl hd hout hk
    obtain ⟨_, e4, rfl⟩ := hd 4 rfl
    obtain ⟨_, e6, rfl⟩ := hd 6 rfl
    refine o_sliceSl rfl rfl rfl Tryz.underlying9 e4 e6 hf20 hf21 ?_
    exact st_addNil (hk _ _ (Sto.Le.refl _) rfl)
   intro ρ' τ22 vals hl22 hv hout
   refine st_ord [0, 0] _ rfl ?_
   refine st_env (ρ' := [(19, .string (s1.2.extract (IntKind.i64.wrap (r14 + 1)).toNat s1.2.size)), (3, .string (s1.2.extract 0 (IntKind.i64.wrap (r14 + 1)).toNat)), (0, y), (1, .Pb bc0)]) ⟨(lv1 hv 7 rfl rfl), (lv1 hv 8 rfl rfl), (hout 0 rfl).trans rfl, (hout 1 rfl).trans rfl, trivial⟩ ?_
   refine ZZ 2 [0] rfl rfl ?_
   exact hk4 _ _ _ ⟨(s1.1, (s1.2.extract 0 (IntKind.i64.wrap (r14 + 1)).toNat), (s1.2.extract (IntKind.i64.wrap (r14 + 1)).toNat s1.2.size)), g2, h, (hl17.trans hl22), rfl, rfl, (hIm _ _ _ _ (hl17.trans hl22) hI3)⟩
  ·refine ZZ 3 [0] rfl rfl ?_
   refine o_store (j := 0) (vs := [.E0]) (cs' := [.E0]) rfl rfl rfl z_size9 rfl (ev_str z_str1) rfl (ones_cons rfl ones_nil) rfl rfl rfl ?_
   refine st_end ?_
   exact hk4 _ _ _ ⟨(s1.1, s1.2, (bstr [])), g2, h, hl17, rfl, rfl, (hIm _ _ _ _ hl17 hI3)⟩
 ·refine st_exit rfl ?_
  refine st_ord [1, 0] _ rfl ?_
  obtain rfl := he1 _ h
  replace h := hA1
  obtain rfl := Eq.symm h
  cases hr0
  exact st_fin (gs' := [g2, [(bc0, .cells #[.string s1.2] 9 (0, 0))]]) Tryz.func90 rfl (by simp) hl1 ⟨g2, _, rfl, hI3, rfl⟩
theorem strings_Lines_ok {a0 : ByteArray} {r : ((ByteArray → (S : Type) → (ByteArray → S → Bool × S → Prop) → S → S × ByteArray → Prop)) × ByteArray} (h : strings_Lines a0 r) (σ : Sto)  :
    Does Tryz.prog 53 [.string a0] σ [] (fun v τ gs => ∃ (f3 : Nat) (q4 : Array Value) (b6 : Nat), gs = [[(b6, .cells [.string r.2].toArray 9 (0, 0))]] ∧ .func (.func f3) #[] q4 = v ∧ ∀ (x8 : ByteArray) (σ7 : Sto), τ.Le σ7 → IterV Tryz.prog (fun _ x vx => vx = [.string x]) (.func (.func f3) #[] q4) σ7 [(b6, .cells [.string x8].toArray 9 (0, 0))] (fun (o9 : ByteArray) υ f => f = [(b6, .cells [.string o9].toArray 9 (0, 0))]) (r.1 x8)) := by
 refine call_of Tryz.func53 Tryz.ntmps53 rfl rfl (fun cs fs => ?_)
 refine Z 2 rfl ?_
 refine o_boxC rfl rfl rfl rfl rfl rfl (fun b1 => ?_)
 refine Z 7 rfl ?_
 obtain rfl := Eq.symm h
 exact st_ret (gs' := [[(b1, .cells #[.string a0] 9 (0, 0))]]) Tryz.func53 rfl (List.Sublist.refl _) (Sto.Le.refl _) ⟨_, _, _, rfl, rfl, (fun _ _ hl  => strings_Lines_1_ok )⟩
theorem internal_stringslite_HasSuffix_ok {a0 : ByteArray} {a1 : ByteArray} {r : Bool} (h : internal_stringslite_HasSuffix a0 a1 r) (σ : Sto)  :
    Does Tryz.prog 89 [.string a0, .string a1] σ [] (fun v τ gs => gs = [] ∧ .bool r = v) := by
 refine call_of Tryz.func89 Tryz.ntmps89 rfl rfl (fun cs fs => ?_)
 refine Z 5 rfl ?_
 refine st_cut (fun ρ τ1 gs => ∃ (s1 : Bool), internal_stringslite_HasSuffix_j1 s1 r ∧ σ.Le τ1 ∧ ESub ρ [(4, .bool s1)] ∧ gs = []) ?_ (fun hk1 => ?_)
 ·rintro ρ1 τ1 gs1 ⟨s1, h, hl1, hρ, rfl⟩
  refine st_es hρ ?_
  obtain rfl := Eq.symm h
  exact st_ret (gs' := []) Tryz.func89 rfl (List.Sublist.refl _) hl1 ⟨rfl, rfl⟩
 refine Z 6 rfl ?_
 refine o_mif rfl rfl rfl rfl h (fun h => ?_) (fun h => ?_)
 ·refine Z 6 rfl ?_
  obtain ⟨hf2, hf3, h⟩ := h
  refine o_sliceSl rfl rfl rfl Tryz.underlying9 rfl rfl hf2 hf3 ?_
  refine Z 5 rfl ?_
  exact hk1 _ _ _ ⟨(decide ((a0.extract (IntKind.i64.wrap ((a0.size : Int) - (a1.size : Int))).toNat a0.size) = a1)), h, (Sto.Le.refl _), rfl, rfl⟩
 ·refine Z 12 rfl ?_
  exact hk1 _ _ _ ⟨false, h, (Sto.Le.refl _), rfl, rfl⟩
theorem internal_stringslite_CutSuffix_ok {a0 : ByteArray} {a1 : ByteArray} {r : ByteArray × Bool} (h : internal_stringslite_CutSuffix a0 a1 r) (σ : Sto)  :
    Does Tryz.prog 92 [.string a0, .string a1] σ [] (fun v τ gs => gs = [] ∧ .tuple [.string r.1, .bool r.2].toArray = v) := by
 refine call_of Tryz.func92 Tryz.ntmps92 rfl rfl (fun cs fs => ?_)
 refine Z 2 rfl ?_
 refine o_assign rfl rfl rfl (ev_str z_str1) ?_
 refine Z 7 rfl ?_
 obtain ⟨r1, hr2, h⟩ := h
 refine st_call (foot := []) rfl rfl rfl rfl rfl rfl (callV_fn z_en89 (internal_stringslite_HasSuffix_ok hr2 σ)) ?_
 rintro vτ3 τ3 gsτ3 hl4 ⟨rfl, rfl⟩
 refine Z 2 rfl ?_
 refine st_if rfl h (fun h => ?_) (fun h => ?_)
 ·refine Z 6 rfl ?_
  obtain rfl := Eq.symm h
  exact st_ret (gs' := []) Tryz.func92 rfl (List.Sublist.refl _) hl4 ⟨rfl, rfl⟩
 ·refine Z 9 rfl ?_
  obtain ⟨hf5, hf6, h⟩ := h
  refine o_sliceSh rfl rfl rfl Tryz.underlying9 rfl rfl hf5 hf6 ?_
  refine Z 3 rfl ?_
  obtain rfl := Eq.symm h
  exact st_ret (gs' := []) Tryz.func92 rfl (List.Sublist.refl _) hl4 ⟨rfl, rfl⟩
theorem strings_CutSuffix_ok {a0 : ByteArray} {a1 : ByteArray} {r : ByteArray × Bool} (h : strings_CutSuffix a0 a1 r) (σ : Sto)  :
    Does Tryz.prog 54 [.string a0, .string a1] σ [] (fun v τ gs => gs = [] ∧ .tuple [.string r.1, .bool r.2].toArray = v) := by
 refine call_of Tryz.func54 Tryz.ntmps54 rfl rfl (fun cs fs => ?_)
 refine Z 2 rfl ?_
 refine o_assign rfl rfl rfl (ev_str z_str1) ?_
 refine Z 6 rfl ?_
 obtain ⟨r1, hr2, h⟩ := h
 refine st_call (foot := []) rfl rfl rfl rfl rfl rfl (callV_fn z_en92 (internal_stringslite_CutSuffix_ok hr2 σ)) ?_
 rintro vτ3 τ3 gsτ3 hl4 ⟨rfl, rfl⟩
 refine Z 5 rfl ?_
 obtain rfl := Eq.symm h
 exact st_ret (gs' := []) Tryz.func54 rfl (List.Sublist.refl _) hl4 ⟨rfl, rfl⟩
theorem script_Lines_1_ok {c0 : ByteArray} {bc0 : Nat} {σ0 : Sto} (hc0_0 : Cel σ0 ⟨bc0, 0, none⟩ (.string c0)) :
    IterV Tryz.prog (fun _ x vx => vx = [.I x.1, .string x.2]) (.func (.func 52) #[] [.Pb bc0].toArray) σ0 [] (fun (_ : Unit) _ f => f = []) (script_Lines_1 c0) := by
 intro S Y I y hyc hyo hIm hY s s' o hR σ g hle hIg
 obtain ⟨r, hr0⟩ : ∃ r, r = (s', o) := ⟨_, rfl⟩
 rw [← hr0] at hR
 have h := hR
 refine callV_of (caps := [.Pb bc0]) z_en52 ?_
 refine call_of Tryz.func52 Tryz.ntmps52 rfl rfl (fun cs fs => ?_)
 refine st_ord [0] _ rfl ?_
 refine Z 2 rfl ?_
 refine o_box (cs := [y]) rfl rfl rfl rfl hyc (fun b1 => ?_)
 refine Z 4 rfl ?_
 refine o_alloc rfl rfl rfl z_zero3 (fun b2 => ?_)
 refine ZZ 6 [0] rfl rfl ?_
 refine o_loadI (v := .string c0) rfl rfl rfl z_sc9 rfl (Cel.up hc0_0 hle) ?_
 obtain ⟨r3, hr4, h⟩ := h
 refine st_call (foot := []) rfl rfl rfl rfl rfl rfl (callV_fn z_en53 (strings_Lines_ok hr4 σ)) ?_
 rintro vτ5 τ5 gsτ5 hl6 ⟨f7, q8, b10, rfl, rfl, hit9⟩
 refine Z 2 rfl ?_
 obtain ⟨t14, w14, hR14, hA14⟩ := h
 refine st_env (ρ' := [(2, .Pb b1), (3, .Pb b2), (8, .func (.func f7) #[] q8)]) ⟨rfl, rfl, rfl, trivial⟩ ?_
 refine st_ord [0, 1, 0, 0] _ rfl ?_
 refine st_range (B := script_Lines_1_l1 S Y) (s0 := (s, 0)) ranges_fctx rfl (hit9 r3.2 τ5 (Sto.Le.refl _)) (Sto.Le.refl _) hR14 rfl (fun _ _ _ h => by cases h; rfl) (fun (s14 : S × Int) τ14 gs => τ5.Le τ14 ∧ ∃ (g15 : Grp), gs = [[(b1, .cells #[y] 107 (0, 0))], [(b2, .cells #[.I s14.2] 3 (0, 0))], g15] ∧ I s14.1 τ14 g15) (fun (p31 : S × Int) cd τ32 gs => cd = .exit 0 ∧ τ5.Le τ32 ∧ ∃ (g34 : Grp), gs = [[(b1, .cells #[y] 107 (0, 0))], [(b2, .cells #[.I p31.2] 3 (0, 0))], g34] ∧ I p31.1 τ32 g34) (fun _ _ _ _ hl ⟨hb, g15, hg, hI16⟩ => ⟨hb.trans hl, g15, hg, hIm _ _ _ _ hl hI16⟩) (fun _ _ _ _ _ hl ⟨hc, hb, g34, hg, hI35⟩ => ⟨hc, hb.trans hl, g34, hg, hIm _ _ _ _ hl hI35⟩) ⟨Sto.Le.refl _, g, rfl, (hIm _ _ _ _ hl6 hIg)⟩ ?_ ?_ ?_
 ·rintro x14 s14 o14 τ14 gs14 vx14 hl14 h rfl ⟨hb14, g15, rfl, hI16⟩ l14 rc14 caller14 cs14 fs14
  refine Z 3 rfl ?_
  refine st_begin ?_
  refine Z 4 rfl ?_
  obtain ⟨r17, hr18, h⟩ := h
  refine st_call (foot := []) rfl rfl rfl rfl (evs_cons rfl (evs_cons (ev_str z_str42) rfl)) rfl (callV_fn z_en54 (strings_CutSuffix_ok hr18 τ14)) ?_
  rintro vτ19 τ19 gsτ19 hl20 ⟨rfl, rfl⟩
  refine Z 8 rfl ?_
  refine st_cut (fun ρ τ21 gs => ∃ (s21 : S × Bool) (g22 : Grp), script_Lines_1_j2 S Y s14 s21 o14 ∧ τ19.Le τ21 ∧ ESub ρ [(2, .Pb b1), (3, .Pb b2), (9, .string x14), (4, .string x14), (23, .bool s21.2)] ∧ gs = [[(b1, .cells #[y] 107 (0, 0))], [(b2, .cells #[.I s14.2] 3 (0, 0))], g22] ∧ I s21.1 τ21 g22) ?_ (fun hk21 => ?_)
  ·rintro ρ21 τ21 gs21 ⟨s21, g22, h, hl21, hρ, rfl, hI23⟩
   refine st_es hρ ?_
   refine st_if rfl h (fun h => ?_) (fun h => ?_)
   ·exact st_rexit rfl (List.Sublist.refl _) (hl20.trans hl21) ⟨_, h, rfl, ((hl14.trans hl20).trans hl21), g22, rfl, hI23⟩
   ·refine ZZ 7 [1, 1] rfl rfl ?_
    exact st_rend (List.Sublist.refl _) (hl20.trans hl21) ⟨_, h, ((hl14.trans hl20).trans hl21), g22, rfl, hI23⟩
  refine Z 3 rfl ?_
  refine o_mif rfl rfl rfl rfl h (fun h => ?_) (fun h => ?_)
  ·refine Z 7 rfl ?_
   exact hk21 _ _ _ ⟨(s14.1, true), g15, h, (Sto.Le.refl _), rfl, rfl, (hIm _ _ _ _ hl20 hI16)⟩
  ·refine ZZ 3 [0, 1] rfl rfl ?_
   obtain ⟨y24, u25, hy26, h⟩ := h
   refine st_ord [2, 0, 0] _ rfl ?_
   refine st_call (foot := [g15]) rfl rfl rfl rfl rfl rfl (hY (s14.2, r17.1) s14.1 _ _ _ _ _ (hle.trans ((hl6.trans hl14).trans hl20)) hy26 rfl (hIm _ _ _ _ hl20 hI16)) ?_
   rintro vτ27 τ27 gsτ27 hl28 ⟨rfl, g29, rfl, hI30⟩
   refine Z 3 rfl ?_
   refine st_ord [1, 1, 0] _ rfl ?_
   exact hk21 _ _ _ ⟨(u25, (!y24)), g29, h, hl28, rfl, rfl, hI30⟩
 ·rintro p37 τ38 gs14 f14 ht hl39 ⟨hb, g40, rfl, hI41⟩ rfl
  subst ht
  replace h := hA14
  refine Z 2 rfl ?_
  refine st_ord [3] _ rfl ?_
  obtain rfl := Eq.symm h
  cases hr0
  exact st_fin (gs' := [g40, []]) Tryz.func52 rfl (by simp) (hl6.trans hl39) ⟨g40, _, rfl, hI41, rfl⟩
 ·rintro p31 cd14 τ32 gs14 f14 ht hl33 ⟨rfl, hb, g34, rfl, hI35⟩ rfl
  subst ht
  replace h := hA14
  refine Z 2 rfl ?_
  refine st_ord [3] _ rfl ?_
  obtain rfl := Eq.symm h
  cases hr0
  exact st_fin (gs' := [g34, []]) Tryz.func52 rfl (by simp) (hl6.trans hl33) ⟨g34, _, rfl, hI35, rfl⟩
theorem script_Lines_ok {a0 : ByteArray} {r : (((S : Type) → ((Int × ByteArray) → S → Bool × S → Prop) → S → S × Unit → Prop))} (h : script_Lines a0 r) (σ : Sto)  :
    Does Tryz.prog 21 [.string a0] σ [] (fun v τ gs => ∃ (f5 : Nat) (q6 : Array Value), gs = [] ∧ .func (.func f5) #[] q6 = v ∧ IterV Tryz.prog (fun _ x vx => vx = [.I x.1, .string x.2]) (.func (.func f5) #[] q6) τ [] (fun (_ : Unit) _ f => f = []) r) := by
 refine call_of Tryz.func21 Tryz.ntmps21 rfl rfl (fun cs fs => ?_)
 refine Z 2 rfl ?_
 refine o_boxC rfl rfl rfl rfl rfl rfl (fun b1 => ?_)
 refine Z 4 rfl ?_
 refine st_freeze (fun τ2 hl3 hg4 => ?_)
 refine Z 3 rfl ?_
 obtain rfl := Eq.symm h
 exact st_ret (gs' := []) Tryz.func21 rfl (List.Sublist.refl _) hl3 ⟨_, _, rfl, rfl, (script_Lines_1_ok (cel_of hg4 rfl))⟩
theorem conf_start_ok {a0 : Int} {r : Int × Bool} (h : conf_start a0 r) (σ : Sto)  :
    Does Tryz.prog 88 [.I a0] σ [] (fun v τ gs => gs = [] ∧ .tuple [.int .u32 r.1, .bool r.2].toArray = v) := by
 refine call_of Tryz.func88 Tryz.ntmps88 rfl rfl (fun cs fs => ?_)
 refine Z 17 rfl ?_
 obtain rfl := Eq.symm h
 exact st_ret (gs' := []) Tryz.func88 rfl (List.Sublist.refl _) (Sto.Le.refl _) ⟨rfl, rfl⟩
theorem conf_Parse_ok {a0 : ByteArray} {r : (Int × Int × Int) × (Int × Int) × Int} (h : conf_Parse a0 r) (σ : Sto) (hE : Errs Tryz.prog σ) :
    Does Tryz.prog 49 [.string a0] σ [] (fun v τ gs => gs = [] ∧ .tuple [.agg [.I r.1.1, .I r.1.2.1, .int .u32 r.1.2.2].toArray, .agg [.int .u32 r.2.1.1, .I r.2.1.2].toArray, .I r.2.2].toArray = v) := by
 refine call_of Tryz.func49 Tryz.ntmps49 rfl rfl (fun cs fs => ?_)
 refine Z 2 rfl ?_
 refine o_alloc rfl rfl rfl z_zero56 (fun b1 => ?_)
 refine o_alloc rfl rfl rfl z_zero58 (fun b2 => ?_)
 refine Z 5 rfl ?_
 refine o_alloc rfl rfl rfl z_zero157 (fun b3 => ?_)
 refine Z 3 rfl ?_
 refine o_alloc rfl rfl rfl z_zero67 (fun b4 => ?_)
 refine Z 5 rfl ?_
 obtain ⟨r5, hr6, h⟩ := h
 refine st_call (foot := []) rfl rfl rfl rfl rfl rfl (callV_fn z_en61 (say_Words_ok hr6 σ)) ?_
 rintro vτ7 τ7 gsτ7 hl8 ⟨f9, q10, rfl, rfl, hit11⟩
 refine Z 2 rfl ?_
 obtain ⟨t12, w12, hR12, hA12⟩ := h
 refine st_env (ρ' := [(2, .Pb b1), (3, .Pb b2), (4, .I 0), (5, .Pb b3), (6, .Pb b4), (18, .func (.func f9) #[] q10)]) ⟨rfl, rfl, rfl, rfl, rfl, rfl, trivial⟩ ?_
 refine st_addNil ?_
 refine st_ord [4, 3, 2, 1, 0] _ rfl ?_
 refine st_addNil ?_
 refine st_range (B := conf_Parse_l1) (s0 := []) ranges_fctx rfl hit11 (Sto.Le.refl _) hR12 rfl (fun _ _ _ h => by cases h; rfl) (fun (s12 : List ByteArray) τ12 gs => τ7.Le τ12 ∧ ∃ (v13 : Value) (g14 : Grp), gs = [[(b1, .cells #[.I 0, .I 0, .int .u32 0] 56 (0, 0))], [(b2, .cells #[.int .u32 0, .I 0] 58 (0, 0))], [(b3, .cells #[.I 0, .I 0, .I 0, .I 0, .I 0] 157 (0, 0))], [(b4, .cells #[v13] 67 (0, 0))], g14] ∧ Ow kS 9 τ12 v13 s12 g14) (fun _ _ _ _ => False) (fun _ _ _ _ hl ⟨hb, v13, g14, hg, ho15⟩ => ⟨hb.trans hl, v13, g14, hg, ho15.up hl⟩) (fun _ _ _ _ _ _ h => h.elim) ⟨Sto.Le.refl _, _, _, rfl, Ow.nil⟩ ?_ ?_ ?_
 ·rintro x12 s12 o12 τ12 gs12 vx12 hl12 h rfl ⟨hb12, v13, g14, rfl, ho15⟩ l12 rc12 caller12 cs12 fs12
  refine Z 3 rfl ?_
  refine st_begin ?_
  refine ZZ 4 [3] rfl rfl ?_
  refine o_litE eS [x12.2] rfl rfl rfl z_slT67 z_zero9 ⟨rfl, ⟨_, rfl, rfl⟩, trivial⟩ rfl rfl rfl rfl (fun v16 g17 ho18 => ?_)
  obtain ⟨hf22, hf23, h⟩ := h
  refine st_ord [5, 0, 0, 0, 0, 0] _ rfl ?_
  refine o_append (dk := kS) (xs := s12) (ys := [x12.2]) rfl rfl rfl rfl z_slT67 rfl ho15 rfl (Ow.src (j := 1) ho18 rfl) hf22 hf23 (fun v19 g20 ho21 => ?_)
  refine o_store (j := 5) (vs := [v19]) (cs' := [v19]) rfl rfl rfl z_size67 rfl rfl (oneL_ow ho21) (ones_cons ho21.one' ones_nil) rfl rfl rfl ?_
  refine Z 2 rfl ?_
  refine st_ord [2, 2, 2, 2, 0] _ rfl ?_
  exact st_rend (List.Sublist.refl _) (Sto.Le.refl _) ⟨_, h, hl12, _, _, rfl, ho21⟩
 ·rintro p24 τ25 gs12 f12 ht hl26 ⟨hb, v27, g28, rfl, ho29⟩ rfl
  subst ht
  replace h := hA12
  refine st_ord [1, 1, 1, 1, 1] _ rfl ?_
  refine Z 3 rfl ?_
  refine st_cut (fun ρ τ30 gs => ∃ (s30 : Bool), conf_Parse_j2 p24 s30 r ∧ τ25.Le τ30 ∧ ESub ρ [(2, .Pb b1), (3, .Pb b2), (4, .I 0), (5, .Pb b3), (6, .Pb b4), (33, .bool s30)] ∧ gs = [[(b1, .cells #[.I 0, .I 0, .int .u32 0] 56 (0, 0))], [(b2, .cells #[.int .u32 0, .I 0] 58 (0, 0))], [(b3, .cells #[.I 0, .I 0, .I 0, .I 0, .I 0] 157 (0, 0))], [(b4, .cells #[v27] 67 (0, 0))], g28]) ?_ (fun hk30 => ?_)
  ·rintro ρ30 τ30 gs30 ⟨s30, h, hl30, hρ, rfl⟩
   refine st_es hρ ?_
   refine st_if rfl h (fun h => ?_) (fun h => ?_)
   ·refine ZZ 8 [0, 1] rfl rfl ?_
    obtain rfl := Eq.symm h
    exact st_retC (gs' := []) [.agg #[.I 0, .I 0, .int .u32 0], .agg #[.int .u32 0, .I 0], .I 3] Tryz.func49 ⟨⟨_, _, _, _, rfl, mem_flat 0 rfl, fun w hw => cellOfN (vs := [.I 0, .I 0, .int .u32 0]) z_agg56 rfl w hw⟩, ⟨_, _, _, _, rfl, mem_flat 1 rfl, fun w hw => cellOfN (vs := [.int .u32 0, .I 0]) z_agg58 rfl w hw⟩, rfl, trivial⟩ (by simp) ((hl8.trans hl26).trans hl30) ⟨rfl, rfl⟩
   ·refine Z 8 rfl ?_
    refine st_cut (fun ρ τ31 gs => ∃ (s31 : Int × Int × Int × Int × Int × Int), conf_Parse_j3 s31 r ∧ τ30.Le τ31 ∧ ESub ρ [(2, .Pb b1), (3, .Pb b2), (4, .I 0), (5, .Pb b3), (9, .I s31.1)] ∧ gs = [[(b1, .cells #[.I 0, .I 0, .int .u32 0] 56 (0, 0))], [(b2, .cells #[.int .u32 0, .I 0] 58 (0, 0))], [(b3, .cells #[.I s31.2.1, .I s31.2.2.1, .I s31.2.2.2.1, .I s31.t4.1, .I s31.t4.2] 157 (0, 0))]]) ?_ (fun hk31 => ?_)
    ·rintro ρ31 τ31 gs31 ⟨s31, h, hl31, hρ, rfl⟩
     refine st_es hρ ?_
     refine Z 2 rfl ?_
     refine o_indexA rfl rfl rfl z_arr157 rfl rfl (by decide) (by decide) ?_
     refine ZZ 1 [2] rfl rfl ?_
     obtain ⟨r32, hr33, h⟩ := h
     refine st_call (foot := []) rfl rfl rfl rfl rfl rfl (callV_fn z_en88 (conf_start_ok hr33 τ31)) ?_
     rintro vτ34 τ34 gsτ34 hl35 ⟨rfl, rfl⟩
     refine Z 8 rfl ?_
     refine o_indexA rfl rfl rfl z_arr157 rfl rfl (by decide) (by decide) ?_
     refine ZZ 1 [2] rfl rfl ?_
     obtain ⟨r36, hr37, h⟩ := h
     refine st_call (foot := []) rfl rfl rfl rfl rfl rfl (callV_fn z_en88 (conf_start_ok hr37 τ34)) ?_
     rintro vτ38 τ38 gsτ38 hl39 ⟨rfl, rfl⟩
     refine Z 7 rfl ?_
     refine st_d42 [[(b1, .cells #[.I 0, .I 0, .int .u32 0] 56 (0, 0))], [(b2, .cells #[.int .u32 0, .I 0] 58 (0, 0))], [(b3, .cells #[.I s31.2.1, .I s31.2.2.1, .I s31.2.2.2.1, .I s31.t4.1, .I s31.t4.2] 157 (0, 0))]] [] [] 13 2 1 [none, none, none, none, none, none, none, none, none, none, some (0, 0), some (1, 0), some (0, 1)] [none, none, none, none, none, none, none, none, none, none, none, none, none] [[none, some 15, some 15], [none, some 16]] [.v (.Pb b3), .v (.I s31.2.1), .v (.pointer (some ⟨b3, 1, none⟩)), .v (.I s31.2.2.1), .v (.int .u32 r32.1), .v (.agg #[.I s31.2.1, .I s31.2.2.1, .int .u32 r32.1]), .v (.int .u32 r36.1), .v (.pointer (some ⟨b3, 4, none⟩)), .v (.I s31.t4.2), .v (.agg #[.int .u32 r36.1, .I s31.t4.2]), .t fun _ _ => True, .t fun _ _ => True, .t fun _ _ => True] [[fun τ u F => F = [], fun τ u F => ∃ (b41 : Nat), F = [[(b41, .cells #[.I 0, .I 0, .int .u32 0] 56 (0, 0))]] ∧ .Pb b41 = u, fun τ u F => ∃ (b44 : Nat), F = [[(b44, .cells #[.I s31.2.1, .I s31.2.2.1, .int .u32 r32.1] 56 (0, 0))]] ∧ .Pb b44 = u], [fun τ u F => F = [], fun τ u F => ∃ (b43 : Nat), F = [[(b43, .cells #[.int .u32 0, .I 0] 58 (0, 0))]] ∧ .Pb b43 = u]] rfl z_mix rfl ⟨fun _ _ _ _ _ => trivial, ⟨fun _ _ _ _ _ => trivial, ⟨fun _ _ _ _ _ => trivial, trivial⟩⟩⟩ ⟨⟨fun _ _ _ _ hl h => h, ⟨fun _ _ _ _ hl h => (let ⟨b41, hF, hU⟩ := h; ⟨b41, hF, hU⟩), ⟨fun _ _ _ _ hl h => (let ⟨b44, hF, hU⟩ := h; ⟨b44, hF, hU⟩), trivial⟩⟩⟩, ⟨⟨fun _ _ _ _ hl h => h, ⟨fun _ _ _ _ hl h => (let ⟨b43, hF, hU⟩ := h; ⟨b43, hF, hU⟩), trivial⟩⟩, trivial⟩⟩ rfl rfl ?_ ?_ (allB_cons (allB_cons (allB_cons (allB_cons (allB_cons (allB_cons (allB_cons (allB_cons (allB_cons (allB_cons (allB_cons (allB_cons (allB_cons allB_nil ?_) ?_) ?_) ?_) (p4 dA)) ?_) (p4 dA)) ?_) ?_) ?_) ?_) ?_) ?_) ?_
     ·exact rfl
     ·exact rfl
     ·intro ρ' τ pool rs hl hd hout hw hk
      refine o_indexA rfl rfl rfl z_arr157 ((hout 5 rfl).trans rfl) rfl (by decide) (by decide) ?_
      exact hk _ _ (Sto.Le.refl _) rfl
     ·intro ρ' τ pool rs hl hd hout hw hk
      obtain ⟨_, e0, rfl⟩ := hd 0 rfl _ rfl
      refine o_load (j := 2) (v := .I s31.2.1) rfl rfl rfl z_sc3 e0 rfl rfl ?_
      exact hk _ _ (Sto.Le.refl _) rfl
     ·intro ρ' τ pool rs hl hd hout hw hk
      refine o_indexA rfl rfl rfl z_arr157 ((hout 5 rfl).trans rfl) rfl (by decide) (by decide) ?_
      exact hk _ _ (Sto.Le.refl _) rfl
     ·intro ρ' τ pool rs hl hd hout hw hk
      obtain ⟨_, e2, rfl⟩ := hd 2 rfl _ rfl
      refine o_load (j := 2) (v := .I s31.2.2.1) rfl rfl rfl z_sc3 e2 rfl rfl ?_
      exact hk _ _ (Sto.Le.refl _) rfl
     ·intro ρ' τ pool rs hl hd hout hw hk
      obtain ⟨_, e1, rfl⟩ := hd 1 rfl _ rfl
      obtain ⟨_, e3, rfl⟩ := hd 3 rfl _ rfl
      obtain ⟨_, e4, rfl⟩ := hd 4 rfl _ rfl
      refine o_build (ps := [(0, [.I s31.2.1]), (1, [.I s31.2.2.1]), (2, [.int .u32 r32.1])]) (cs := [.I s31.2.1, .I s31.2.2.1, .int .u32 r32.1]) rfl rfl rfl z_struct56 ⟨rfl, ⟨_, e1, rfl⟩, ⟨rfl, ⟨_, e3, rfl⟩, ⟨rfl, ⟨_, e4, rfl⟩, trivial⟩⟩⟩ rfl ?_
      exact hk _ _ (Sto.Le.refl _) rfl
     ·intro ρ' τ pool rs hl hd hout hw hk
      refine o_indexA rfl rfl rfl z_arr157 ((hout 5 rfl).trans rfl) rfl (by decide) (by decide) ?_
      exact hk _ _ (Sto.Le.refl _) rfl
     ·intro ρ' τ pool rs hl hd hout hw hk
      obtain ⟨_, e7, rfl⟩ := hd 7 rfl _ rfl
      refine o_load (j := 2) (v := .I s31.t4.2) rfl rfl rfl z_sc3 e7 rfl rfl ?_
      exact hk _ _ (Sto.Le.refl _) rfl
     ·intro ρ' τ pool rs hl hd hout hw hk
      obtain ⟨_, e6, rfl⟩ := hd 6 rfl _ rfl
      obtain ⟨_, e8, rfl⟩ := hd 8 rfl _ rfl
      refine o_build (ps := [(0, [.int .u32 r36.1]), (1, [.I s31.t4.2])]) (cs := [.int .u32 r36.1, .I s31.t4.2]) rfl rfl rfl z_struct58 ⟨rfl, ⟨_, e6, rfl⟩, ⟨rfl, ⟨_, e8, rfl⟩, trivial⟩⟩ rfl ?_
      exact hk _ _ (Sto.Le.refl _) rfl
     ·intro ρ' τ u Fv pool rs hl hI hu hd hout hw hk
      have hI0 := hI
      obtain rfl := hI
      refine o_alloc rfl rfl rfl z_zero56 (fun b40 => ?_)
      refine st_ord [1, 1, 1, 0, 0] _ rfl ?_
      exact hk _ _ [[(b40, .cells #[.I 0, .I 0, .int .u32 0] 56 (0, 0))]] (Sto.Le.refl _) trivial (by exact ⟨b40, rfl, rfl⟩)
     ·intro ρ' τ u Fv pool rs hl hI hu hd hout hw hk
      have hI0 := hI
      obtain rfl := hI
      refine o_alloc rfl rfl rfl z_zero58 (fun b42 => ?_)
      refine st_ord [1, 1, 1, 0, 0] _ rfl ?_
      exact hk _ _ [[(b42, .cells #[.int .u32 0, .I 0] 58 (0, 0))]] (Sto.Le.refl _) trivial (by exact ⟨b42, rfl, rfl⟩)
     ·intro ρ' τ u Fv pool rs hl hI hu hd hout hw hk
      obtain ⟨_, e5, rfl⟩ := hd 5 rfl _ rfl
      obtain ⟨b41, rfl, rfl⟩ := hI
      refine o_store (j := 3) (vs := [.I s31.2.1, .I s31.2.2.1, .int .u32 r32.1]) (cs' := [.I s31.2.1, .I s31.2.2.1, .int .u32 r32.1]) rfl rfl rfl z_size56 (hu (by decide) _ rfl) e5 rfl (ones_cons rfl (ones_cons rfl (ones_cons rfl ones_nil))) rfl rfl rfl ?_
      exact hk _ _ [[(b41, .cells #[.I s31.2.1, .I s31.2.2.1, .int .u32 r32.1] 56 (0, 0))]] (Sto.Le.refl _) trivial (by exact ⟨b41, rfl, rfl⟩)
     intro ρ' τ45 vals u u1 Fv Fv1 hl45 hI hu hI1 hu1 hv hout
     obtain ⟨b44, rfl, rfl⟩ := hI
     obtain ⟨b43, rfl, rfl⟩ := hI1
     refine st_env (ρ' := [(74, .agg #[.int .u32 r36.1, .I s31.t4.2]), (2, .Pb b1), (3, .Pb b2), (4, .I 0), (9, .I s31.1), (12, .bool r32.2), (14, .bool r36.2), (15, .Pb b44), (16, .Pb b43)]) ⟨(lv4 hv 9 rfl rfl rfl), (hout 2 rfl).trans rfl, (hout 3 rfl).trans rfl, (hout 4 rfl).trans rfl, (hout 9 rfl).trans rfl, (hout 12 rfl).trans rfl, (hout 14 rfl).trans rfl, (by exact hu _ rfl), (by exact hu1 _ rfl), trivial⟩ ?_
     refine ZZ 3 [4] rfl rfl ?_
     refine st_cut (fun ρ τ46 gs => ∃ (s46 : Int), conf_Parse_j4 s31 r32 r36 s46 r ∧ τ45.Le τ46 ∧ ESub ρ [(2, .Pb b1), (3, .Pb b2), (4, .I 0), (9, .I s46), (15, .Pb b44), (16, .Pb b43)] ∧ gs = [[(b1, .cells #[.I 0, .I 0, .int .u32 0] 56 (0, 0))], [(b2, .cells #[.int .u32 0, .I 0] 58 (0, 0))], [(b44, .cells #[.I s31.2.1, .I s31.2.2.1, .int .u32 r32.1] 56 (0, 0))], [(b43, .cells #[.int .u32 r36.1, .I s31.t4.2] 58 (0, 0))]]) ?_ (fun hk46 => ?_)
     ·rintro ρ46 τ46 gs46 ⟨s46, h, hl46, hρ, rfl⟩
      refine st_es hρ ?_
      refine Z 6 rfl ?_
      refine st_if rfl h (fun h => ?_) (fun h => ?_)
      ·refine ZZ 9 [0, 1] rfl rfl ?_
       obtain rfl := Eq.symm h
       exact st_retC (gs' := []) [.agg #[.I 0, .I 0, .int .u32 0], .agg #[.int .u32 0, .I 0], .I s46] Tryz.func49 ⟨⟨_, _, _, _, rfl, mem_flat 0 rfl, fun w hw => cellOfN (vs := [.I 0, .I 0, .int .u32 0]) z_agg56 rfl w hw⟩, ⟨_, _, _, _, rfl, mem_flat 1 rfl, fun w hw => cellOfN (vs := [.int .u32 0, .I 0]) z_agg58 rfl w hw⟩, rfl, trivial⟩ (by simp) (((((((hl8.trans hl26).trans hl30).trans hl31).trans hl35).trans hl39).trans hl45).trans hl46) ⟨rfl, rfl⟩
      ·refine Z 2 rfl ?_
       refine st_ord [1, 1, 1, 0] _ rfl ?_
       refine st_d41 [[(b2, .cells #[.int .u32 0, .I 0] 58 (0, 0))], [(b44, .cells #[.I s31.2.1, .I s31.2.2.1, .int .u32 r32.1] 56 (0, 0))], [(b43, .cells #[.int .u32 r36.1, .I s31.t4.2] 58 (0, 0))]] [[(b1, .cells #[.I 0, .I 0, .int .u32 0] 56 (0, 0))]] 3 1 [none, none, some (0, 0)] [none, none, none] [[none, none]] [.v (.agg #[.I s31.2.1, .I s31.2.2.1, .int .u32 r32.1]), .v (.agg #[.int .u32 r36.1, .I s31.t4.2]), .t fun _ _ => True] [[fun τ u F => F = [[(b1, .cells #[.I 0, .I 0, .int .u32 0] 56 (0, 0))]], fun τ u F => F = [[(b1, .cells #[.I s31.2.1, .I s31.2.2.1, .int .u32 r32.1] 56 (0, 0))]]]] rfl z_mix rfl ⟨fun _ _ _ _ _ => trivial, trivial⟩ ⟨⟨fun _ _ _ _ hl h => h, ⟨fun _ _ _ _ hl h => h, trivial⟩⟩, trivial⟩ rfl rfl ?_ (allB_cons (allB_cons (allB_cons allB_nil ?_) ?_) ?_) ?_
       ·exact rfl
       ·intro ρ' τ pool rs hl hd hout hw hk
        refine o_loadN (j := 1) (vs := [.I s31.2.1, .I s31.2.2.1, .int .u32 r32.1]) rfl rfl rfl z_agg56 ((hout 15 rfl).trans rfl) rfl rfl ?_
        exact hk _ _ (Sto.Le.refl _) rfl
       ·intro ρ' τ pool rs hl hd hout hw hk
        refine o_loadN (j := 2) (vs := [.int .u32 r36.1, .I s31.t4.2]) rfl rfl rfl z_agg58 ((hout 16 rfl).trans rfl) rfl rfl ?_
        exact hk _ _ (Sto.Le.refl _) rfl
       ·intro ρ' τ u Fv pool rs hl hI hu hd hout hw hk
        obtain ⟨_, e0, rfl⟩ := hd 0 rfl _ rfl
        have hI0 := hI
        obtain rfl := hI
        refine o_store (j := 3) (vs := [.I s31.2.1, .I s31.2.2.1, .int .u32 r32.1]) (cs' := [.I s31.2.1, .I s31.2.2.1, .int .u32 r32.1]) rfl rfl rfl z_size56 ((hout 2 rfl).trans rfl) e0 rfl (ones_cons rfl (ones_cons rfl (ones_cons rfl ones_nil))) rfl rfl rfl ?_
        exact hk _ _ [[(b1, .cells #[.I s31.2.1, .I s31.2.2.1, .int .u32 r32.1] 56 (0, 0))]] (Sto.Le.refl _) trivial (by exact rfl)
       intro ρ' τ47 vals u Fv hl47 hI hu hv hout
       obtain rfl := hI
       refine st_env (ρ' := [(97, .agg #[.int .u32 r36.1, .I s31.t4.2]), (2, .Pb b1), (3, .Pb b2), (4, .I 0)]) ⟨(lv4 hv 1 rfl rfl rfl), (hout 2 rfl).trans rfl, (hout 3 rfl).trans rfl, (hout 4 rfl).trans rfl, trivial⟩ ?_
       refine ZZ 3 [0] rfl rfl ?_
       obtain rfl := Eq.symm h
       exact st_retC (gs' := []) [.agg #[.I s31.2.1, .I s31.2.2.1, .int .u32 r32.1], .agg #[.int .u32 r36.1, .I s31.t4.2], .I 0] Tryz.func49 ⟨⟨_, _, _, _, rfl, mem_flat 3 rfl, fun w hw => cellOfN (vs := [.I s31.2.1, .I s31.2.2.1, .int .u32 r32.1]) z_agg56 rfl w hw⟩, ⟨_, _, _, _, rfl, mem_flat 0 rfl, fun w hw => cellOfN (vs := [.int .u32 r36.1, .I s31.t4.2]) z_agg58 rfl w hw⟩, rfl, trivial⟩ (by simp) ((((((((hl8.trans hl26).trans hl30).trans hl31).trans hl35).trans hl39).trans hl45).trans hl46).trans hl47) ⟨rfl, rfl⟩
     refine Z 7 rfl ?_
     refine st_if rfl h (fun h => ?_) (fun h => ?_)
     ·refine Z 2 rfl ?_
      refine st_ord [0, 0, 1, 1] _ rfl ?_
      exact hk46 _ _ _ ⟨s31.1, h, (Sto.Le.refl _), rfl, rfl⟩
     ·refine st_seq ?_
      refine st_cut (fun ρ τ48 gs => ∃ (s48 : Bool), conf_Parse_j5 s31 r32 r36 s48 r ∧ τ45.Le τ48 ∧ ESub ρ [(2, .Pb b1), (3, .Pb b2), (4, .I 0), (15, .Pb b44), (16, .Pb b43), (84, .bool s48)] ∧ gs = [[(b1, .cells #[.I 0, .I 0, .int .u32 0] 56 (0, 0))], [(b2, .cells #[.int .u32 0, .I 0] 58 (0, 0))], [(b44, .cells #[.I s31.2.1, .I s31.2.2.1, .int .u32 r32.1] 56 (0, 0))], [(b43, .cells #[.int .u32 r36.1, .I s31.t4.2] 58 (0, 0))]]) ?_ (fun hk48 => ?_)
      ·rintro ρ48 τ48 gs48 ⟨s48, h, hl48, hρ, rfl⟩
       refine st_es hρ ?_
       refine st_if rfl h (fun h => ?_) (fun h => ?_)
       ·refine Z 4 rfl ?_
        exact hk46 _ _ _ ⟨5, h, hl48, rfl, rfl⟩
       ·refine ZZ 3 [2] rfl rfl ?_
        obtain ⟨r49, hr50, h⟩ := h
        refine st_call (foot := []) rfl rfl rfl rfl rfl rfl (callV_fn z_en55 (conf_CheckSender_ok hr50 τ48)) ?_
        rintro vτ51 τ51 gsτ51 hl52 ⟨rfl, rfl⟩
        refine Z 7 rfl ?_
        refine st_if rfl h (fun h => ?_) (fun h => ?_)
        ·refine ZZ 2 [3] rfl rfl ?_
         obtain ⟨r53, hr54, h⟩ := h
         refine st_call (foot := []) rfl rfl rfl rfl rfl rfl (callV_fn z_en56 (conf_CheckReceiver_ok hr54 τ51)) ?_
         rintro vτ55 τ55 gsτ55 hl56 ⟨rfl, rfl⟩
         refine Z 3 rfl ?_
         exact hk46 _ _ _ ⟨r53, h, ((hl48.trans hl52).trans hl56), rfl, rfl⟩
        ·refine Z 2 rfl ?_
         exact hk46 _ _ _ ⟨r49, h, (hl48.trans hl52), rfl, rfl⟩
      refine Z 3 rfl ?_
      refine o_mif rfl rfl rfl rfl h (fun h => ?_) (fun h => ?_)
      ·refine Z 5 rfl ?_
       refine st_ord [0, 0, 1, 1] _ rfl ?_
       exact hk48 _ _ _ ⟨true, h, (Sto.Le.refl _), rfl, rfl⟩
      ·refine Z 5 rfl ?_
       refine st_ord [0, 0, 1, 1] _ rfl ?_
       exact hk48 _ _ _ ⟨(!r36.2), h, (Sto.Le.refl _), rfl, rfl⟩
    refine Z 4 rfl ?_
    obtain ⟨e57, hL57, hA57⟩ := h
    refine st_loop hL57 (fun (s57 : Int × Int × Int × Int × Int × Int × Int) ρ τ57 gs => τ30.Le τ57 ∧ ESub ρ [(2, .Pb b1), (3, .Pb b2), (4, .I 0), (5, .Pb b3), (6, .Pb b4), (9, .I s57.1), (36, .I s57.2.1)] ∧ gs = [[(b1, .cells #[.I 0, .I 0, .int .u32 0] 56 (0, 0))], [(b2, .cells #[.int .u32 0, .I 0] 58 (0, 0))], [(b3, .cells #[.I s57.2.2.1, .I s57.2.2.2.1, .I s57.t4.1, .I s57.t4.2.1, .I s57.t4.2.2] 157 (0, 0))], [(b4, .cells #[v27] 67 (0, 0))], g28]) ⟨Sto.Le.refl _, rfl, rfl⟩ ?_
    rintro s57 o57 h he57 ρ57 τ57 gs57 ⟨hl57, hρ, rfl⟩ hn57
    refine st_es hρ ?_
    refine Z 5 rfl ?_
    refine st_if rfl h (fun h => ?_) (fun h => ?_)
    ·refine ZZ 14 [3] rfl rfl ?_
     obtain ⟨q58, hf59, h⟩ := h
     refine o_indexOw rfl rfl rfl z_slT67 rfl rfl (ho29.up (hl30.trans hl57)) rfl hf59 (fun b60 hb61 => ?_)
     obtain ⟨vs62, hrep63, hat64⟩ := Ow.at (ho29.up (hl30.trans hl57)) hb61 hf59
     obtain rfl := hrep63
     refine o_loadOw (off := 0) (j := 4) (v := .string q58) rfl rfl rfl z_sc9 rfl hat64 rfl rfl ?_
     obtain ⟨r65, hr66, h⟩ := h
     refine st_call (foot := []) rfl rfl rfl rfl rfl rfl (callV_fn z_en87 (say_Read_ok hr66 τ57 (hE.up (((hl8.trans hl26).trans hl30).trans hl57)))) ?_
     rintro vτ67 τ67 gsτ67 hl68 ⟨rfl, rfl⟩
     refine Z 3 rfl ?_
     obtain ⟨hf69, hf70, h⟩ := h
     refine o_indexA rfl rfl rfl z_arr157 rfl rfl hf69 hf70 ?_
     refine o_storeV (j := 2) (s57.2.1.toNat) (f := (Value.int .i64)) (zz := 0) (a := r65.1) (l := 5) (xs := [s57.2.2.1, s57.2.2.2.1, s57.t4.1, s57.t4.2.1, s57.t4.2.2]) [] [] rfl rfl rfl z_size3 rfl rfl rfl rfl rfl (by simp only [List.length_cons, List.length_nil] <;> omega) (by omega) ?_
     refine Z 7 rfl ?_
     refine st_if rfl h (fun h => ?_) (fun h => ?_)
     ·refine st_exit rfl ?_
      obtain rfl := he57 _ h
      replace h := hA57
      refine st_ord [0, 0, 0] _ rfl ?_
      exact hk31 _ _ _ ⟨(r65.2, ((putN 5 0 [s57.2.2.1, s57.2.2.2.1, s57.t4.1, s57.t4.2.1, s57.t4.2.2] s57.2.1.toNat r65.1).getD 0 0), ((putN 5 0 [s57.2.2.1, s57.2.2.2.1, s57.t4.1, s57.t4.2.1, s57.t4.2.2] s57.2.1.toNat r65.1).getD 1 0), ((putN 5 0 [s57.2.2.1, s57.2.2.2.1, s57.t4.1, s57.t4.2.1, s57.t4.2.2] s57.2.1.toNat r65.1).getD 2 0), ((putN 5 0 [s57.2.2.1, s57.2.2.2.1, s57.t4.1, s57.t4.2.1, s57.t4.2.2] s57.2.1.toNat r65.1).getD 3 0), ((putN 5 0 [s57.2.2.1, s57.2.2.2.1, s57.t4.1, s57.t4.2.1, s57.t4.2.2] s57.2.1.toNat r65.1).getD 4 0)), h, (hl57.trans hl68), rfl, rfl⟩
     ·refine Z 6 rfl ?_
      exact hn57 _ _ _ _ h ⟨(hl57.trans hl68), rfl, rfl⟩
    ·refine st_exit rfl ?_
     obtain rfl := he57 _ h
     replace h := hA57
     refine st_ord [0, 0, 0] _ rfl ?_
     exact hk31 _ _ _ ⟨(s57.1, s57.2.2.1, s57.2.2.2.1, s57.t4.1, s57.t4.2.1, s57.t4.2.2), h, hl57, rfl, rfl⟩
  refine ZZ 2 [3] rfl rfl ?_
  refine o_lenO rfl rfl rfl z_slT67 rfl ho29 ?_
  refine o_ibin (v := .bool (!(decide ((p24.length : Int) = 6)))) rfl rfl rfl rfl rfl rfl ?_
  refine o_mif rfl rfl rfl rfl h (fun h => ?_) (fun h => ?_)
  ·refine Z 6 rfl ?_
   exact hk30 _ _ _ ⟨true, h, (Sto.Le.refl _), rfl, rfl⟩
  ·refine ZZ 1 [3] rfl rfl ?_
   obtain ⟨q72, hf73, h⟩ := h
   refine o_indexOw rfl rfl rfl z_slT67 rfl rfl ho29 rfl hf73 (fun b74 hb75 => ?_)
   obtain ⟨vs76, hrep77, hat78⟩ := Ow.at ho29 hb75 hf73
   obtain rfl := hrep77
   refine o_loadOw (off := 0) (j := 4) (v := .string q72) rfl rfl rfl z_sc9 rfl hat78 rfl rfl ?_
   refine o_sbin (v := .bool (!(decide (q72 = (bstr [108, 105, 110, 107]))))) rfl rfl rfl rfl (ev_str z_str41) rfl ?_
   refine Z 2 rfl ?_
   exact hk30 _ _ _ ⟨(!(decide (q72 = (bstr [108, 105, 110, 107])))), h, (Sto.Le.refl _), rfl, rfl⟩
 ·exact fun _ _ _ _ _ _ _ h => h.elim
theorem strings_HasSuffix_ok {a0 : ByteArray} {a1 : ByteArray} {r : Bool} (h : strings_HasSuffix a0 a1 r) (σ : Sto)  :
    Does Tryz.prog 50 [.string a0, .string a1] σ [] (fun v τ gs => gs = [] ∧ .bool r = v) := by
 refine call_of Tryz.func50 Tryz.ntmps50 rfl rfl (fun cs fs => ?_)
 refine Z 8 rfl ?_
 obtain ⟨r1, hr2, h⟩ := h
 refine st_call (foot := []) rfl rfl rfl rfl rfl rfl (callV_fn z_en89 (internal_stringslite_HasSuffix_ok hr2 σ)) ?_
 rintro vτ3 τ3 gsτ3 hl4 ⟨rfl, rfl⟩
 refine Z 2 rfl ?_
 obtain rfl := Eq.symm h
 exact st_ret (gs' := []) Tryz.func50 rfl (List.Sublist.refl _) hl4 ⟨rfl, rfl⟩
theorem script_Read_ok {a0 : ByteArray} {r : (Int × Int × Int) × (Int × Int) × (List (TyS)) × Int × Int} (h : script_Read a0 r) (σ : Sto) (hT : Tab Tryz.prog σ) (hE : Errs Tryz.prog σ) :
    Does Tryz.prog 18 [.string a0] σ [] (fun v τ gs => ∃ (v78 : Value), gs = [] ∧ .tuple [.agg [.I r.1.1, .I r.1.2.1, .int .u32 r.1.2.2].toArray, .agg [.int .u32 r.2.1.1, .I r.2.1.2].toArray, v78, .I r.2.2.2.1, .I r.t4].toArray = v ∧ Sl (kP (kI .i64) (kP (kP (kI .i64) (kP (kA .i64 6) (kP (kSl (kP (kI .i64) (kI .i64))) (kP (kSl (kI .i64)) (kP kS kS))))) (kP (kP (kI .i64) (kP (kI .i64) (kP (kI .i64) (kP (kI .i64) (kSl (kI .u8)))))) (kSl (kI .i64))))) τ v78 r.2.2.1) := by
 refine call_of Tryz.func18 Tryz.ntmps18 rfl rfl (fun cs fs => ?_)
 refine Z 2 rfl ?_
 refine o_alloc rfl rfl rfl z_zero56 (fun b1 => ?_)
 refine o_alloc rfl rfl rfl z_zero58 (fun b2 => ?_)
 refine Z 7 rfl ?_
 refine o_alloc rfl rfl rfl z_zero56 (fun b3 => ?_)
 refine Z 3 rfl ?_
 refine o_alloc rfl rfl rfl z_zero58 (fun b4 => ?_)
 refine Z 3 rfl ?_
 refine o_alloc rfl rfl rfl z_zero59 (fun b5 => ?_)
 refine Z 3 rfl ?_
 refine o_alloc rfl rfl rfl z_zero3 (fun b6 => ?_)
 refine o_alloc rfl rfl rfl z_zero32 (fun b7 => ?_)
 refine ZZ 6 [1, 0] rfl rfl ?_
 refine st_cut (fun ρ τ8 gs => ∃ (s8 : Int × Int × Int × Int × Int × (List (TyS)) × Int × Int) (v9 : Value) (g10 : Grp), script_Read_j1 a0 s8 r ∧ σ.Le τ8 ∧ ESub ρ [(0, .string a0), (2, .Pb b1), (3, .Pb b2), (4, .N0), (5, .I 0), (6, .I 0), (7, .Pb b3), (8, .Pb b4), (9, .Pb b5), (10, .Pb b6), (11, .Pb b7)] ∧ gs = [[(b1, .cells #[.I 0, .I 0, .int .u32 0] 56 (0, 0))], [(b2, .cells #[.int .u32 0, .I 0] 58 (0, 0))], [(b3, .cells #[.I s8.1, .I s8.2.1, .int .u32 s8.2.2.1] 56 (0, 0))], [(b4, .cells #[.int .u32 s8.2.2.2.1, .I s8.t4.1] 58 (0, 0))], [(b5, .cells #[v9] 59 (0, 0))], [(b6, .cells #[.I s8.t4.2.2.1] 3 (0, 0))], [(b7, .cells #[.I s8.t4.2.2.2] 32 (0, 0))], g10] ∧ Ow (kP (kI .i64) (kP (kP (kI .i64) (kP (kA .i64 6) (kP (kSl (kP (kI .i64) (kI .i64))) (kP (kSl (kI .i64)) (kP kS kS))))) (kP (kP (kI .i64) (kP (kI .i64) (kP (kI .i64) (kP (kI .i64) (kSl (kI .u8)))))) (kSl (kI .i64))))) 31 τ8 v9 s8.t4.2.1 g10) ?_ (fun hk8 => ?_)
 ·rintro ρ8 τ8 gs8 ⟨s8, v9, g10, h, hl8, hρ, rfl, ho11⟩
  refine st_es hρ ?_
  refine st_seq ?_
  refine st_cut (fun ρ τ12 gs => ∃ (s12 : Int), script_Read_j2 s8 s12 r ∧ τ8.Le τ12 ∧ ESub ρ [(2, .Pb b1), (3, .Pb b2), (4, .N0), (5, .I 0), (6, .I 0), (7, .Pb b3), (8, .Pb b4), (9, .Pb b5), (10, .Pb b6), (11, .Pb b7)] ∧ gs = [[(b1, .cells #[.I 0, .I 0, .int .u32 0] 56 (0, 0))], [(b2, .cells #[.int .u32 0, .I 0] 58 (0, 0))], [(b3, .cells #[.I s8.1, .I s8.2.1, .int .u32 s8.2.2.1] 56 (0, 0))], [(b4, .cells #[.int .u32 s8.2.2.2.1, .I s8.t4.1] 58 (0, 0))], [(b5, .cells #[v9] 59 (0, 0))], [(b6, .cells #[.I s8.t4.2.2.1] 3 (0, 0))], [(b7, .cells #[.I s12] 32 (0, 0))], g10]) ?_ (fun hk12 => ?_)
  ·rintro ρ12 τ12 gs12 ⟨s12, h, hl12, hρ, rfl⟩
   refine st_es hρ ?_
   refine ZZ 6 [6] rfl rfl ?_
   refine st_if rfl h (fun h => ?_) (fun h => ?_)
   ·refine st_seq ?_
    refine st_d40 8 [.v (.agg #[.I 0, .I 0, .int .u32 0]), .v (.agg #[.int .u32 0, .I 0]), .v (.I s8.t4.2.2.1), .v (.I s12), .t fun _ _ => True, .t fun _ _ => True, .v (.N0), .v (.I s8.t4.2.2.1)] z_mix rfl ⟨fun _ _ _ _ _ => trivial, ⟨fun _ _ _ _ _ => trivial, trivial⟩⟩ (allB_cons (allB_cons (allB_cons (allB_cons (allB_cons (allB_cons (allB_cons (allB_cons allB_nil ?_) ?_) ?_) ?_) ?_) ?_) (p4 dA)) (p4 dA)) ?_
    ·intro ρ' τ pool rs hl hd hout hw hk
     refine ZZ 1 [] rfl rfl ?_
     exact hk _ _ (Sto.Le.refl _) rfl
    ·intro ρ' τ pool rs hl hd hout hw hk
     refine ZZ 1 [] rfl rfl ?_
     exact hk _ _ (Sto.Le.refl _) rfl
    ·intro ρ' τ pool rs hl hd hout hw hk
     refine o_load (j := 5) (v := .I s8.t4.2.2.1) rfl rfl rfl z_sc3 ((hout 10 rfl).trans rfl) rfl rfl ?_
     exact hk _ _ (Sto.Le.refl _) rfl
    ·intro ρ' τ pool rs hl hd hout hw hk
     refine o_load (j := 6) (v := .I s12) rfl rfl rfl z_sc32 ((hout 11 rfl).trans rfl) rfl rfl ?_
     exact hk _ _ (Sto.Le.refl _) rfl
    ·intro ρ' τ pool rs hl hd hout hw hk
     obtain ⟨_, e0, rfl⟩ := hd 0 rfl _ rfl
     refine o_store (j := 0) (vs := [.I 0, .I 0, .int .u32 0]) (cs' := [.I 0, .I 0, .int .u32 0]) rfl rfl rfl z_size56 ((hout 2 rfl).trans rfl) e0 rfl (ones_cons rfl (ones_cons rfl (ones_cons rfl ones_nil))) rfl rfl rfl ?_
     exact hk _ _ (Sto.Le.refl _) trivial
    ·intro ρ' τ pool rs hl hd hout hw hk
     obtain ⟨_, e1, rfl⟩ := hd 1 rfl _ rfl
     refine o_store (j := 1) (vs := [.int .u32 0, .I 0]) (cs' := [.int .u32 0, .I 0]) rfl rfl rfl z_size58 ((hout 3 rfl).trans rfl) e1 rfl (ones_cons rfl (ones_cons rfl ones_nil)) rfl rfl rfl ?_
     exact hk _ _ (Sto.Le.refl _) trivial
    intro ρ' τ13 vals hl13 hv hout
    refine st_env (ρ' := [(58, .I s12), (4, .N0), (5, .I s8.t4.2.2.1), (2, .Pb b1), (3, .Pb b2), (6, .I 0), (7, .Pb b3), (8, .Pb b4), (9, .Pb b5)]) ⟨(lv4 hv 3 rfl rfl rfl), (lv4 hv 6 rfl rfl rfl), (lv4 hv 7 rfl rfl rfl), (hout 2 rfl).trans rfl, (hout 3 rfl).trans rfl, (hout 6 rfl).trans rfl, (hout 7 rfl).trans rfl, (hout 8 rfl).trans rfl, (hout 9 rfl).trans rfl, trivial⟩ ?_
    refine Z 2 rfl ?_
    obtain rfl := Eq.symm h
    exact st_retC (gs' := []) [.agg #[.I 0, .I 0, .int .u32 0], .agg #[.int .u32 0, .I 0], .N0, .I s8.t4.2.2.1, .I s12] Tryz.func18 ⟨⟨_, _, _, _, rfl, mem_flat 0 rfl, fun w hw => cellOfN (vs := [.I 0, .I 0, .int .u32 0]) z_agg56 rfl w hw⟩, ⟨_, _, _, _, rfl, mem_flat 1 rfl, fun w hw => cellOfN (vs := [.int .u32 0, .I 0]) z_agg58 rfl w hw⟩, rfl, rfl, rfl, trivial⟩ (by simp) ((hl8.trans hl12).trans hl13) ⟨_, rfl, rfl, Sl.nil⟩
   ·refine Z 2 rfl ?_
    refine st_ord [2, 2, 2, 2, 2, 2, 0, 0] _ rfl ?_
    refine st_d42 [[(b3, .cells #[.I s8.1, .I s8.2.1, .int .u32 s8.2.2.1] 56 (0, 0))], [(b4, .cells #[.int .u32 s8.2.2.2.1, .I s8.t4.1] 58 (0, 0))], [(b5, .cells #[v9] 59 (0, 0))], [(b6, .cells #[.I s8.t4.2.2.1] 3 (0, 0))], [(b7, .cells #[.I s12] 32 (0, 0))], g10] [[(b1, .cells #[.I 0, .I 0, .int .u32 0] 56 (0, 0))]] [[(b2, .cells #[.int .u32 0, .I 0] 58 (0, 0))]] 5 1 1 [none, none, none, some (0, 0), some (1, 0)] [none, none, none, none, none] [[none, none], [none, none]] [.v (.agg #[.I s8.1, .I s8.2.1, .int .u32 s8.2.2.1]), .v (.agg #[.int .u32 s8.2.2.2.1, .I s8.t4.1]), .v (v9), .t fun _ _ => True, .t fun _ _ => True] [[fun τ u F => F = [[(b1, .cells #[.I 0, .I 0, .int .u32 0] 56 (0, 0))]], fun τ u F => F = [[(b1, .cells #[.I s8.1, .I s8.2.1, .int .u32 s8.2.2.1] 56 (0, 0))]]], [fun τ u F => F = [[(b2, .cells #[.int .u32 0, .I 0] 58 (0, 0))]], fun τ u F => F = [[(b2, .cells #[.int .u32 s8.2.2.2.1, .I s8.t4.1] 58 (0, 0))]]]] rfl z_mix rfl ⟨fun _ _ _ _ _ => trivial, ⟨fun _ _ _ _ _ => trivial, trivial⟩⟩ ⟨⟨fun _ _ _ _ hl h => h, ⟨fun _ _ _ _ hl h => h, trivial⟩⟩, ⟨⟨fun _ _ _ _ hl h => h, ⟨fun _ _ _ _ hl h => h, trivial⟩⟩, trivial⟩⟩ rfl rfl ?_ ?_ (allB_cons (allB_cons (allB_cons (allB_cons (allB_cons allB_nil ?_) ?_) ?_) ?_) ?_) ?_
    ·exact rfl
    ·exact rfl
    ·intro ρ' τ pool rs hl hd hout hw hk
     refine o_loadN (j := 0) (vs := [.I s8.1, .I s8.2.1, .int .u32 s8.2.2.1]) rfl rfl rfl z_agg56 ((hout 7 rfl).trans rfl) rfl rfl ?_
     exact hk _ _ (Sto.Le.refl _) rfl
    ·intro ρ' τ pool rs hl hd hout hw hk
     refine o_loadN (j := 1) (vs := [.int .u32 s8.2.2.2.1, .I s8.t4.1]) rfl rfl rfl z_agg58 ((hout 8 rfl).trans rfl) rfl rfl ?_
     exact hk _ _ (Sto.Le.refl _) rfl
    ·intro ρ' τ pool rs hl hd hout hw hk
     refine o_load (j := 2) (v := v9) rfl rfl rfl z_sc59 ((hout 9 rfl).trans rfl) rfl rfl ?_
     exact hk _ _ (Sto.Le.refl _) rfl
    ·intro ρ' τ u Fv pool rs hl hI hu hd hout hw hk
     obtain ⟨_, e0, rfl⟩ := hd 0 rfl _ rfl
     have hI0 := hI
     obtain rfl := hI
     refine o_store (j := 6) (vs := [.I s8.1, .I s8.2.1, .int .u32 s8.2.2.1]) (cs' := [.I s8.1, .I s8.2.1, .int .u32 s8.2.2.1]) rfl rfl rfl z_size56 ((hout 2 rfl).trans rfl) e0 rfl (ones_cons rfl (ones_cons rfl (ones_cons rfl ones_nil))) rfl rfl rfl ?_
     exact hk _ _ [[(b1, .cells #[.I s8.1, .I s8.2.1, .int .u32 s8.2.2.1] 56 (0, 0))]] (Sto.Le.refl _) trivial (by exact rfl)
    ·intro ρ' τ u Fv pool rs hl hI hu hd hout hw hk
     obtain ⟨_, e1, rfl⟩ := hd 1 rfl _ rfl
     have hI0 := hI
     obtain rfl := hI
     refine o_store (j := 6) (vs := [.int .u32 s8.2.2.2.1, .I s8.t4.1]) (cs' := [.int .u32 s8.2.2.2.1, .I s8.t4.1]) rfl rfl rfl z_size58 ((hout 3 rfl).trans rfl) e1 rfl (ones_cons rfl (ones_cons rfl ones_nil)) rfl rfl rfl ?_
     exact hk _ _ [[(b2, .cells #[.int .u32 s8.2.2.2.1, .I s8.t4.1] 58 (0, 0))]] (Sto.Le.refl _) trivial (by exact rfl)
    intro ρ' τ14 vals u u1 Fv Fv1 hl14 hI hu hI1 hu1 hv hout
    obtain rfl := hI
    obtain rfl := hI1
    refine st_env (ρ' := [(61, v9), (2, .Pb b1), (3, .Pb b2), (4, .N0), (5, .I 0), (6, .I 0)]) ⟨(lv4 hv 2 rfl rfl rfl), (hout 2 rfl).trans rfl, (hout 3 rfl).trans rfl, (hout 4 rfl).trans rfl, (hout 5 rfl).trans rfl, (hout 6 rfl).trans rfl, trivial⟩ ?_
    refine Z 4 rfl ?_
    refine st_ord [5, 0, 0, 0, 0, 0, 0, 0] _ rfl ?_
    refine st_freeze (fun τ15 hl16 hg17 => ?_)
    have hs18 := ho11.freeze ((hl12.trans hl14).trans hl16) hg17
    obtain rfl := Eq.symm h
    exact st_retC (gs' := []) [.agg #[.I s8.1, .I s8.2.1, .int .u32 s8.2.2.1], .agg #[.int .u32 s8.2.2.2.1, .I s8.t4.1], v9, .I 0, .I 0] Tryz.func18 ⟨⟨_, _, _, _, rfl, mem_flat 5 rfl, fun w hw => cellOfN (vs := [.I s8.1, .I s8.2.1, .int .u32 s8.2.2.1]) z_agg56 rfl w hw⟩, ⟨_, _, _, _, rfl, mem_flat 6 rfl, fun w hw => cellOfN (vs := [.int .u32 s8.2.2.2.1, .I s8.t4.1]) z_agg58 rfl w hw⟩, rfl, rfl, rfl, trivial⟩ (by simp) (((hl8.trans hl12).trans hl14).trans hl16) ⟨_, rfl, rfl, hs18⟩
  refine st_seq ?_
  refine st_cut (fun ρ τ21 gs => ∃ (s21 : Bool), script_Read_j3 s8 s21 r ∧ τ8.Le τ21 ∧ ESub ρ [(2, .Pb b1), (3, .Pb b2), (4, .N0), (5, .I 0), (6, .I 0), (7, .Pb b3), (8, .Pb b4), (9, .Pb b5), (10, .Pb b6), (11, .Pb b7), (52, .bool s21)] ∧ gs = [[(b1, .cells #[.I 0, .I 0, .int .u32 0] 56 (0, 0))], [(b2, .cells #[.int .u32 0, .I 0] 58 (0, 0))], [(b3, .cells #[.I s8.1, .I s8.2.1, .int .u32 s8.2.2.1] 56 (0, 0))], [(b4, .cells #[.int .u32 s8.2.2.2.1, .I s8.t4.1] 58 (0, 0))], [(b5, .cells #[v9] 59 (0, 0))], [(b6, .cells #[.I s8.t4.2.2.1] 3 (0, 0))], [(b7, .cells #[.I s8.t4.2.2.2] 32 (0, 0))], g10]) ?_ (fun hk21 => ?_)
  ·rintro ρ21 τ21 gs21 ⟨s21, h, hl21, hρ, rfl⟩
   refine st_es hρ ?_
   refine st_if rfl h (fun h => ?_) (fun h => ?_)
   ·refine ZZ 3 [6] rfl rfl ?_
    exact hk12 _ _ _ ⟨4, h, hl21, rfl, rfl⟩
   ·refine st_skip ?_
    exact hk12 _ _ _ ⟨s8.t4.2.2.2, h, hl21, rfl, rfl⟩
  refine ZZ 3 [6] rfl rfl ?_
  refine o_mif rfl rfl rfl rfl h (fun h => ?_) (fun h => ?_)
  ·refine ZZ 2 [5] rfl rfl ?_
   refine o_mif rfl rfl rfl rfl h (fun h => ?_) (fun h => ?_)
   ·refine Z 6 rfl ?_
    exact hk21 _ _ _ ⟨true, h, (Sto.Le.refl _), rfl, rfl⟩
   ·refine o_move rfl rfl rfl rfl ?_
    obtain ⟨r22, hr23, h⟩ := h
    refine st_call (foot := []) rfl rfl rfl rfl (evs_cons rfl (evs_cons (ev_str z_str42) rfl)) rfl (callV_fn z_en50 (strings_HasSuffix_ok hr23 τ8)) ?_
    rintro vτ24 τ24 gsτ24 hl25 ⟨rfl, rfl⟩
    refine Z 4 rfl ?_
    exact hk21 _ _ _ ⟨(!r22), h, hl25, rfl, rfl⟩
  ·refine Z 9 rfl ?_
   exact hk21 _ _ _ ⟨false, h, (Sto.Le.refl _), rfl, rfl⟩
 refine Z 3 rfl ?_
 obtain ⟨r26, hr27, h⟩ := h
 refine st_call (foot := []) rfl rfl rfl rfl rfl rfl (callV_fn z_en21 (script_Lines_ok hr27 σ)) ?_
 rintro vτ28 τ28 gsτ28 hl29 ⟨f30, q31, rfl, rfl, hit32⟩
 refine Z 2 rfl ?_
 obtain ⟨t33, w33, hR33, hA33⟩ := h
 refine st_env (ρ' := [(0, .string a0), (2, .Pb b1), (3, .Pb b2), (4, .N0), (5, .I 0), (6, .I 0), (7, .Pb b3), (8, .Pb b4), (9, .Pb b5), (10, .Pb b6), (11, .Pb b7), (16, .func (.func f30) #[] q31)]) ⟨rfl, rfl, rfl, rfl, rfl, rfl, rfl, rfl, rfl, rfl, rfl, rfl, trivial⟩ ?_
 refine st_addNil ?_
 refine st_ord [7, 6, 5, 4, 3, 2, 1, 0] _ rfl ?_
 refine st_addNil ?_
 refine st_range (B := script_Read_l4) (s0 := (0, 0, 0, 0, 0, [], 0, 0)) ranges_fctx rfl hit32 (Sto.Le.refl _) hR33 rfl (fun _ _ _ h => by cases h; rfl) (fun (s33 : Int × Int × Int × Int × Int × (List (TyS)) × Int × Int) τ33 gs => τ28.Le τ33 ∧ ∃ (v34 : Value) (g35 : Grp), gs = [[(b1, .cells #[.I 0, .I 0, .int .u32 0] 56 (0, 0))], [(b2, .cells #[.int .u32 0, .I 0] 58 (0, 0))], [(b3, .cells #[.I s33.1, .I s33.2.1, .int .u32 s33.2.2.1] 56 (0, 0))], [(b4, .cells #[.int .u32 s33.2.2.2.1, .I s33.t4.1] 58 (0, 0))], [(b5, .cells #[v34] 59 (0, 0))], [(b6, .cells #[.I s33.t4.2.2.1] 3 (0, 0))], [(b7, .cells #[.I s33.t4.2.2.2] 32 (0, 0))], g35] ∧ Ow (kP (kI .i64) (kP (kP (kI .i64) (kP (kA .i64 6) (kP (kSl (kP (kI .i64) (kI .i64))) (kP (kSl (kI .i64)) (kP kS kS))))) (kP (kP (kI .i64) (kP (kI .i64) (kP (kI .i64) (kP (kI .i64) (kSl (kI .u8)))))) (kSl (kI .i64))))) 31 τ33 v34 s33.t4.2.1 g35) (fun (p66 : Int × Int × Int × Int × Int × (List (TyS)) × Int × Int) cd τ67 gs => cd = .exit 0 ∧ τ28.Le τ67 ∧ ∃ (v69 : Value) (g70 : Grp), gs = [[(b1, .cells #[.I 0, .I 0, .int .u32 0] 56 (0, 0))], [(b2, .cells #[.int .u32 0, .I 0] 58 (0, 0))], [(b3, .cells #[.I p66.1, .I p66.2.1, .int .u32 p66.2.2.1] 56 (0, 0))], [(b4, .cells #[.int .u32 p66.2.2.2.1, .I p66.t4.1] 58 (0, 0))], [(b5, .cells #[v69] 59 (0, 0))], [(b6, .cells #[.I p66.t4.2.2.1] 3 (0, 0))], [(b7, .cells #[.I p66.t4.2.2.2] 32 (0, 0))], g70] ∧ Ow (kP (kI .i64) (kP (kP (kI .i64) (kP (kA .i64 6) (kP (kSl (kP (kI .i64) (kI .i64))) (kP (kSl (kI .i64)) (kP kS kS))))) (kP (kP (kI .i64) (kP (kI .i64) (kP (kI .i64) (kP (kI .i64) (kSl (kI .u8)))))) (kSl (kI .i64))))) 31 τ67 v69 p66.t4.2.1 g70) (fun _ _ _ _ hl ⟨hb, v34, g35, hg, ho36⟩ => ⟨hb.trans hl, v34, g35, hg, ho36.up hl⟩) (fun _ _ _ _ _ hl ⟨hc, hb, v69, g70, hg, ho71⟩ => ⟨hc, hb.trans hl, v69, g70, hg, ho71.up hl⟩) ⟨Sto.Le.refl _, _, _, rfl, Ow.nil⟩ ?_ ?_ ?_
 ·rintro x33 s33 o33 τ33 gs33 vx33 hl33 h rfl ⟨hb33, v34, g35, rfl, ho36⟩ l33 rc33 caller33 cs33 fs33
  refine Z 7 rfl ?_
  refine st_begin ?_
  refine Z 3 rfl ?_
  refine o_alloc rfl rfl rfl z_zero31 (fun b37 => ?_)
  refine Z 2 rfl ?_
  refine st_cut (fun ρ τ38 gs => ∃ (s38 : Int × Int × Int × Int × Int × (List (TyS)) × Int) (v39 : Value) (g40 : Grp), script_Read_j5 x33 s33 s38 o33 ∧ τ33.Le τ38 ∧ ESub ρ [(0, .string a0), (2, .Pb b1), (3, .Pb b2), (4, .N0), (5, .I 0), (6, .I 0), (7, .Pb b3), (8, .Pb b4), (9, .Pb b5), (10, .Pb b6), (11, .Pb b7), (17, .I x33.1), (18, .string x33.2), (12, .I x33.1), (13, .string x33.2)] ∧ gs = [[(b1, .cells #[.I 0, .I 0, .int .u32 0] 56 (0, 0))], [(b2, .cells #[.int .u32 0, .I 0] 58 (0, 0))], [(b3, .cells #[.I s38.1, .I s38.2.1, .int .u32 s38.2.2.1] 56 (0, 0))], [(b4, .cells #[.int .u32 s38.2.2.2.1, .I s38.t4.1] 58 (0, 0))], [(b5, .cells #[v39] 59 (0, 0))], [(b6, .cells #[.I s33.t4.2.2.1] 3 (0, 0))], [(b7, .cells #[.I s38.t4.2.2] 32 (0, 0))], g40] ∧ Ow (kP (kI .i64) (kP (kP (kI .i64) (kP (kA .i64 6) (kP (kSl (kP (kI .i64) (kI .i64))) (kP (kSl (kI .i64)) (kP kS kS))))) (kP (kP (kI .i64) (kP (kI .i64) (kP (kI .i64) (kP (kI .i64) (kSl (kI .u8)))))) (kSl (kI .i64))))) 31 τ38 v39 s38.t4.2.1 g40) ?_ (fun hk38 => ?_)
  ·rintro ρ38 τ38 gs38 ⟨s38, v39, g40, h, hl38, hρ, rfl, ho41⟩
   refine st_es hρ ?_
   refine ZZ 6 [6] rfl rfl ?_
   refine st_if rfl h (fun h => ?_) (fun h => ?_)
   ·exact st_rexit rfl (List.Sublist.refl _) hl38 ⟨_, h, rfl, (hl33.trans hl38), _, _, rfl, ho41⟩
   ·refine ZZ 7 [5] rfl rfl ?_
    exact st_rend (List.Sublist.refl _) hl38 ⟨_, h, (hl33.trans hl38), _, _, rfl, ho41⟩
  refine Z 5 rfl ?_
  refine st_if rfl h (fun h => ?_) (fun h => ?_)
  ·refine Z 2 rfl ?_
   obtain ⟨r42, hr43, h⟩ := h
   refine st_call (foot := []) rfl rfl rfl rfl rfl rfl (callV_fn z_en49 (conf_Parse_ok hr43 τ33 (hE.up (hl29.trans hl33)))) ?_
   rintro vτ44 τ44 gsτ44 hl45 ⟨rfl, rfl⟩
   refine ZZ 8 [3, 4, 7] rfl rfl ?_
   refine st_ord [1, 1, 1, 1, 1, 1, 1, 1] _ rfl ?_
   exact hk38 _ _ _ ⟨(r42.1.1, r42.1.2.1, r42.1.2.2, r42.2.1.1, r42.2.1.2, s33.t4.2.1, r42.2.2), _, _, h, hl45, rfl, rfl, (ho36.up hl45)⟩
  ·refine Z 3 rfl ?_
   obtain ⟨r46, hr47, h⟩ := h
   refine st_call (foot := []) rfl rfl rfl rfl rfl rfl (callV_fn z_en7 (script_Parse_ok hr47 τ33 (hT.up (hl29.trans hl33)) (hE.up (hl29.trans hl33)))) ?_
   rintro vτ48 τ48 gsτ48 hl49 ⟨v50, v51, v52, v53, rfl, rfl, hs54, hs55, hs56, hs57⟩
   refine Z 3 rfl ?_
   refine o_store (j := 0) (vs := (lS r46.1 v50 v51 v52 v53)) (cs' := (lS r46.1 v50 v51 v52 v53)) rfl rfl rfl z_size31 rfl rfl rfl (ones_cons rfl (ones_cons rfl (ones_cons rfl (ones_cons rfl (ones_cons rfl (ones_cons rfl (ones_cons rfl (ones_cons rfl (ones_cons hs54.one' (ones_cons hs55.one' (ones_cons rfl (ones_cons rfl (ones_cons rfl (ones_cons rfl (ones_cons rfl (ones_cons rfl (ones_cons hs56.one' (ones_cons hs57.one' ones_nil)))))))))))))))))) rfl rfl rfl ?_
   refine ZZ 7 [7, 7] rfl rfl ?_
   refine st_if rfl h (fun h => ?_) (fun h => ?_)
   ·refine ZZ 3 [5, 0] rfl rfl ?_
    refine o_lit (dk := (kP (kI .i64) (kP (kP (kI .i64) (kP (kA .i64 6) (kP (kSl (kP (kI .i64) (kI .i64))) (kP (kSl (kI .i64)) (kP kS kS))))) (kP (kP (kI .i64) (kP (kI .i64) (kP (kI .i64) (kP (kI .i64) (kSl (kI .u8)))))) (kSl (kI .i64)))))) (xs := [r46.1]) (ps := [(0, (lS r46.1 v50 v51 v52 v53))]) (cs := (lS r46.1 v50 v51 v52 v53)) rfl rfl rfl z_slT59 z_zero31 ⟨rfl, ⟨_, rfl, rfl⟩, trivial⟩ rfl rfl rfl rfl (Kd.Many.cons (d := (kP (kI .i64) (kP (kP (kI .i64) (kP (kA .i64 6) (kP (kSl (kP (kI .i64) (kI .i64))) (kP (kSl (kI .i64)) (kP kS kS))))) (kP (kP (kI .i64) (kP (kI .i64) (kP (kI .i64) (kP (kI .i64) (kSl (kI .u8)))))) (kSl (kI .i64)))))) (x := r46.1) (a := (lS r46.1 v50 v51 v52 v53)) ⟨[.I r46.1.1], _, rfl, rfl, ⟨(lM r46.1.2.1 v50 v51), _, rfl, ⟨[.I r46.1.2.1.1], _, rfl, rfl, ⟨[.I (r46.1.2.1.2.1.getD 0 0), .I (r46.1.2.1.2.1.getD 1 0), .I (r46.1.2.1.2.1.getD 2 0), .I (r46.1.2.1.2.1.getD 3 0), .I (r46.1.2.1.2.1.getD 4 0), .I (r46.1.2.1.2.1.getD 5 0)], _, rfl, rfl, ⟨[v50], _, rfl, ⟨_, rfl, hs54⟩, ⟨[v51], _, rfl, ⟨_, rfl, hs55⟩, ⟨[.string r46.1.2.1.t4.1], _, rfl, rfl, rfl⟩⟩⟩⟩⟩, ⟨(lI r46.1.2.2.1 v52), _, rfl, ⟨[.I r46.1.2.2.1.1], _, rfl, rfl, ⟨[.I r46.1.2.2.1.2.1], _, rfl, rfl, ⟨[.I r46.1.2.2.1.2.2.1], _, rfl, rfl, ⟨[.I r46.1.2.2.1.2.2.2.1], _, rfl, rfl, ⟨_, rfl, hs56⟩⟩⟩⟩⟩, ⟨_, rfl, hs57⟩⟩⟩⟩ Kd.Many.nil) (fun v58 g59 ho60 => ?_)
    obtain ⟨hf64, hf65, h⟩ := h
    refine st_ord [9, 0, 0, 0, 0, 0, 0, 0, 0, 0] _ rfl ?_
    refine o_append (dk := (kP (kI .i64) (kP (kP (kI .i64) (kP (kA .i64 6) (kP (kSl (kP (kI .i64) (kI .i64))) (kP (kSl (kI .i64)) (kP kS kS))))) (kP (kP (kI .i64) (kP (kI .i64) (kP (kI .i64) (kP (kI .i64) (kSl (kI .u8)))))) (kSl (kI .i64)))))) (xs := s33.t4.2.1) (ys := [r46.1]) rfl rfl rfl rfl z_slT59 rfl (ho36.up hl49) rfl (Ow.src (j := 1) ho60 rfl) hf64 hf65 (fun v61 g62 ho63 => ?_)
    refine o_store (j := 7) (vs := [v61]) (cs' := [v61]) rfl rfl rfl z_size59 rfl rfl (oneL_ow ho63) (ones_cons ho63.one' ones_nil) rfl rfl rfl ?_
    refine st_end ?_
    refine st_ord [3, 3, 3, 3, 3, 3, 3, 0] _ rfl ?_
    exact hk38 _ _ _ ⟨(s33.1, s33.2.1, s33.2.2.1, s33.2.2.2.1, s33.t4.1, (s33.t4.2.1 ++ [r46.1]), r46.2), _, _, h, hl49, rfl, rfl, ho63⟩
   ·refine st_skip ?_
    refine st_ord [1, 1, 1, 1, 1, 1, 1, 1] _ rfl ?_
    exact hk38 _ _ _ ⟨(s33.1, s33.2.1, s33.2.2.1, s33.2.2.2.1, s33.t4.1, s33.t4.2.1, r46.2), _, _, h, hl49, rfl, rfl, (ho36.up hl49)⟩
 ·rintro p72 τ73 gs33 f33 ht hl74 ⟨hb, v75, g76, rfl, ho77⟩ rfl
  subst ht
  replace h := hA33
  refine st_ord [1, 1, 1, 1, 1, 1, 1, 1] _ rfl ?_
  refine st_inBlock ?_
  exact hk8 _ _ _ ⟨(p72.1, p72.2.1, p72.2.2.1, p72.2.2.2.1, p72.t4.1, p72.t4.2.1, p72.t4.2.2.1, p72.t4.2.2.2), _, _, h, (hl29.trans hl74), rfl, rfl, ho77⟩
 ·rintro p66 cd33 τ67 gs33 f33 ht hl68 ⟨rfl, hb, v69, g70, rfl, ho71⟩ rfl
  subst ht
  replace h := hA33
  refine st_ord [1, 1, 1, 1, 1, 1, 1, 1] _ rfl ?_
  refine st_exit rfl ?_
  exact hk8 _ _ _ ⟨(p66.1, p66.2.1, p66.2.2.1, p66.2.2.2.1, p66.t4.1, p66.t4.2.1, p66.t4.2.2.1, p66.t4.2.2.2), _, _, h, (hl29.trans hl68), rfl, rfl, ho71⟩
theorem ref21_Sender_ok {a0 : Int × Int × Int} {r : Int} (h : ref21_Sender a0 r) (σ : Sto)  :
    Does Tryz.prog 58 [.agg [.I a0.1, .I a0.2.1, .int .u32 a0.2.2].toArray] σ [] (fun v τ gs => gs = [] ∧ .I r = v) := by
 refine call_of Tryz.func58 Tryz.ntmps58 rfl rfl (fun cs fs => ?_)
 refine Z 2 rfl ?_
 refine o_boxC rfl rfl rfl rfl rfl rfl (fun b1 => ?_)
 refine Z 4 rfl ?_
 refine st_cut (fun ρ τ2 gs => ∃ (s2 : Bool), ref21_Sender_j1 a0 s2 r ∧ σ.Le τ2 ∧ ESub ρ [(1, .Pb b1), (2, .I 0), (10, .bool s2)] ∧ gs = [[(b1, .cells #[.I a0.1, .I a0.2.1, .int .u32 a0.2.2] 62 (0, 0))]]) ?_ (fun hk2 => ?_)
 ·rintro ρ2 τ2 gs2 ⟨s2, h, hl2, hρ, rfl⟩
  refine st_es hρ ?_
  refine st_if rfl h (fun h => ?_) (fun h => ?_)
  ·refine Z 4 rfl ?_
   refine st_ord [] _ rfl ?_
   obtain rfl := Eq.symm h
   exact st_ret (gs' := []) Tryz.func58 rfl (List.Sublist.refl _) hl2 ⟨rfl, rfl⟩
  ·refine Z 3 rfl ?_
   refine st_cut (fun ρ τ3 gs => ∃ (s3 : Bool), ref21_Sender_j2 s3 r ∧ τ2.Le τ3 ∧ ESub ρ [(2, .I 0), (18, .bool s3)] ∧ gs = []) ?_ (fun hk3 => ?_)
   ·rintro ρ3 τ3 gs3 ⟨s3, h, hl3, hρ, rfl⟩
    refine st_es hρ ?_
    refine st_if rfl h (fun h => ?_) (fun h => ?_)
    ·refine Z 4 rfl ?_
     obtain rfl := Eq.symm h
     exact st_ret (gs' := []) Tryz.func58 rfl (List.Sublist.refl _) (hl2.trans hl3) ⟨rfl, rfl⟩
    ·refine Z 5 rfl ?_
     obtain rfl := Eq.symm h
     exact st_ret (gs' := []) Tryz.func58 rfl (List.Sublist.refl _) (hl2.trans hl3) ⟨rfl, rfl⟩
   refine ZZ 4 [0] rfl rfl ?_
   refine o_mif rfl rfl rfl rfl h (fun h => ?_) (fun h => ?_)
   ·refine Z 5 rfl ?_
    refine st_ord [] _ rfl ?_
    exact hk3 _ _ _ ⟨true, h, (Sto.Le.refl _), rfl, rfl⟩
   ·refine ZZ 5 [0] rfl rfl ?_
    refine st_ord [] _ rfl ?_
    exact hk3 _ _ _ ⟨(decide (257 < a0.2.1)), h, (Sto.Le.refl _), rfl, rfl⟩
 refine ZZ 4 [0] rfl rfl ?_
 refine o_mif rfl rfl rfl rfl h (fun h => ?_) (fun h => ?_)
 ·refine Z 5 rfl ?_
  exact hk2 _ _ _ ⟨true, h, (Sto.Le.refl _), rfl, rfl⟩
 ·refine ZZ 5 [0] rfl rfl ?_
  exact hk2 _ _ _ ⟨(decide (2 < a0.1)), h, (Sto.Le.refl _), rfl, rfl⟩
theorem ref21_Receiver_ok {a0 : Int × Int} {r : Int} (h : ref21_Receiver a0 r) (σ : Sto)  :
    Does Tryz.prog 59 [.agg [.int .u32 a0.1, .I a0.2].toArray] σ [] (fun v τ gs => gs = [] ∧ .I r = v) := by
 refine call_of Tryz.func59 Tryz.ntmps59 rfl rfl (fun cs fs => ?_)
 refine Z 2 rfl ?_
 refine o_boxC rfl rfl rfl rfl rfl rfl (fun b1 => ?_)
 refine Z 4 rfl ?_
 refine st_cut (fun ρ τ2 gs => ∃ (s2 : Bool), ref21_Receiver_j1 s2 r ∧ σ.Le τ2 ∧ ESub ρ [(2, .I 0), (10, .bool s2)] ∧ gs = []) ?_ (fun hk2 => ?_)
 ·rintro ρ2 τ2 gs2 ⟨s2, h, hl2, hρ, rfl⟩
  refine st_es hρ ?_
  refine st_if rfl h (fun h => ?_) (fun h => ?_)
  ·refine Z 4 rfl ?_
   obtain rfl := Eq.symm h
   exact st_ret (gs' := []) Tryz.func59 rfl (List.Sublist.refl _) hl2 ⟨rfl, rfl⟩
  ·refine Z 5 rfl ?_
   obtain rfl := Eq.symm h
   exact st_ret (gs' := []) Tryz.func59 rfl (List.Sublist.refl _) hl2 ⟨rfl, rfl⟩
 refine ZZ 4 [0] rfl rfl ?_
 refine o_mif rfl rfl rfl rfl h (fun h => ?_) (fun h => ?_)
 ·refine Z 5 rfl ?_
  refine st_ord [] _ rfl ?_
  exact hk2 _ _ _ ⟨true, h, (Sto.Le.refl _), rfl, rfl⟩
 ·refine ZZ 5 [0] rfl rfl ?_
  refine st_ord [] _ rfl ?_
  exact hk2 _ _ _ ⟨(decide (16 < a0.2)), h, (Sto.Le.refl _), rfl, rfl⟩
theorem law27_Steps_ok {a0 : List (TyS)} {a1 : Int} {v1 : Value} {r : (List (TyS))} (h : law27_Steps a0 a1 r) (σ : Sto) (hs2 : Sl (kP (kI .i64) (kP (kP (kI .i64) (kP (kA .i64 6) (kP (kSl (kP (kI .i64) (kI .i64))) (kP (kSl (kI .i64)) (kP kS kS))))) (kP (kP (kI .i64) (kP (kI .i64) (kP (kI .i64) (kP (kI .i64) (kSl (kI .u8)))))) (kSl (kI .i64))))) σ v1 a0) :
    Does Tryz.prog 23 [v1, .I a1] σ [] (fun v τ gs => ∃ (v52 : Value), gs = [] ∧ v52 = v ∧ Sl (kP (kI .i64) (kP (kP (kI .i64) (kP (kA .i64 6) (kP (kSl (kP (kI .i64) (kI .i64))) (kP (kSl (kI .i64)) (kP kS kS))))) (kP (kP (kI .i64) (kP (kI .i64) (kP (kI .i64) (kP (kI .i64) (kSl (kI .u8)))))) (kSl (kI .i64))))) τ v52 r) := by
 refine call_of Tryz.func23 Tryz.ntmps23 rfl rfl (fun cs fs => ?_)
 refine Z 9 rfl ?_
 refine st_cut (fun ρ τ3 gs => ∃ (s3 : (List (TyS))) (v4 : Value) (g5 : Grp), law27_Steps_j1 s3 r ∧ σ.Le τ3 ∧ ESub ρ [(4, .N0), (5, v4)] ∧ gs = [g5] ∧ Ow (kP (kI .i64) (kP (kP (kI .i64) (kP (kA .i64 6) (kP (kSl (kP (kI .i64) (kI .i64))) (kP (kSl (kI .i64)) (kP kS kS))))) (kP (kP (kI .i64) (kP (kI .i64) (kP (kI .i64) (kP (kI .i64) (kSl (kI .u8)))))) (kSl (kI .i64))))) 31 τ3 v4 s3 g5) ?_ (fun hk3 => ?_)
 ·rintro ρ3 τ3 gs3 ⟨s3, v4, g5, h, hl3, hρ, rfl, ho6⟩
  refine st_es hρ ?_
  refine Z 5 rfl ?_
  refine st_freeze (fun τ7 hl8 hg9 => ?_)
  have hs10 := ho6.freeze hl8 hg9
  obtain rfl := Eq.symm h
  exact st_ret (gs' := []) Tryz.func23 rfl (List.Sublist.refl _) (hl3.trans hl8) ⟨_, rfl, rfl, hs10⟩
 refine Z 4 rfl ?_
 obtain ⟨e13, hL13, hA13⟩ := h
 refine st_addNil ?_
 refine st_loop hL13 (fun (s13 : (List (TyS)) × Int) ρ τ13 gs => σ.Le τ13 ∧ ∃ (v14 : Value) (g15 : Grp), ESub ρ [(0, v1), (1, .I a1), (4, .N0), (5, v14), (6, .I s13.2)] ∧ gs = [g15] ∧ Ow (kP (kI .i64) (kP (kP (kI .i64) (kP (kA .i64 6) (kP (kSl (kP (kI .i64) (kI .i64))) (kP (kSl (kI .i64)) (kP kS kS))))) (kP (kP (kI .i64) (kP (kI .i64) (kP (kI .i64) (kP (kI .i64) (kSl (kI .u8)))))) (kSl (kI .i64))))) 31 τ13 v14 s13.1 g15) ⟨Sto.Le.refl _, _, _, rfl, rfl, Ow.nil⟩ ?_
 rintro s13 o13 h he13 ρ13 τ13 gs13 ⟨hl13, v14, g15, hρ, rfl, ho16⟩ hn13
 refine st_es hρ ?_
 refine Z 2 rfl ?_
 refine st_cut (fun ρ τ17 gs => ∃ (s17 : Bool), law27_Steps_j3 a0 s13 s17 o13 ∧ τ13.Le τ17 ∧ ESub ρ [(0, v1), (1, .I a1), (4, .N0), (5, v14), (6, .I s13.2), (15, .bool s17)] ∧ gs = [g15]) ?_ (fun hk17 => ?_)
 ·rintro ρ17 τ17 gs17 ⟨s17, h, hl17, hρ, rfl⟩
  refine st_es hρ ?_
  refine st_if rfl h (fun h => ?_) (fun h => ?_)
  ·refine Z 7 rfl ?_
   obtain ⟨q18, hf19, h⟩ := h
   refine o_index rfl rfl rfl z_slT59 rfl rfl (hs2.up (hl13.trans hl17)) rfl hf19 (fun b20 of21 vs hc26 hrep => ?_)
   obtain ⟨_, _, rfl, rfl, ⟨_, _, rfl, ⟨_, _, rfl, rfl, ⟨_, _, rfl, rfl, ⟨_, _, rfl, ⟨v22, rfl, hs27⟩, ⟨_, _, rfl, ⟨v23, rfl, hs28⟩, ⟨_, _, rfl, rfl, rfl⟩⟩⟩⟩⟩, ⟨_, _, rfl, ⟨_, _, rfl, rfl, ⟨_, _, rfl, rfl, ⟨_, _, rfl, rfl, ⟨_, _, rfl, rfl, ⟨v24, rfl, hs29⟩⟩⟩⟩⟩, ⟨v25, rfl, hs30⟩⟩⟩⟩ := hrep
   refine o_loadIN (vs := (lS q18 v22 v23 v24 v25)) rfl rfl rfl z_agg31 rfl rfl (celn_part 0 rfl hc26) ?_
   obtain ⟨r31, hr32, h⟩ := h
   refine st_call (foot := []) rfl rfl rfl rfl rfl rfl (callV_fn z_en12 (law27_Cut_ok hr32 τ17 hs27 hs28 hs29 hs30)) ?_
   rintro vτ33 τ33 gsτ33 hl34 ⟨v35, v36, v37, v38, rfl, rfl, hs39, hs40, hs41, hs42⟩
   refine o_lit (dk := (kP (kI .i64) (kP (kP (kI .i64) (kP (kA .i64 6) (kP (kSl (kP (kI .i64) (kI .i64))) (kP (kSl (kI .i64)) (kP kS kS))))) (kP (kP (kI .i64) (kP (kI .i64) (kP (kI .i64) (kP (kI .i64) (kSl (kI .u8)))))) (kSl (kI .i64)))))) (xs := [r31]) (ps := [(0, (lS r31 v35 v36 v37 v38))]) (cs := (lS r31 v35 v36 v37 v38)) rfl rfl rfl z_slT59 z_zero31 ⟨rfl, ⟨_, rfl, rfl⟩, trivial⟩ rfl rfl rfl rfl (Kd.Many.cons (d := (kP (kI .i64) (kP (kP (kI .i64) (kP (kA .i64 6) (kP (kSl (kP (kI .i64) (kI .i64))) (kP (kSl (kI .i64)) (kP kS kS))))) (kP (kP (kI .i64) (kP (kI .i64) (kP (kI .i64) (kP (kI .i64) (kSl (kI .u8)))))) (kSl (kI .i64)))))) (x := r31) (a := (lS r31 v35 v36 v37 v38)) ⟨[.I r31.1], _, rfl, rfl, ⟨(lM r31.2.1 v35 v36), _, rfl, ⟨[.I r31.2.1.1], _, rfl, rfl, ⟨[.I (r31.2.1.2.1.getD 0 0), .I (r31.2.1.2.1.getD 1 0), .I (r31.2.1.2.1.getD 2 0), .I (r31.2.1.2.1.getD 3 0), .I (r31.2.1.2.1.getD 4 0), .I (r31.2.1.2.1.getD 5 0)], _, rfl, rfl, ⟨[v35], _, rfl, ⟨_, rfl, hs39⟩, ⟨[v36], _, rfl, ⟨_, rfl, hs40⟩, ⟨[.string r31.2.1.t4.1], _, rfl, rfl, rfl⟩⟩⟩⟩⟩, ⟨(lI r31.2.2.1 v37), _, rfl, ⟨[.I r31.2.2.1.1], _, rfl, rfl, ⟨[.I r31.2.2.1.2.1], _, rfl, rfl, ⟨[.I r31.2.2.1.2.2.1], _, rfl, rfl, ⟨[.I r31.2.2.1.2.2.2.1], _, rfl, rfl, ⟨_, rfl, hs41⟩⟩⟩⟩⟩, ⟨_, rfl, hs42⟩⟩⟩⟩ Kd.Many.nil) (fun v43 g44 ho45 => ?_)
   obtain ⟨hf49, hf50, h⟩ := h
   refine st_ord [1, 0] _ rfl ?_
   refine o_append (dk := (kP (kI .i64) (kP (kP (kI .i64) (kP (kA .i64 6) (kP (kSl (kP (kI .i64) (kI .i64))) (kP (kSl (kI .i64)) (kP kS kS))))) (kP (kP (kI .i64) (kP (kI .i64) (kP (kI .i64) (kP (kI .i64) (kSl (kI .u8)))))) (kSl (kI .i64)))))) (xs := s13.1) (ys := [r31]) rfl rfl rfl rfl z_slT59 rfl (ho16.up (hl17.trans hl34)) rfl (Ow.src (j := 1) ho45 rfl) hf49 hf50 (fun v46 g47 ho48 => ?_)
   refine Z 8 rfl ?_
   refine st_ord [0] _ rfl ?_
   exact hn13 _ _ _ _ h ⟨((hl13.trans hl17).trans hl34), _, _, rfl, rfl, ho48⟩
  ·refine st_exit rfl ?_
   obtain rfl := he13 _ h
   replace h := hA13
   exact hk3 _ _ _ ⟨s13.1, _, _, h, (hl13.trans hl17), rfl, rfl, (ho16.up hl17)⟩
 refine Z 3 rfl ?_
 refine o_lenI rfl rfl rfl z_slT59 rfl (hs2.up hl13) ?_
 refine o_ibin (v := .bool (decide (s13.2 < (a0.length : Int)))) rfl rfl rfl rfl rfl rfl ?_
 refine o_mif rfl rfl rfl rfl h (fun h => ?_) (fun h => ?_)
 ·refine Z 5 rfl ?_
  exact hk17 _ _ _ ⟨(decide (s13.2 < a1)), h, (Sto.Le.refl _), rfl, rfl⟩
 ·refine Z 5 rfl ?_
  exact hk17 _ _ _ ⟨false, h, (Sto.Le.refl _), rfl, rfl⟩
theorem ref21_Line_ok {a0 : Int × Int × Int} {a1 : Int × Int} {r : ByteArray} (h : ref21_Line a0 a1 r) (σ : Sto)  :
    Does Tryz.prog 60 [.agg [.I a0.1, .I a0.2.1, .int .u32 a0.2.2].toArray, .agg [.int .u32 a1.1, .I a1.2].toArray] σ [] (fun v τ gs => gs = [] ∧ .string r = v) := by
 refine call_of Tryz.func60 Tryz.ntmps60 rfl rfl (fun cs fs => ?_)
 refine Z 2 rfl ?_
 refine o_boxC rfl rfl rfl rfl rfl rfl (fun b1 => ?_)
 refine o_boxC rfl rfl rfl rfl rfl rfl (fun b2 => ?_)
 refine o_assign rfl rfl rfl (ev_str z_str1) ?_
 refine Z 3 rfl ?_
 refine st_cut (fun ρ τ3 gs => ∃ (s3 : Bool), ref21_Line_j1 a0 a1 s3 r ∧ σ.Le τ3 ∧ ESub ρ [(2, .Pb b1), (3, .Pb b2), (4, .E0), (13, .bool s3)] ∧ gs = [[(b1, .cells #[.I a0.1, .I a0.2.1, .int .u32 a0.2.2] 62 (0, 0))], [(b2, .cells #[.int .u32 a1.1, .I a1.2] 63 (0, 0))]]) ?_ (fun hk3 => ?_)
 ·rintro ρ3 τ3 gs3 ⟨s3, h, hl3, hρ, rfl⟩
  refine st_es hρ ?_
  refine st_if rfl h (fun h => ?_) (fun h => ?_)
  ·refine Z 2 rfl ?_
   refine o_assign rfl rfl rfl (ev_str z_str1) ?_
   refine st_end ?_
   refine st_ord [] _ rfl ?_
   obtain rfl := Eq.symm h
   exact st_ret (gs' := []) Tryz.func60 rfl (List.Sublist.refl _) hl3 ⟨rfl, rfl⟩
  ·refine Z 2 rfl ?_
   obtain ⟨r4, hr5, hf8, r9, hr10, hf13, hf14, r15, hr16, hf19, h⟩ := h
   refine st_draw 14 (dl [.v (.Pb b1), .v (.I a0.1), .v (.string r4), .v (.string (r4 ++ (bstr [32]))), .v (.pointer (some ⟨b1, 1, none⟩)), .v (.I a0.2.1), .v (.string r9), .v (.string ((r4 ++ (bstr [32])) ++ r9)), .v (.string (((r4 ++ (bstr [32])) ++ r9) ++ (bstr [32]))), .v (.pointer (some ⟨b1, 2, none⟩)), .v (.int .u32 a0.2.2), .v (.I (IntKind.i64.wrap a0.2.2)), .v (.string r15), .v (.string ((((r4 ++ (bstr [32])) ++ r9) ++ (bstr [32])) ++ r15))]) (fun _ _ => []) z_mix rfl (dl_mono trivial) (allB_cons (allB_cons (allB_cons (allB_cons (allB_cons (allB_cons (allB_cons (allB_cons (allB_cons (allB_cons (allB_cons (allB_cons (allB_cons (allB_cons allB_nil (p1 dA)) ?_) ?_) ?_) (p1 dA)) ?_) ?_) ?_) ?_) (p1 dA)) ?_) (p1 dA)) ?_) ?_) ?_
   ·intro ρ' τ pool rs hl hd hout hk
    obtain ⟨_, e0, rfl⟩ := hd 0 rfl
    refine o_load (j := 0) (v := .I a0.1) rfl rfl rfl z_sc3 e0 rfl rfl ?_
    exact st_addNil (hk _ _ (Sto.Le.refl _) rfl)
   ·intro ρ' τ pool rs hl hd hout hk
    obtain ⟨_, e1, rfl⟩ := hd 1 rfl
    refine st_call (foot := []) rfl rfl rfl rfl (evs_cons e1 rfl) rfl (callV_fn z_en46 (ref07_Digits_ok hr5 τ)) ?_
    rintro vτ6 τ6 gsτ6 hl7 ⟨rfl, rfl⟩
    exact st_addNil (hk _ _ hl7 rfl)
   ·intro ρ' τ pool rs hl hd hout hk
    obtain ⟨_, e2, rfl⟩ := hd 2 rfl
    refine o_sadd rfl rfl rfl e2 (ev_str z_str0) hf8 ?_
    exact st_addNil (hk _ _ (Sto.Le.refl _) rfl)
   ·intro ρ' τ pool rs hl hd hout hk
    obtain ⟨_, e4, rfl⟩ := hd 4 rfl
    refine o_load (j := 0) (v := .I a0.2.1) rfl rfl rfl z_sc3 e4 rfl rfl ?_
    exact st_addNil (hk _ _ (Sto.Le.refl _) rfl)
   ·intro ρ' τ pool rs hl hd hout hk
    obtain ⟨_, e5, rfl⟩ := hd 5 rfl
    refine st_call (foot := []) rfl rfl rfl rfl (evs_cons e5 rfl) rfl (callV_fn z_en46 (ref07_Digits_ok hr10 τ)) ?_
    rintro vτ11 τ11 gsτ11 hl12 ⟨rfl, rfl⟩
    exact st_addNil (hk _ _ hl12 rfl)
   ·intro ρ' τ pool rs hl hd hout hk
    obtain ⟨_, e3, rfl⟩ := hd 3 rfl
    obtain ⟨_, e6, rfl⟩ := hd 6 rfl
    refine o_sadd rfl rfl rfl e3 e6 hf13 ?_
    exact st_addNil (hk _ _ (Sto.Le.refl _) rfl)
   ·intro ρ' τ pool rs hl hd hout hk
    obtain ⟨_, e7, rfl⟩ := hd 7 rfl
    refine o_sadd rfl rfl rfl e7 (ev_str z_str0) hf14 ?_
    exact st_addNil (hk _ _ (Sto.Le.refl _) rfl)
   ·intro ρ' τ pool rs hl hd hout hk
    obtain ⟨_, e9, rfl⟩ := hd 9 rfl
    refine o_load (j := 0) (v := .int .u32 a0.2.2) rfl rfl rfl z_sc54 e9 rfl rfl ?_
    exact st_addNil (hk _ _ (Sto.Le.refl _) rfl)
   ·intro ρ' τ pool rs hl hd hout hk
    obtain ⟨_, e11, rfl⟩ := hd 11 rfl
    refine st_call (foot := []) rfl rfl rfl rfl (evs_cons e11 rfl) rfl (callV_fn z_en46 (ref07_Digits_ok hr16 τ)) ?_
    rintro vτ17 τ17 gsτ17 hl18 ⟨rfl, rfl⟩
    exact st_addNil (hk _ _ hl18 rfl)
   ·intro ρ' τ pool rs hl hd hout hk
    obtain ⟨_, e8, rfl⟩ := hd 8 rfl
    obtain ⟨_, e12, rfl⟩ := hd 12 rfl
    refine o_sadd rfl rfl rfl e8 e12 hf19 ?_
    exact st_addNil (hk _ _ (Sto.Le.refl _) rfl)
   intro ρ' τ20 vals hl20 hv hout
   refine st_ord [0, 0] _ rfl ?_
   refine st_env (ρ' := [(27, .string ((((r4 ++ (bstr [32])) ++ r9) ++ (bstr [32])) ++ r15)), (3, .Pb b2), (4, .E0)]) ⟨(lv1 hv 13 rfl rfl), (hout 3 rfl).trans rfl, (hout 4 rfl).trans rfl, trivial⟩ ?_
   refine Z 3 rfl ?_
   obtain ⟨hf21, hf22, r23, hr24, hf27, hf28, r29, hr30, hf33, h⟩ := h
   refine st_draw 13 (dl [.v (.string ((((r4 ++ (bstr [32])) ++ r9) ++ (bstr [32])) ++ r15)), .v (.string ((bstr [108, 105, 110, 107, 32]) ++ ((((r4 ++ (bstr [32])) ++ r9) ++ (bstr [32])) ++ r15))), .v (.string (((bstr [108, 105, 110, 107, 32]) ++ ((((r4 ++ (bstr [32])) ++ r9) ++ (bstr [32])) ++ r15)) ++ (bstr [32]))), .v (.Pb b2), .v (.int .u32 a1.1), .v (.I (IntKind.i64.wrap a1.1)), .v (.string r23), .v (.string ((((bstr [108, 105, 110, 107, 32]) ++ ((((r4 ++ (bstr [32])) ++ r9) ++ (bstr [32])) ++ r15)) ++ (bstr [32])) ++ r23)), .v (.string (((((bstr [108, 105, 110, 107, 32]) ++ ((((r4 ++ (bstr [32])) ++ r9) ++ (bstr [32])) ++ r15)) ++ (bstr [32])) ++ r23) ++ (bstr [32]))), .v (.pointer (some ⟨b2, 1, none⟩)), .v (.I a1.2), .v (.string r29), .v (.string ((((((bstr [108, 105, 110, 107, 32]) ++ ((((r4 ++ (bstr [32])) ++ r9) ++ (bstr [32])) ++ r15)) ++ (bstr [32])) ++ r23) ++ (bstr [32])) ++ r29))]) (fun _ _ => []) z_mix rfl (dl_mono trivial) (allB_cons (allB_cons (allB_cons (allB_cons (allB_cons (allB_cons (allB_cons (allB_cons (allB_cons (allB_cons (allB_cons (allB_cons (allB_cons allB_nil (p1 dA)) ?_) ?_) (p1 dA)) ?_) (p1 dA)) ?_) ?_) ?_) (p1 dA)) ?_) ?_) ?_) ?_
   ·intro ρ' τ pool rs hl hd hout hk
    obtain ⟨_, e0, rfl⟩ := hd 0 rfl
    refine o_sadd rfl rfl rfl (ev_str z_str49) e0 hf21 ?_
    exact st_addNil (hk _ _ (Sto.Le.refl _) rfl)
   ·intro ρ' τ pool rs hl hd hout hk
    obtain ⟨_, e1, rfl⟩ := hd 1 rfl
    refine o_sadd rfl rfl rfl e1 (ev_str z_str0) hf22 ?_
    exact st_addNil (hk _ _ (Sto.Le.refl _) rfl)
   ·intro ρ' τ pool rs hl hd hout hk
    obtain ⟨_, e3, rfl⟩ := hd 3 rfl
    refine o_load (j := 1) (v := .int .u32 a1.1) rfl rfl rfl z_sc54 e3 rfl rfl ?_
    exact st_addNil (hk _ _ (Sto.Le.refl _) rfl)
   ·intro ρ' τ pool rs hl hd hout hk
    obtain ⟨_, e5, rfl⟩ := hd 5 rfl
    refine st_call (foot := []) rfl rfl rfl rfl (evs_cons e5 rfl) rfl (callV_fn z_en46 (ref07_Digits_ok hr24 τ)) ?_
    rintro vτ25 τ25 gsτ25 hl26 ⟨rfl, rfl⟩
    exact st_addNil (hk _ _ hl26 rfl)
   ·intro ρ' τ pool rs hl hd hout hk
    obtain ⟨_, e2, rfl⟩ := hd 2 rfl
    obtain ⟨_, e6, rfl⟩ := hd 6 rfl
    refine o_sadd rfl rfl rfl e2 e6 hf27 ?_
    exact st_addNil (hk _ _ (Sto.Le.refl _) rfl)
   ·intro ρ' τ pool rs hl hd hout hk
    obtain ⟨_, e7, rfl⟩ := hd 7 rfl
    refine o_sadd rfl rfl rfl e7 (ev_str z_str0) hf28 ?_
    exact st_addNil (hk _ _ (Sto.Le.refl _) rfl)
   ·intro ρ' τ pool rs hl hd hout hk
    obtain ⟨_, e9, rfl⟩ := hd 9 rfl
    refine o_load (j := 1) (v := .I a1.2) rfl rfl rfl z_sc3 e9 rfl rfl ?_
    exact st_addNil (hk _ _ (Sto.Le.refl _) rfl)
   ·intro ρ' τ pool rs hl hd hout hk
    obtain ⟨_, e10, rfl⟩ := hd 10 rfl
    refine st_call (foot := []) rfl rfl rfl rfl (evs_cons e10 rfl) rfl (callV_fn z_en46 (ref07_Digits_ok hr30 τ)) ?_
    rintro vτ31 τ31 gsτ31 hl32 ⟨rfl, rfl⟩
    exact st_addNil (hk _ _ hl32 rfl)
   ·intro ρ' τ pool rs hl hd hout hk
    obtain ⟨_, e8, rfl⟩ := hd 8 rfl
    obtain ⟨_, e11, rfl⟩ := hd 11 rfl
    refine o_sadd rfl rfl rfl e8 e11 hf33 ?_
    exact st_addNil (hk _ _ (Sto.Le.refl _) rfl)
   intro ρ' τ34 vals hl34 hv hout
   refine st_ord [0, 0] _ rfl ?_
   refine st_env (ρ' := [(40, .string ((((((bstr [108, 105, 110, 107, 32]) ++ ((((r4 ++ (bstr [32])) ++ r9) ++ (bstr [32])) ++ r15)) ++ (bstr [32])) ++ r23) ++ (bstr [32])) ++ r29)), (4, .E0)]) ⟨(lv1 hv 12 rfl rfl), (hout 4 rfl).trans rfl, trivial⟩ ?_
   refine Z 2 rfl ?_
   refine st_ord [] _ rfl ?_
   obtain rfl := Eq.symm h
   exact st_ret (gs' := []) Tryz.func60 rfl (List.Sublist.refl _) ((hl3.trans hl20).trans hl34) ⟨rfl, rfl⟩
 refine ZZ 2 [1] rfl rfl ?_
 obtain ⟨r35, hr36, h⟩ := h
 refine st_call (foot := []) rfl rfl rfl rfl rfl rfl (callV_fn z_en58 (ref21_Sender_ok hr36 σ)) ?_
 rintro vτ37 τ37 gsτ37 hl38 ⟨rfl, rfl⟩
 refine o_ibin (v := .bool (!(decide (r35 = 0)))) rfl rfl rfl rfl rfl rfl ?_
 refine o_mif rfl rfl rfl rfl h (fun h => ?_) (fun h => ?_)
 ·refine Z 5 rfl ?_
  refine st_ord [1, 0] _ rfl ?_
  exact hk3 _ _ _ ⟨true, h, hl38, rfl, rfl⟩
 ·refine ZZ 1 [0] rfl rfl ?_
  obtain ⟨r39, hr40, h⟩ := h
  refine st_call (foot := []) rfl rfl rfl rfl rfl rfl (callV_fn z_en59 (ref21_Receiver_ok hr40 τ37)) ?_
  rintro vτ41 τ41 gsτ41 hl42 ⟨rfl, rfl⟩
  refine Z 3 rfl ?_
  refine st_ord [1, 0] _ rfl ?_
  exact hk3 _ _ _ ⟨(!(decide (r39 = 0))), h, (hl38.trans hl42), rfl, rfl⟩
theorem ref27_Print_ok {a0 : Int × Int × Int} {a1 : Int × Int} {a2 : List (TyZ)} {v1 : Value} {r : ByteArray × Int} (h : ref27_Print a0 a1 a2 r) (σ : Sto) (hs2 : Sl (kP (kI .i64) (kP (kP (kI .i64) (kP (kA .i64 6) (kP (kSl (kA .i64 2)) (kP (kSl (kI .i64)) (kP kS kS))))) (kP (kP (kI .i64) (kP (kI .i64) (kP (kI .i64) (kP (kI .i64) (kSl (kI .u8)))))) (kSl (kI .i64))))) σ v1 a2) :
    Does Tryz.prog 24 [.agg [.I a0.1, .I a0.2.1, .int .u32 a0.2.2].toArray, .agg [.int .u32 a1.1, .I a1.2].toArray, v1] σ [] (fun v τ gs => gs = [] ∧ .tuple [.string r.1, .I r.2].toArray = v) := by
 refine call_of Tryz.func24 Tryz.ntmps24 rfl rfl (fun cs fs => ?_)
 refine Z 2 rfl ?_
 refine o_boxC rfl rfl rfl rfl rfl rfl (fun b3 => ?_)
 refine o_boxC rfl rfl rfl rfl rfl rfl (fun b4 => ?_)
 refine o_assign rfl rfl rfl (ev_str z_str1) ?_
 refine ZZ 6 [1] rfl rfl ?_
 obtain ⟨r5, hr6, h⟩ := h
 refine st_call (foot := []) rfl rfl rfl rfl rfl rfl (callV_fn z_en58 (ref21_Sender_ok hr6 σ)) ?_
 rintro vτ7 τ7 gsτ7 hl8 ⟨rfl, rfl⟩
 refine Z 2 rfl ?_
 refine st_if rfl h (fun h => ?_) (fun h => ?_)
 ·refine ZZ 3 [1] rfl rfl ?_
  obtain ⟨r9, hr10, h⟩ := h
  refine st_call (foot := []) rfl rfl rfl rfl rfl rfl (callV_fn z_en58 (ref21_Sender_ok hr10 τ7)) ?_
  rintro vτ11 τ11 gsτ11 hl12 ⟨rfl, rfl⟩
  refine o_assign rfl rfl rfl (ev_str z_str1) ?_
  refine Z 2 rfl ?_
  refine st_ord [] _ rfl ?_
  obtain rfl := Eq.symm h
  exact st_ret (gs' := []) Tryz.func24 rfl (List.Sublist.refl _) (hl8.trans hl12) ⟨rfl, rfl⟩
 ·refine ZZ 5 [0] rfl rfl ?_
  obtain ⟨r13, hr14, h⟩ := h
  refine st_call (foot := []) rfl rfl rfl rfl rfl rfl (callV_fn z_en59 (ref21_Receiver_ok hr14 τ7)) ?_
  rintro vτ15 τ15 gsτ15 hl16 ⟨rfl, rfl⟩
  refine Z 2 rfl ?_
  refine st_if rfl h (fun h => ?_) (fun h => ?_)
  ·refine ZZ 3 [0] rfl rfl ?_
   obtain ⟨r17, hr18, h⟩ := h
   refine st_call (foot := []) rfl rfl rfl rfl rfl rfl (callV_fn z_en59 (ref21_Receiver_ok hr18 τ15)) ?_
   rintro vτ19 τ19 gsτ19 hl20 ⟨rfl, rfl⟩
   refine o_assign rfl rfl rfl (ev_str z_str1) ?_
   refine Z 2 rfl ?_
   refine st_ord [] _ rfl ?_
   obtain rfl := Eq.symm h
   exact st_ret (gs' := []) Tryz.func24 rfl (List.Sublist.refl _) ((hl8.trans hl16).trans hl20) ⟨rfl, rfl⟩
  ·refine ZZ 5 [1, 0] rfl rfl ?_
   obtain ⟨r21, hr22, h⟩ := h
   refine st_call (foot := []) rfl rfl rfl rfl rfl rfl (callV_fn z_en60 (ref21_Line_ok hr22 τ15)) ?_
   rintro vτ23 τ23 gsτ23 hl24 ⟨rfl, rfl⟩
   obtain ⟨hf25, h⟩ := h
   refine o_sadd rfl rfl rfl rfl (ev_str z_str42) hf25 ?_
   refine Z 3 rfl ?_
   refine st_cut (fun ρ τ26 gs => ∃ (s26 : ByteArray), ref27_Print_j1 s26 r ∧ τ23.Le τ26 ∧ ESub ρ [(6, .E0), (7, .I 0), (8, .string s26)] ∧ gs = []) ?_ (fun hk26 => ?_)
   ·rintro ρ26 τ26 gs26 ⟨s26, h, hl26, hρ, rfl⟩
    refine st_es hρ ?_
    refine Z 6 rfl ?_
    obtain rfl := Eq.symm h
    exact st_ret (gs' := []) Tryz.func24 rfl (List.Sublist.refl _) (((hl8.trans hl16).trans hl24).trans hl26) ⟨rfl, rfl⟩
   refine Z 4 rfl ?_
   obtain ⟨e27, hL27, hA27⟩ := h
   refine st_ord [] _ rfl ?_
   refine st_loop hL27 (fun (s27 : ByteArray × Int) ρ τ27 gs => τ23.Le τ27 ∧ ESub ρ [(2, v1), (6, .E0), (7, .I 0), (8, .string s27.1), (9, .I s27.2)] ∧ gs = []) ⟨Sto.Le.refl _, rfl, rfl⟩ ?_
   rintro s27 o27 h he27 ρ27 τ27 gs27 ⟨hl27, hρ, rfl⟩ hn27
   refine st_es hρ ?_
   refine Z 5 rfl ?_
   refine o_lenI rfl rfl rfl z_slT64 rfl (hs2.up (((hl8.trans hl16).trans hl24).trans hl27)) ?_
   refine Z 2 rfl ?_
   refine st_if rfl h (fun h => ?_) (fun h => ?_)
   ·refine Z 8 rfl ?_
    obtain ⟨q28, hf29, h⟩ := h
    refine o_index rfl rfl rfl z_slT64 rfl rfl (hs2.up (((hl8.trans hl16).trans hl24).trans hl27)) rfl hf29 (fun b30 of31 vs hc36 hrep => ?_)
    obtain ⟨_, _, rfl, rfl, ⟨_, _, rfl, ⟨_, _, rfl, rfl, ⟨_, _, rfl, rfl, ⟨_, _, rfl, ⟨v32, rfl, hs37⟩, ⟨_, _, rfl, ⟨v33, rfl, hs38⟩, ⟨_, _, rfl, rfl, rfl⟩⟩⟩⟩⟩, ⟨_, _, rfl, ⟨_, _, rfl, rfl, ⟨_, _, rfl, rfl, ⟨_, _, rfl, rfl, ⟨_, _, rfl, rfl, ⟨v34, rfl, hs39⟩⟩⟩⟩⟩, ⟨v35, rfl, hs40⟩⟩⟩⟩ := hrep
    refine o_loadIN (vs := (lS q28 v32 v33 v34 v35)) rfl rfl rfl z_agg40 rfl rfl (celn_part 0 rfl hc36) ?_
    obtain ⟨r41, hr42, h⟩ := h
    refine st_call (foot := []) rfl rfl rfl rfl rfl rfl (callV_fn z_en13 (ref27_Check_ok hr42 τ27 hs37 hs38 hs39 hs40)) ?_
    rintro vτ43 τ43 gsτ43 hl44 ⟨rfl, rfl⟩
    refine Z 2 rfl ?_
    refine st_if rfl h (fun h => ?_) (fun h => ?_)
    ·refine Z 4 rfl ?_
     obtain ⟨q45, hf46, h⟩ := h
     refine o_index rfl rfl rfl z_slT64 rfl rfl (hs2.up ((((hl8.trans hl16).trans hl24).trans hl27).trans hl44)) rfl hf46 (fun b47 of48 vs hc53 hrep => ?_)
     obtain ⟨_, _, rfl, rfl, ⟨_, _, rfl, ⟨_, _, rfl, rfl, ⟨_, _, rfl, rfl, ⟨_, _, rfl, ⟨v49, rfl, hs54⟩, ⟨_, _, rfl, ⟨v50, rfl, hs55⟩, ⟨_, _, rfl, rfl, rfl⟩⟩⟩⟩⟩, ⟨_, _, rfl, ⟨_, _, rfl, rfl, ⟨_, _, rfl, rfl, ⟨_, _, rfl, rfl, ⟨_, _, rfl, rfl, ⟨v51, rfl, hs56⟩⟩⟩⟩⟩, ⟨v52, rfl, hs57⟩⟩⟩⟩ := hrep
     refine o_loadIN (vs := (lS q45 v49 v50 v51 v52)) rfl rfl rfl z_agg40 rfl rfl (celn_part 0 rfl hc53) ?_
     obtain ⟨r58, hr59, h⟩ := h
     refine st_call (foot := []) rfl rfl rfl rfl rfl rfl (callV_fn z_en13 (ref27_Check_ok hr59 τ43 hs54 hs55 hs56 hs57)) ?_
     rintro vτ60 τ60 gsτ60 hl61 ⟨rfl, rfl⟩
     refine o_assign rfl rfl rfl (ev_str z_str1) ?_
     refine Z 2 rfl ?_
     obtain rfl := he27 _ h
     replace h := hA27
     obtain rfl := Eq.symm h
     exact st_ret (gs' := []) Tryz.func24 rfl (List.Sublist.refl _) (((((hl8.trans hl16).trans hl24).trans hl27).trans hl44).trans hl61) ⟨rfl, rfl⟩
    ·refine Z 5 rfl ?_
     obtain ⟨q62, hf63, h⟩ := h
     refine o_index rfl rfl rfl z_slT64 rfl rfl (hs2.up ((((hl8.trans hl16).trans hl24).trans hl27).trans hl44)) rfl hf63 (fun b64 of65 vs hc70 hrep => ?_)
     obtain ⟨_, _, rfl, rfl, ⟨_, _, rfl, ⟨_, _, rfl, rfl, ⟨_, _, rfl, rfl, ⟨_, _, rfl, ⟨v66, rfl, hs71⟩, ⟨_, _, rfl, ⟨v67, rfl, hs72⟩, ⟨_, _, rfl, rfl, rfl⟩⟩⟩⟩⟩, ⟨_, _, rfl, ⟨_, _, rfl, rfl, ⟨_, _, rfl, rfl, ⟨_, _, rfl, rfl, ⟨_, _, rfl, rfl, ⟨v68, rfl, hs73⟩⟩⟩⟩⟩, ⟨v69, rfl, hs74⟩⟩⟩⟩ := hrep
     refine o_loadIN (vs := (lS q62 v66 v67 v68 v69)) rfl rfl rfl z_agg40 rfl rfl (celn_part 0 rfl hc70) ?_
     obtain ⟨r75, hr76, h⟩ := h
     refine st_call (foot := []) rfl rfl rfl rfl rfl rfl (callV_fn z_en16 (ref27_Line_ok hr76 τ43 hs71 hs72 hs73 hs74)) ?_
     rintro vτ77 τ77 gsτ77 hl78 ⟨rfl, rfl⟩
     obtain ⟨hf79, h⟩ := h
     refine o_sadd rfl rfl rfl rfl rfl hf79 ?_
     obtain ⟨hf80, h⟩ := h
     refine o_sadd rfl rfl rfl rfl (ev_str z_str42) hf80 ?_
     refine Z 8 rfl ?_
     exact hn27 _ _ _ _ h ⟨((hl27.trans hl44).trans hl78), rfl, rfl⟩
   ·refine st_exit rfl ?_
    obtain rfl := he27 _ h
    replace h := hA27
    exact hk26 _ _ _ ⟨s27.1, h, hl27, rfl, rfl⟩
theorem law27_ScriptPrints_ok {a0 : Int × Int × Int} {a1 : Int × Int} {a2 : List (TyS)} {v1 : Value} {r : Bool} (h : law27_ScriptPrints a0 a1 a2 r) (σ : Sto) (hs2 : Sl (kP (kI .i64) (kP (kP (kI .i64) (kP (kA .i64 6) (kP (kSl (kP (kI .i64) (kI .i64))) (kP (kSl (kI .i64)) (kP kS kS))))) (kP (kP (kI .i64) (kP (kI .i64) (kP (kI .i64) (kP (kI .i64) (kSl (kI .u8)))))) (kSl (kI .i64))))) σ v1 a2) (hT : Tab Tryz.prog σ) (hE : Errs Tryz.prog σ) :
    Does Tryz.prog 6 [.agg [.I a0.1, .I a0.2.1, .int .u32 a0.2.2].toArray, .agg [.int .u32 a1.1, .I a1.2].toArray, v1] σ [] (fun v τ gs => gs = [] ∧ .bool r = v) := by
 refine call_of Tryz.func6 Tryz.ntmps6 rfl rfl (fun cs fs => ?_)
 refine Z 2 rfl ?_
 refine o_boxC rfl rfl rfl rfl rfl rfl (fun b3 => ?_)
 refine o_boxC rfl rfl rfl rfl rfl rfl (fun b4 => ?_)
 refine Z 5 rfl ?_
 obtain ⟨r5, hr6, h⟩ := h
 refine st_call (foot := []) rfl rfl rfl rfl rfl rfl (callV_fn z_en23 (law27_Steps_ok hr6 σ hs2)) ?_
 rintro vτ7 τ7 gsτ7 hl8 ⟨v9, rfl, rfl, hs10⟩
 refine Z 7 rfl ?_
 refine st_cut (fun ρ τ11 gs => ∃ (s11 : (List (TyZ))) (v12 : Value) (g13 : Grp), law27_ScriptPrints_j1 a0 a1 r5 s11 r ∧ τ7.Le τ11 ∧ ESub ρ [(2, v9), (3, .Pb b3), (4, .Pb b4), (6, .bool false), (7, v12)] ∧ gs = [[(b3, .cells #[.I a0.1, .I a0.2.1, .int .u32 a0.2.2] 56 (0, 0))], [(b4, .cells #[.int .u32 a1.1, .I a1.2] 58 (0, 0))], g13] ∧ Ow (kP (kI .i64) (kP (kP (kI .i64) (kP (kA .i64 6) (kP (kSl (kA .i64 2)) (kP (kSl (kI .i64)) (kP kS kS))))) (kP (kP (kI .i64) (kP (kI .i64) (kP (kI .i64) (kP (kI .i64) (kSl (kI .u8)))))) (kSl (kI .i64))))) 40 τ11 v12 s11 g13) ?_ (fun hk11 => ?_)
 ·rintro ρ11 τ11 gs11 ⟨s11, v12, g13, h, hl11, hρ, rfl, ho14⟩
  refine st_es hρ ?_
  refine ZZ 5 [0, 1] rfl rfl ?_
  obtain ⟨r15, hr16, h⟩ := h
  refine st_call (foot := []) rfl rfl rfl rfl rfl rfl (callV_fn z_en22 (script_Print_ok hr16 τ11 (hs10.up hl11) (hT.up (hl8.trans hl11)))) ?_
  rintro vτ17 τ17 gsτ17 hl18 ⟨rfl, rfl⟩
  refine ZZ 11 [0, 1] rfl rfl ?_
  obtain ⟨r24, hr25, h⟩ := h
  refine st_ord [2, 0, 0] _ rfl ?_
  refine st_freeze (fun τ19 hl20 hg21 => ?_)
  have hs22 := ho14.freeze (hl18.trans hl20) hg21
  refine st_call (foot := []) rfl rfl rfl rfl rfl rfl (callV_fn z_en24 (ref27_Print_ok hr25 τ19 hs22)) ?_
  rintro vτ26 τ26 gsτ26 hl27 ⟨rfl, rfl⟩
  refine Z 8 rfl ?_
  refine st_cut (fun ρ τ28 gs => ∃ (s28 : Bool), law27_ScriptPrints_j2 a0 a1 r5 r15 r24 s28 r ∧ τ26.Le τ28 ∧ ESub ρ [(2, v9), (3, .Pb b3), (4, .Pb b4), (6, .bool false), (9, .string r15.1), (12, .I r24.2), (56, .bool s28)] ∧ gs = [[(b3, .cells #[.I a0.1, .I a0.2.1, .int .u32 a0.2.2] 56 (0, 0))], [(b4, .cells #[.int .u32 a1.1, .I a1.2] 58 (0, 0))]]) ?_ (fun hk28 => ?_)
  ·rintro ρ28 τ28 gs28 ⟨s28, h, hl28, hρ, rfl⟩
   refine st_es hρ ?_
   refine st_if rfl h (fun h => ?_) (fun h => ?_)
   ·refine Z 4 rfl ?_
    refine st_ord [] _ rfl ?_
    obtain rfl := Eq.symm h
    exact st_ret (gs' := []) Tryz.func6 rfl (List.Sublist.refl _) (((((hl8.trans hl11).trans hl18).trans hl20).trans hl27).trans hl28) ⟨rfl, rfl⟩
   ·refine Z 7 rfl ?_
    refine st_if rfl h (fun h => ?_) (fun h => ?_)
    ·refine st_seq ?_
     refine st_cut (fun ρ τ29 gs => ∃ (s29 : Bool), law27_ScriptPrints_j3 s29 r ∧ τ28.Le τ29 ∧ ESub ρ [(2, v9), (3, .Pb b3), (4, .Pb b4), (6, .bool s29), (9, .string r15.1)] ∧ gs = [[(b3, .cells #[.I a0.1, .I a0.2.1, .int .u32 a0.2.2] 56 (0, 0))], [(b4, .cells #[.int .u32 a1.1, .I a1.2] 58 (0, 0))]]) ?_ (fun hk29 => ?_)
     ·rintro ρ29 τ29 gs29 ⟨s29, h, hl29, hρ, rfl⟩
      refine st_es hρ ?_
      refine st_ord [] _ rfl ?_
      obtain rfl := Eq.symm h
      exact st_ret (gs' := []) Tryz.func6 rfl (List.Sublist.refl _) ((((((hl8.trans hl11).trans hl18).trans hl20).trans hl27).trans hl28).trans hl29) ⟨rfl, rfl⟩
     refine st_region ?_
     obtain ⟨r30, hr31, h⟩ := h
     refine st_call (foot := []) rfl rfl rfl rfl rfl rfl (callV_fn z_en9 (law27_known_ok hr31 τ28 (hT.up (((((hl8.trans hl11).trans hl18).trans hl20).trans hl27).trans hl28)))) ?_
     rintro vτ32 τ32 gsτ32 hl33 ⟨rfl, rfl⟩
     refine o_mif rfl rfl rfl rfl h (fun h => ?_) (fun h => ?_)
     ·refine o_move rfl rfl rfl rfl ?_
      refine o_sbin (v := .bool (decide (r15.1 = (bstr [])))) rfl rfl rfl rfl (ev_str z_str1) rfl ?_
      refine Z 3 rfl ?_
      exact hk29 _ _ _ ⟨(decide (r15.1 = (bstr []))), h, hl33, rfl, rfl⟩
     ·refine Z 5 rfl ?_
      exact hk29 _ _ _ ⟨false, h, hl33, rfl, rfl⟩
    ·refine Z 4 rfl ?_
     obtain ⟨r34, hr35, h⟩ := h
     refine st_call (foot := []) rfl rfl rfl rfl rfl rfl (callV_fn z_en18 (script_Read_ok hr35 τ28 (hT.up (((((hl8.trans hl11).trans hl18).trans hl20).trans hl27).trans hl28)) (hE.up (((((hl8.trans hl11).trans hl18).trans hl20).trans hl27).trans hl28)))) ?_
     rintro vτ36 τ36 gsτ36 hl37 ⟨v38, rfl, rfl, hs39⟩
     refine Z 6 rfl ?_
     refine o_alloc rfl rfl rfl z_zero56 (fun b40 => ?_)
     refine o_alloc rfl rfl rfl z_zero58 (fun b41 => ?_)
     refine ZZ 8 [1, 0] rfl rfl ?_
     refine st_cut (fun ρ τ42 gs => ∃ (s42 : Bool), law27_ScriptPrints_j4 r5 r34 s42 r ∧ τ36.Le τ42 ∧ ESub ρ [(2, v9), (6, .bool false), (15, v38), (94, .bool s42)] ∧ gs = []) ?_ (fun hk42 => ?_)
     ·rintro ρ42 τ42 gs42 ⟨s42, h, hl42, hρ, rfl⟩
      refine st_es hρ ?_
      refine st_if rfl h (fun h => ?_) (fun h => ?_)
      ·refine Z 4 rfl ?_
       obtain rfl := Eq.symm h
       exact st_ret (gs' := []) Tryz.func6 rfl (List.Sublist.refl _) (((((((hl8.trans hl11).trans hl18).trans hl20).trans hl27).trans hl28).trans hl37).trans hl42) ⟨rfl, rfl⟩
      ·refine Z 2 rfl ?_
       refine st_cut (fun ρ τ43 gs => ∃ (s43 : Unit), law27_ScriptPrints_j5 s43 r ∧ τ42.Le τ43 ∧ ESub ρ [(6, .bool false)] ∧ gs = []) ?_ (fun hk43 => ?_)
       ·rintro ρ43 τ43 gs43 ⟨s43, h, hl43, hρ, rfl⟩
        refine st_es hρ ?_
        refine Z 2 rfl ?_
        obtain ⟨r44, hr45, h⟩ := h
        refine st_call (foot := []) rfl rfl rfl rfl rfl rfl (callV_fn z_en9 (law27_known_ok hr45 τ43 (hT.up ((((((((hl8.trans hl11).trans hl18).trans hl20).trans hl27).trans hl28).trans hl37).trans hl42).trans hl43)))) ?_
        rintro vτ46 τ46 gsτ46 hl47 ⟨rfl, rfl⟩
        refine Z 2 rfl ?_
        obtain rfl := Eq.symm h
        exact st_ret (gs' := []) Tryz.func6 rfl (List.Sublist.refl _) (((((((((hl8.trans hl11).trans hl18).trans hl20).trans hl27).trans hl28).trans hl37).trans hl42).trans hl43).trans hl47) ⟨rfl, rfl⟩
       refine Z 4 rfl ?_
       obtain ⟨e48, hL48, hA48⟩ := h
       refine st_loop hL48 (fun (s48 : Int) ρ τ48 gs => τ42.Le τ48 ∧ ESub ρ [(2, v9), (6, .bool false), (15, v38), (18, .I s48)] ∧ gs = []) ⟨Sto.Le.refl _, rfl, rfl⟩ ?_
       rintro s48 o48 h he48 ρ48 τ48 gs48 ⟨hl48, hρ, rfl⟩ hn48
       refine st_es hρ ?_
       refine Z 5 rfl ?_
       refine o_lenI rfl rfl rfl z_slT59 rfl (hs10.up (((((((hl11.trans hl18).trans hl20).trans hl27).trans hl28).trans hl37).trans hl42).trans hl48)) ?_
       refine Z 2 rfl ?_
       refine st_if rfl h (fun h => ?_) (fun h => ?_)
       ·refine Z 4 rfl ?_
        obtain ⟨q49, hf50, q66, hf67, r83, hr84, h⟩ := h
        refine st_draw 10 (dl [.v (v38), .v (.I s48), .t fun τ v => ∃ (b51 : Nat) (of52 : Nat) (vsb51 : List Value), (.pointer (some ⟨b51, of52, none⟩) : Value) = v ∧ CelN τ ⟨b51, of52, none⟩ vsb51 ∧ (kP (kI .i64) (kP (kP (kI .i64) (kP (kA .i64 6) (kP (kSl (kP (kI .i64) (kI .i64))) (kP (kSl (kI .i64)) (kP kS kS))))) (kP (kP (kI .i64) (kP (kI .i64) (kP (kI .i64) (kP (kI .i64) (kSl (kI .u8)))))) (kSl (kI .i64))))).rep τ vsb51 q49, .t fun τ v => ∃ (v53 : Value) (v54 : Value) (v55 : Value) (v56 : Value), (.agg (lS q49 v53 v54 v55 v56).toArray : Value) = v ∧ Sl (kP (kI .i64) (kI .i64)) τ v53 q49.2.1.2.2.1 ∧ Sl (kI .i64) τ v54 q49.2.1.2.2.2.1 ∧ Sl (kI .u8) τ v55 q49.2.2.1.t4 ∧ Sl (kI .i64) τ v56 q49.2.2.2, .v (v9), .v (.I s48), .t fun τ v => ∃ (b68 : Nat) (of69 : Nat) (vsb68 : List Value), (.pointer (some ⟨b68, of69, none⟩) : Value) = v ∧ CelN τ ⟨b68, of69, none⟩ vsb68 ∧ (kP (kI .i64) (kP (kP (kI .i64) (kP (kA .i64 6) (kP (kSl (kP (kI .i64) (kI .i64))) (kP (kSl (kI .i64)) (kP kS kS))))) (kP (kP (kI .i64) (kP (kI .i64) (kP (kI .i64) (kP (kI .i64) (kSl (kI .u8)))))) (kSl (kI .i64))))).rep τ vsb68 q66, .t fun τ v => ∃ (v70 : Value) (v71 : Value) (v72 : Value) (v73 : Value), (.agg (lS q66 v70 v71 v72 v73).toArray : Value) = v ∧ Sl (kP (kI .i64) (kI .i64)) τ v70 q66.2.1.2.2.1 ∧ Sl (kI .i64) τ v71 q66.2.1.2.2.2.1 ∧ Sl (kI .u8) τ v72 q66.2.2.1.t4 ∧ Sl (kI .i64) τ v73 q66.2.2.2, .v (.bool r83), .v (.bool (!r83))]) (fun _ _ => []) z_mix rfl (dl_mono ⟨fun _ _ _ hl ⟨b51, of52, vsb51, hv, hc57, hrepb51⟩ => ⟨b51, of52, vsb51, hv, hc57.up hl, Kd.mono _ hl hrepb51⟩, ⟨fun _ _ _ hl ⟨v53, v54, v55, v56, hv, hs62, hs63, hs64, hs65⟩ => ⟨v53, v54, v55, v56, hv, hs62.up hl, hs63.up hl, hs64.up hl, hs65.up hl⟩, ⟨fun _ _ _ hl ⟨b68, of69, vsb68, hv, hc74, hrepb68⟩ => ⟨b68, of69, vsb68, hv, hc74.up hl, Kd.mono _ hl hrepb68⟩, ⟨fun _ _ _ hl ⟨v70, v71, v72, v73, hv, hs79, hs80, hs81, hs82⟩ => ⟨v70, v71, v72, v73, hv, hs79.up hl, hs80.up hl, hs81.up hl, hs82.up hl⟩, trivial⟩⟩⟩⟩) (allB_cons (allB_cons (allB_cons (allB_cons (allB_cons (allB_cons (allB_cons (allB_cons (allB_cons (allB_cons allB_nil (p1 dA)) (p1 dA)) ?_) ?_) (p1 dA)) (p1 dA)) ?_) ?_) ?_) (p1 dA)) ?_
        ·intro ρ' τ pool rs hl hd hout hk
         obtain ⟨_, e0, rfl⟩ := hd 0 rfl
         obtain ⟨_, e1, rfl⟩ := hd 1 rfl
         refine o_index rfl rfl rfl z_slT59 rfl e0 (hs39.up ((hl42.trans hl48).trans hl)) e1 hf50 (fun b51 of52 vsb51 hc57 hrepb51 => ?_)
         exact st_addNil (hk _ _ (Sto.Le.refl _) ⟨b51, of52, _, rfl, hc57, hrepb51⟩)
        ·intro ρ' τ pool rs hl hd hout hk
         obtain ⟨_, e2, b51, of52, vsb51, rfl, hc57, hrepb51⟩ := hd 2 rfl
         have hrepb51 := hrepb51
         obtain ⟨_, _, rfl, rfl, ⟨_, _, rfl, ⟨_, _, rfl, rfl, ⟨_, _, rfl, rfl, ⟨_, _, rfl, ⟨v53, rfl, hs62⟩, ⟨_, _, rfl, ⟨v54, rfl, hs63⟩, ⟨_, _, rfl, rfl, rfl⟩⟩⟩⟩⟩, ⟨_, _, rfl, ⟨_, _, rfl, rfl, ⟨_, _, rfl, rfl, ⟨_, _, rfl, rfl, ⟨_, _, rfl, rfl, ⟨v55, rfl, hs64⟩⟩⟩⟩⟩, ⟨v56, rfl, hs65⟩⟩⟩⟩ := hrepb51
         refine o_loadIN (vs := (lS q49 v53 v54 v55 v56)) rfl rfl rfl z_agg31 e2 rfl (celn_part 0 rfl hc57) ?_
         exact st_addNil (hk _ _ (Sto.Le.refl _) ⟨v53, v54, v55, v56, rfl, hs62, hs63, hs64, hs65⟩)
        ·intro ρ' τ pool rs hl hd hout hk
         obtain ⟨_, e4, rfl⟩ := hd 4 rfl
         obtain ⟨_, e5, rfl⟩ := hd 5 rfl
         refine o_index rfl rfl rfl z_slT59 rfl e4 (hs10.up ((((((((hl11.trans hl18).trans hl20).trans hl27).trans hl28).trans hl37).trans hl42).trans hl48).trans hl)) e5 hf67 (fun b68 of69 vsb68 hc74 hrepb68 => ?_)
         exact st_addNil (hk _ _ (Sto.Le.refl _) ⟨b68, of69, _, rfl, hc74, hrepb68⟩)
        ·intro ρ' τ pool rs hl hd hout hk
         obtain ⟨_, e6, b68, of69, vsb68, rfl, hc74, hrepb68⟩ := hd 6 rfl
         have hrepb68 := hrepb68
         obtain ⟨_, _, rfl, rfl, ⟨_, _, rfl, ⟨_, _, rfl, rfl, ⟨_, _, rfl, rfl, ⟨_, _, rfl, ⟨v70, rfl, hs79⟩, ⟨_, _, rfl, ⟨v71, rfl, hs80⟩, ⟨_, _, rfl, rfl, rfl⟩⟩⟩⟩⟩, ⟨_, _, rfl, ⟨_, _, rfl, rfl, ⟨_, _, rfl, rfl, ⟨_, _, rfl, rfl, ⟨_, _, rfl, rfl, ⟨v72, rfl, hs81⟩⟩⟩⟩⟩, ⟨v73, rfl, hs82⟩⟩⟩⟩ := hrepb68
         refine o_loadIN (vs := (lS q66 v70 v71 v72 v73)) rfl rfl rfl z_agg31 e6 rfl (celn_part 0 rfl hc74) ?_
         exact st_addNil (hk _ _ (Sto.Le.refl _) ⟨v70, v71, v72, v73, rfl, hs79, hs80, hs81, hs82⟩)
        ·intro ρ' τ pool rs hl hd hout hk
         obtain ⟨_, e3, v53, v54, v55, v56, rfl, hs62, hs63, hs64, hs65⟩ := hd 3 rfl
         obtain ⟨_, e7, v70, v71, v72, v73, rfl, hs79, hs80, hs81, hs82⟩ := hd 7 rfl
         refine st_call (foot := []) rfl rfl rfl rfl (evs_cons e3 (evs_cons e7 rfl)) rfl (callV_fn z_en17 (script_Same_ok hr84 τ hs62 hs63 hs64 hs65 hs79 hs80 hs81 hs82 (hT.up (((((((((hl8.trans hl11).trans hl18).trans hl20).trans hl27).trans hl28).trans hl37).trans hl42).trans hl48).trans hl)))) ?_
         rintro vτ85 τ85 gsτ85 hl86 ⟨rfl, rfl⟩
         exact st_addNil (hk _ _ hl86 rfl)
        intro ρ' τ87 vals hl87 hv hout
        refine st_ord [] _ rfl ?_
        refine st_env (ρ' := [(110, .bool (!r83)), (2, v9), (6, .bool false), (15, v38), (18, .I s48)]) ⟨(lv1 hv 9 rfl rfl), (hout 2 rfl).trans rfl, (hout 6 rfl).trans rfl, (hout 15 rfl).trans rfl, (hout 18 rfl).trans rfl, trivial⟩ ?_
        refine st_end ?_
        refine st_if rfl h (fun h => ?_) (fun h => ?_)
        ·refine Z 4 rfl ?_
         obtain rfl := he48 _ h
         replace h := hA48
         obtain rfl := Eq.symm h
         exact st_ret (gs' := []) Tryz.func6 rfl (List.Sublist.refl _) (((((((((hl8.trans hl11).trans hl18).trans hl20).trans hl27).trans hl28).trans hl37).trans hl42).trans hl48).trans hl87) ⟨rfl, rfl⟩
        ·refine Z 7 rfl ?_
         exact hn48 _ _ _ _ h ⟨(hl48.trans hl87), rfl, rfl⟩
       ·refine st_exit rfl ?_
        obtain rfl := he48 _ h
        replace h := hA48
        exact hk43 _ _ _ ⟨(), h, hl48, rfl, rfl⟩
     refine Z 3 rfl ?_
     refine o_mif rfl rfl rfl rfl h (fun h => ?_) (fun h => ?_)
     ·refine Z 21 rfl ?_
      refine st_ord [] _ rfl ?_
      exact hk42 _ _ _ ⟨true, h, (Sto.Le.refl _), rfl, rfl⟩
     ·refine Z 3 rfl ?_
      refine o_mif rfl rfl rfl rfl h (fun h => ?_) (fun h => ?_)
      ·refine Z 17 rfl ?_
       refine st_ord [] _ rfl ?_
       exact hk42 _ _ _ ⟨true, h, (Sto.Le.refl _), rfl, rfl⟩
      ·refine ZZ 2 [1, 2] rfl rfl ?_
       refine o_aggEq (b := ((decide (r34.1.1 = a0.1)) && ((decide (r34.1.2.1 = a0.2.1)) && ((decide (r34.1.2.2 = a0.2.2)) && true)))) (e := (!((decide (r34.1.1 = a0.1)) && ((decide (r34.1.2.1 = a0.2.1)) && ((decide (r34.1.2.2 = a0.2.2)) && true))))) rfl rfl rfl z_eqg56 rfl rfl (fun w => by refine eq_struct Tryz.underlying56 z_held56 ?_; refine eqf_cons (r := (decide (r34.1.1 = a0.1))) (r' := ((decide (r34.1.2.1 = a0.2.1)) && ((decide (r34.1.2.2 = a0.2.2)) && true))) rfl (part_one z_sc3 rfl) (part_one z_sc3 rfl) (by exact eq_int Tryz.underlying3 _ _) ?_; refine eqf_cons (r := (decide (r34.1.2.1 = a0.2.1))) (r' := ((decide (r34.1.2.2 = a0.2.2)) && true)) rfl (part_one z_sc3 rfl) (part_one z_sc3 rfl) (by exact eq_int Tryz.underlying3 _ _) ?_; refine eqf_cons (r := (decide (r34.1.2.2 = a0.2.2))) (r' := true) rfl (part_one z_sc54 rfl) (part_one z_sc54 rfl) (by exact eq_int Tryz.underlying54 _ _) ?_; exact eqf_nil _ _ _ _) rfl ?_
       refine o_pick rfl rfl rfl rfl rfl ?_
       refine o_mif rfl rfl rfl rfl h (fun h => ?_) (fun h => ?_)
       ·refine Z 12 rfl ?_
        refine st_ord [] _ rfl ?_
        exact hk42 _ _ _ ⟨true, h, (Sto.Le.refl _), rfl, rfl⟩
       ·refine ZZ 2 [0, 3] rfl rfl ?_
        refine o_aggEq (b := ((decide (r34.2.1.1 = a1.1)) && ((decide (r34.2.1.2 = a1.2)) && true))) (e := (!((decide (r34.2.1.1 = a1.1)) && ((decide (r34.2.1.2 = a1.2)) && true)))) rfl rfl rfl z_eqg58 rfl rfl (fun w => by refine eq_struct Tryz.underlying58 z_held58 ?_; refine eqf_cons (r := (decide (r34.2.1.1 = a1.1))) (r' := ((decide (r34.2.1.2 = a1.2)) && true)) rfl (part_one z_sc54 rfl) (part_one z_sc54 rfl) (by exact eq_int Tryz.underlying54 _ _) ?_; refine eqf_cons (r := (decide (r34.2.1.2 = a1.2))) (r' := true) rfl (part_one z_sc3 rfl) (part_one z_sc3 rfl) (by exact eq_int Tryz.underlying3 _ _) ?_; exact eqf_nil _ _ _ _) rfl ?_
        refine o_pick rfl rfl rfl rfl rfl ?_
        refine o_mif rfl rfl rfl rfl h (fun h => ?_) (fun h => ?_)
        ·refine Z 7 rfl ?_
         refine st_ord [] _ rfl ?_
         exact hk42 _ _ _ ⟨true, h, (Sto.Le.refl _), rfl, rfl⟩
        ·refine o_move rfl rfl rfl rfl ?_
         refine o_lenI rfl rfl rfl z_slT59 rfl hs39 ?_
         refine o_move rfl rfl rfl rfl ?_
         refine o_lenI rfl rfl rfl z_slT59 rfl (hs10.up (((((hl11.trans hl18).trans hl20).trans hl27).trans hl28).trans hl37)) ?_
         refine Z 3 rfl ?_
         refine st_ord [] _ rfl ?_
         exact hk42 _ _ _ ⟨(!(decide ((r34.2.2.1.length : Int) = (r5.length : Int)))), h, (Sto.Le.refl _), rfl, rfl⟩
  refine Z 4 rfl ?_
  refine o_mif rfl rfl rfl rfl h (fun h => ?_) (fun h => ?_)
  ·refine Z 5 rfl ?_
   exact hk28 _ _ _ ⟨true, h, (Sto.Le.refl _), rfl, rfl⟩
  ·refine Z 5 rfl ?_
   exact hk28 _ _ _ ⟨(!(decide (r15.2 = r24.2))), h, (Sto.Le.refl _), rfl, rfl⟩
 refine Z 4 rfl ?_
 obtain ⟨e90, hL90, hA90⟩ := h
 refine st_addNil ?_
 refine st_ord [2, 1, 0] _ rfl ?_
 refine st_loop hL90 (fun (s90 : (List (TyZ)) × Int) ρ τ90 gs => τ7.Le τ90 ∧ ∃ (v91 : Value) (g92 : Grp), ESub ρ [(2, v9), (3, .Pb b3), (4, .Pb b4), (6, .bool false), (7, v91), (8, .I s90.2)] ∧ gs = [[(b3, .cells #[.I a0.1, .I a0.2.1, .int .u32 a0.2.2] 56 (0, 0))], [(b4, .cells #[.int .u32 a1.1, .I a1.2] 58 (0, 0))], g92] ∧ Ow (kP (kI .i64) (kP (kP (kI .i64) (kP (kA .i64 6) (kP (kSl (kA .i64 2)) (kP (kSl (kI .i64)) (kP kS kS))))) (kP (kP (kI .i64) (kP (kI .i64) (kP (kI .i64) (kP (kI .i64) (kSl (kI .u8)))))) (kSl (kI .i64))))) 40 τ90 v91 s90.1 g92) ⟨Sto.Le.refl _, _, _, rfl, rfl, Ow.nil⟩ ?_
 rintro s90 o90 h he90 ρ90 τ90 gs90 ⟨hl90, v91, g92, hρ, rfl, ho93⟩ hn90
 refine st_es hρ ?_
 refine Z 5 rfl ?_
 refine o_lenI rfl rfl rfl z_slT59 rfl (hs10.up hl90) ?_
 refine Z 2 rfl ?_
 refine st_if rfl h (fun h => ?_) (fun h => ?_)
 ·refine Z 7 rfl ?_
  obtain ⟨q94, hf95, h⟩ := h
  refine o_index rfl rfl rfl z_slT59 rfl rfl (hs10.up hl90) rfl hf95 (fun b96 of97 vs hc102 hrep => ?_)
  obtain ⟨_, _, rfl, rfl, ⟨_, _, rfl, ⟨_, _, rfl, rfl, ⟨_, _, rfl, rfl, ⟨_, _, rfl, ⟨v98, rfl, hs103⟩, ⟨_, _, rfl, ⟨v99, rfl, hs104⟩, ⟨_, _, rfl, rfl, rfl⟩⟩⟩⟩⟩, ⟨_, _, rfl, ⟨_, _, rfl, rfl, ⟨_, _, rfl, rfl, ⟨_, _, rfl, rfl, ⟨_, _, rfl, rfl, ⟨v100, rfl, hs105⟩⟩⟩⟩⟩, ⟨v101, rfl, hs106⟩⟩⟩⟩ := hrep
  refine o_loadIN (vs := (lS q94 v98 v99 v100 v101)) rfl rfl rfl z_agg31 rfl rfl (celn_part 0 rfl hc102) ?_
  obtain ⟨r107, hr108, h⟩ := h
  refine st_call (foot := []) rfl rfl rfl rfl rfl rfl (callV_fn z_en14 (law27_Of_ok hr108 τ90 hs103 hs104 hs105 hs106)) ?_
  rintro vτ109 τ109 gsτ109 hl110 ⟨v111, v112, v113, v114, rfl, rfl, hs115, hs116, hs117, hs118⟩
  refine o_lit (dk := (kP (kI .i64) (kP (kP (kI .i64) (kP (kA .i64 6) (kP (kSl (kA .i64 2)) (kP (kSl (kI .i64)) (kP kS kS))))) (kP (kP (kI .i64) (kP (kI .i64) (kP (kI .i64) (kP (kI .i64) (kSl (kI .u8)))))) (kSl (kI .i64)))))) (xs := [r107]) (ps := [(0, (lS r107 v111 v112 v113 v114))]) (cs := (lS r107 v111 v112 v113 v114)) rfl rfl rfl z_slT64 z_zero40 ⟨rfl, ⟨_, rfl, rfl⟩, trivial⟩ rfl rfl rfl rfl (Kd.Many.cons (d := (kP (kI .i64) (kP (kP (kI .i64) (kP (kA .i64 6) (kP (kSl (kA .i64 2)) (kP (kSl (kI .i64)) (kP kS kS))))) (kP (kP (kI .i64) (kP (kI .i64) (kP (kI .i64) (kP (kI .i64) (kSl (kI .u8)))))) (kSl (kI .i64)))))) (x := r107) (a := (lS r107 v111 v112 v113 v114)) ⟨[.I r107.1], _, rfl, rfl, ⟨(lM r107.2.1 v111 v112), _, rfl, ⟨[.I r107.2.1.1], _, rfl, rfl, ⟨[.I (r107.2.1.2.1.getD 0 0), .I (r107.2.1.2.1.getD 1 0), .I (r107.2.1.2.1.getD 2 0), .I (r107.2.1.2.1.getD 3 0), .I (r107.2.1.2.1.getD 4 0), .I (r107.2.1.2.1.getD 5 0)], _, rfl, rfl, ⟨[v111], _, rfl, ⟨_, rfl, hs115⟩, ⟨[v112], _, rfl, ⟨_, rfl, hs116⟩, ⟨[.string r107.2.1.t4.1], _, rfl, rfl, rfl⟩⟩⟩⟩⟩, ⟨(lI r107.2.2.1 v113), _, rfl, ⟨[.I r107.2.2.1.1], _, rfl, rfl, ⟨[.I r107.2.2.1.2.1], _, rfl, rfl, ⟨[.I r107.2.2.1.2.2.1], _, rfl, rfl, ⟨[.I r107.2.2.1.2.2.2.1], _, rfl, rfl, ⟨_, rfl, hs117⟩⟩⟩⟩⟩, ⟨_, rfl, hs118⟩⟩⟩⟩ Kd.Many.nil) (fun v119 g120 ho121 => ?_)
  obtain ⟨hf125, hf126, h⟩ := h
  refine st_ord [3, 0, 0, 0] _ rfl ?_
  refine o_append (dk := (kP (kI .i64) (kP (kP (kI .i64) (kP (kA .i64 6) (kP (kSl (kA .i64 2)) (kP (kSl (kI .i64)) (kP kS kS))))) (kP (kP (kI .i64) (kP (kI .i64) (kP (kI .i64) (kP (kI .i64) (kSl (kI .u8)))))) (kSl (kI .i64)))))) (xs := s90.1) (ys := [r107]) rfl rfl rfl rfl z_slT64 rfl (ho93.up hl110) rfl (Ow.src (j := 1) ho121 rfl) hf125 hf126 (fun v122 g123 ho124 => ?_)
  refine Z 8 rfl ?_
  refine st_ord [2, 2, 0] _ rfl ?_
  exact hn90 _ _ _ _ h ⟨(hl90.trans hl110), _, _, rfl, rfl, ho124⟩
 ·refine st_exit rfl ?_
  obtain rfl := he90 _ h
  replace h := hA90
  exact hk11 _ _ _ ⟨s90.1, _, _, h, hl90, rfl, rfl, ho93⟩
end Go.Rel
