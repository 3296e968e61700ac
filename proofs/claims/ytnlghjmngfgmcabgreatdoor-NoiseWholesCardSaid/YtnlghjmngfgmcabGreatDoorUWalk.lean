import Derived.Test.YtnlghjmngfgmcabGreatDoorURel
import Derived.Test.YtnlghjmngfgmcabGreatDoorUFacts
import Derived.Test.YtnlghjmngfgmcabGreatDoorUWalk0
/-! The walks. -/
set_option linter.unusedVariables false
set_option linter.unusedSimpArgs false
set_option maxRecDepth 4000
set_option maxHeartbeats 4000000
namespace Go.Rel
open Go Go.Eng Go.Proofs
theorem frame_Codec_Segment_ok {a0 : List Int} {a1 : (Int × Int × Int × Int × Int) × List Int} {bi3 : Nat} {bi1 : Nat} {v5 : Value} {r : List Int × Int} (h : frame_Codec_Segment a0 a1 r) (σ : Sto) (hc4 : CelN σ ⟨bi3, 0, none⟩ (cellsN (Value.int .u32) 0 1024 a0)) (hc2 : CelN σ ⟨bi1, 0, none⟩ [.pointer (some ⟨bi3, 0, none⟩)]) (hs6 : Sl (kI .u8) σ v5 a1.2) :
    Does Tryz.prog 53 [.pointer (some ⟨bi1, 0, none⟩), .agg [.int .i64 a1.1.1, .int .i64 a1.1.2.1, .int .u32 a1.1.2.2.1, .int .i64 a1.1.2.2.2.1, .int .i64 a1.1.2.2.2.2, v5].toArray] σ [] (fun v τ gs => ∃ (v38 : Value), gs = [] ∧ .tuple [v38, .int .i64 r.2].toArray = v ∧ Sl (kI .u8) τ v38 r.1) := by
 refine call_of Tryz.func53 Tryz.ntmps53 rfl rfl (fun cs fs => ?_)
 refine Z 2 rfl ?_
 refine o_box (cs := [.int .i64 a1.1.1, .int .i64 a1.1.2.1, .int .u32 a1.1.2.2.1, .int .i64 a1.1.2.2.2.1, .int .i64 a1.1.2.2.2.2, v5]) rfl rfl rfl rfl rfl (fun b7 => ?_)
 refine ZZ 8 [0] rfl rfl ?_
 obtain ⟨r8, hr9, h⟩ := h
 refine st_call (foot := []) rfl rfl rfl rfl rfl rfl (callV_fn z_en88 (frame_Codec_Check_ok hr9 σ hc4 hc2 hs6)) ?_
 rintro vτ10 τ10 gsτ10 hl11 ⟨rfl, rfl⟩
 refine Z 7 rfl ?_
 refine st_if rfl h (fun h => ?_) (fun h => ?_)
 ·refine Z 6 rfl ?_
  refine st_ord [] _ rfl ?_
  obtain rfl := Eq.symm h
  exact st_ret (gs' := []) Tryz.func53 rfl (List.Sublist.refl _) hl11 ⟨_, rfl, rfl, Sl.nil⟩
 ·refine ZZ 5 [0] rfl rfl ?_
  obtain ⟨r12, hr13, h⟩ := h
  refine st_call (foot := []) rfl rfl rfl rfl rfl rfl (callV_fn z_en89 (head_Bytes_ok hr13 τ10)) ?_
  rintro vτ14 τ14 gsτ14 hl15 ⟨v16, rfl, rfl, hs17, hF18⟩
  refine Z 7 rfl ?_
  obtain ⟨hf21, hf22, r25, hr26, r31, hr32, h⟩ := h
  refine st_draw 12 (dl [.v (.pointer (some ⟨bi1, 0, none⟩)), .v (.pointer (some ⟨bi1, 0, none⟩)), .v (.pointer (some ⟨bi1, 0, none⟩)), .v (.pointer (some ⟨bi3, 0, none⟩)), .v (v16), .v (.pointer (some ⟨b7, 5, none⟩)), .v (v5), .t fun τ v => ∃ (v19 : Value), (v19 : Value) = v ∧ Sl (kI .u8) τ v19 (r12.1 ++ a1.2), .t fun τ v => ∃ (v29 : Value), (v29 : Value) = v ∧ Sl (kI .u8) τ v29 r25, .t fun τ v => ∃ (v35 : Value), (v35 : Value) = v ∧ Sl (kI .u8) τ v35 r31, .v (.int .i64 r12.2), .t fun τ v => ∃ (v35 : Value), (v35 : Value) = v ∧ Sl (kI .u8) τ v35 r31]) (fun _ _ => []) z_mix rfl (dl_mono ⟨fun _ _ _ hl ⟨v19, hv, hs20⟩ => ⟨v19, hv, hs20.up hl⟩, ⟨fun _ _ _ hl ⟨v29, hv, hs30⟩ => ⟨v29, hv, hs30.up hl⟩, ⟨fun _ _ _ hl ⟨v35, hv, hs36⟩ => ⟨v35, hv, hs36.up hl⟩, ⟨fun _ _ _ hl ⟨v35, hv, hs36⟩ => ⟨v35, hv, hs36.up hl⟩, trivial⟩⟩⟩⟩) (allB_cons (allB_cons (allB_cons (allB_cons (allB_cons (allB_cons (allB_cons (allB_cons (allB_cons (allB_cons (allB_cons (allB_cons allB_nil (p1 dA)) (p1 dA)) (p1 dA)) ?_) (p1 dA)) (p1 dA)) ?_) ?_) ?_) ?_) (p1 dA)) ?_) ?_
  ·intro ρ' τ pool rs hl hd hout hk
   obtain ⟨_, e2, rfl⟩ := hd 2 rfl
   refine o_loadI (v := .pointer (some ⟨bi3, 0, none⟩)) rfl rfl rfl z_sc70 e2 ((hc2.up ((hl11.trans hl15).trans hl)) 0 _ rfl) ?_
   exact st_addNil (hk _ _ (Sto.Le.refl _) rfl)
  ·intro ρ' τ pool rs hl hd hout hk
   obtain ⟨_, e5, rfl⟩ := hd 5 rfl
   refine o_load (j := 0) (v := v5) rfl rfl rfl z_sc23 e5 rfl rfl ?_
   exact st_addNil (hk _ _ (Sto.Le.refl _) rfl)
  ·intro ρ' τ pool rs hl hd hout hk
   obtain ⟨_, e4, rfl⟩ := hd 4 rfl
   obtain ⟨_, e6, rfl⟩ := hd 6 rfl
   refine o_appendF (dk := (kI .u8)) (xs := r12.1) (ys := a1.2) rfl rfl rfl rfl z_slT23 e4 (hs17.up hl) hF18 e6 (Sl.src (hs6.up ((hl11.trans hl15).trans hl))) hf21 hf22 (fun v19 τ23 hl24 hs20 => ?_)
   exact st_addNil (hk _ _ hl24 ⟨v19, rfl, hs20⟩)
  ·intro ρ' τ pool rs hl hd hout hk
   obtain ⟨_, e3, rfl⟩ := hd 3 rfl
   obtain ⟨_, e7, v19, rfl, hs20⟩ := hd 7 rfl
   refine st_call (foot := []) rfl rfl rfl rfl (evs_cons e3 (evs_cons e7 rfl)) rfl (callV_fn z_en91 (crc_Seal_ok hr26 τ (hc4.up ((hl11.trans hl15).trans hl)) hs20)) ?_
   rintro vτ27 τ27 gsτ27 hl28 ⟨v29, rfl, rfl, hs30⟩
   exact st_addNil (hk _ _ hl28 ⟨v29, rfl, hs30⟩)
  ·intro ρ' τ pool rs hl hd hout hk
   obtain ⟨_, e8, v29, rfl, hs30⟩ := hd 8 rfl
   refine st_call (foot := []) rfl rfl rfl rfl (evs_cons e8 rfl) rfl (callV_fn z_en90 (cobs_Encode_ok hr32 τ hs30)) ?_
   rintro vτ33 τ33 gsτ33 hl34 ⟨v35, rfl, rfl, hs36⟩
   exact st_addNil (hk _ _ hl34 ⟨v35, rfl, hs36⟩)
  ·intro ρ' τ pool rs hl hd hout hk
   obtain ⟨_, e9, v35, rfl, hs36⟩ := hd 9 rfl
   refine o_assign rfl rfl rfl e9 ?_
   exact st_addNil (hk _ _ (Sto.Le.refl _) ⟨v35, rfl, hs36⟩)
  intro ρ' τ37 vals hl37 hv hout
  obtain ⟨l11, v35, t11, hs36⟩ := hv 11 (by decide)
  replace l11 : Eng.look ρ' 4 = some (v35) := l11.trans (congrArg some (Eq.symm t11))
  refine st_ord [0] _ rfl ?_
  refine st_env (ρ' := [(31, .int .i64 r12.2), (4, v35), (5, .int .i64 0)]) ⟨(lv1 hv 10 rfl rfl), l11, (hout 5 rfl).trans rfl, trivial⟩ ?_
  refine Z 2 rfl ?_
  refine st_ord [] _ rfl ?_
  obtain rfl := Eq.symm h
  exact st_ret (gs' := []) Tryz.func53 rfl (List.Sublist.refl _) ((hl11.trans hl15).trans hl37) ⟨_, rfl, rfl, hs36⟩
theorem fence_Wrap_ok {a0 : List (List Int)} {v1 : Value} {r : List Int} (h : fence_Wrap a0 r) (σ : Sto) (hs2 : Sl (kSl (kI .u8)) σ v1 a0) :
    Does Tryz.prog 54 [v1] σ [] (fun v τ gs => ∃ (v46 : Value), gs = [] ∧ v46 = v ∧ Sl (kI .u8) τ v46 r) := by
 refine call_of Tryz.func54 Tryz.ntmps54 rfl rfl (fun cs fs => ?_)
 refine Z 9 rfl ?_
 refine st_cut (fun ρ τ3 gs => ∃ (s3 : List Int) (v4 : Value) (g5 : Grp), fence_Wrap_j1 s3 r ∧ σ.Le τ3 ∧ ESub ρ [(2, .slice none 0 0), (3, v4)] ∧ gs = [g5] ∧ Ow (kI .u8) 5 τ3 v4 s3 g5) ?_ (fun hk3 => ?_)
 ·rintro ρ3 τ3 gs3 ⟨s3, v4, g5, h, hl3, hρ, rfl, ho6⟩
  refine st_es hρ ?_
  refine Z 5 rfl ?_
  refine st_freeze (fun τ7 hl8 hg9 => ?_)
  have hs10 := ho6.freeze hl8 hg9
  obtain rfl := Eq.symm h
  exact st_ret (gs' := []) Tryz.func54 rfl (List.Sublist.refl _) (hl3.trans hl8) ⟨_, rfl, rfl, hs10⟩
 refine Z 3 rfl ?_
 refine o_lenI rfl rfl rfl z_slT22 rfl hs2 ?_
 refine Z 2 rfl ?_
 obtain ⟨e13, hL13, hA13⟩ := h
 refine st_addNil ?_
 refine st_loop hL13 (fun (s13 : List Int × Int) ρ τ13 gs => σ.Le τ13 ∧ ∃ (v14 : Value) (g15 : Grp), ESub ρ [(2, .slice none 0 0), (3, v14), (6, v1), (7, .int .i64 (a0.length : Int)), (8, .int .i64 s13.2)] ∧ gs = [g15] ∧ Ow (kI .u8) 5 τ13 v14 s13.1 g15) ⟨Sto.Le.refl _, _, _, rfl, rfl, Ow.nil⟩ ?_
 rintro s13 o13 h he13 ρ13 τ13 gs13 ⟨hl13, v14, g15, hρ, rfl, ho16⟩ hn13
 refine st_es hρ ?_
 refine Z 5 rfl ?_
 refine st_if rfl h (fun h => ?_) (fun h => ?_)
 ·refine Z 5 rfl ?_
  obtain ⟨q17, hf18, h⟩ := h
  refine o_index rfl rfl rfl z_slT22 rfl rfl (hs2.up hl13) rfl hf18 (fun b19 of20 vs hc22 hrep => ?_)
  obtain ⟨v21, rfl, hs23⟩ := hrep
  refine o_loadI (v := v21) rfl rfl rfl z_sc23 rfl (hc22 0 _ rfl) ?_
  refine Z 5 rfl ?_
  refine o_litE (eI .u8) [0] rfl rfl rfl z_slT23 z_zero5 ⟨rfl, ⟨_, rfl, rfl⟩, trivial⟩ rfl rfl rfl rfl (fun v24 g25 ho26 => ?_)
  obtain ⟨hf30, hf31, h⟩ := h
  refine st_ord [1, 0] _ rfl ?_
  refine o_append (dk := (kI .u8)) (xs := s13.1) (ys := [0]) rfl rfl rfl rfl z_slT23 rfl ho16 rfl (Ow.src (j := 1) ho26 rfl) hf30 hf31 (fun v27 g28 ho29 => ?_)
  refine Z 6 rfl ?_
  obtain ⟨hf35, hf36, h⟩ := h
  refine o_append (dk := (kI .u8)) (xs := (s13.1 ++ [0])) (ys := q17) rfl rfl rfl rfl z_slT23 rfl ho29 rfl (Sl.src hs23) hf35 hf36 (fun v32 g33 ho34 => ?_)
  refine Z 4 rfl ?_
  refine o_litE (eI .u8) [0] rfl rfl rfl z_slT23 z_zero5 ⟨rfl, ⟨_, rfl, rfl⟩, trivial⟩ rfl rfl rfl rfl (fun v37 g38 ho39 => ?_)
  obtain ⟨hf43, hf44, h⟩ := h
  refine st_ord [1, 0, 0] _ rfl ?_
  refine o_append (dk := (kI .u8)) (xs := ((s13.1 ++ [0]) ++ q17)) (ys := [0]) rfl rfl rfl rfl z_slT23 rfl ho34 rfl (Ow.src (j := 1) ho39 rfl) hf43 hf44 (fun v40 g41 ho42 => ?_)
  refine Z 7 rfl ?_
  refine st_ord [0] _ rfl ?_
  exact hn13 _ _ _ _ h ⟨hl13, _, _, rfl, rfl, ho42⟩
 ·refine st_exit rfl ?_
  obtain rfl := he13 _ h
  replace h := hA13
  exact hk3 _ _ _ ⟨s13.1, _, _, h, hl13, rfl, rfl, ho16⟩
theorem frame_Codec_Pack_ok {a0 : List Int} {a1 : List ((Int × Int × Int × Int × Int) × List Int)} {bi3 : Nat} {bi1 : Nat} {v5 : Value} {r : List Int × Int} (h : frame_Codec_Pack a0 a1 r) (σ : Sto) (hc4 : CelN σ ⟨bi3, 0, none⟩ (cellsN (Value.int .u32) 0 1024 a0)) (hc2 : CelN σ ⟨bi1, 0, none⟩ [.pointer (some ⟨bi3, 0, none⟩)]) (hs6 : Sl (kP (kP (kI .i64) (kP (kI .i64) (kP (kI .u32) (kP (kI .i64) (kI .i64))))) (kSl (kI .u8))) σ v5 a1) :
    Does Tryz.prog 23 [.pointer (some ⟨bi1, 0, none⟩), v5] σ [] (fun v τ gs => ∃ (v49 : Value), gs = [] ∧ .tuple [v49, .int .i64 r.2].toArray = v ∧ Sl (kI .u8) τ v49 r.1) := by
 refine call_of Tryz.func23 Tryz.ntmps23 rfl rfl (fun cs fs => ?_)
 refine Z 25 rfl ?_
 refine st_cut (fun ρ τ7 gs => ∃ (s7 : List (List Int) × Int) (v8 : Value) (g9 : Grp), frame_Codec_Pack_j1 s7 r ∧ σ.Le τ7 ∧ ESub ρ [(4, .slice none 0 0), (5, .int .i64 0), (6, v8), (7, .int .i64 s7.2)] ∧ gs = [g9] ∧ Ow (kSl (kI .u8)) 23 τ7 v8 s7.1 g9) ?_ (fun hk7 => ?_)
 ·rintro ρ7 τ7 gs7 ⟨s7, v8, g9, h, hl7, hρ, rfl, ho10⟩
  refine st_es hρ ?_
  refine Z 3 rfl ?_
  obtain ⟨r16, hr17, h⟩ := h
  refine st_freeze (fun τ11 hl12 hg13 => ?_)
  have hs14 := ho10.freeze hl12 hg13
  refine st_call (foot := []) rfl rfl rfl rfl rfl rfl (callV_fn z_en54 (fence_Wrap_ok hr17 τ11 hs14)) ?_
  rintro vτ18 τ18 gsτ18 hl19 ⟨v20, rfl, rfl, hs21⟩
  refine Z 4 rfl ?_
  obtain rfl := Eq.symm h
  exact st_ret (gs' := []) Tryz.func23 rfl (List.Sublist.refl _) ((hl7.trans hl12).trans hl19) ⟨_, rfl, rfl, hs21⟩
 refine Z 3 rfl ?_
 refine o_lenI rfl rfl rfl z_slT56 rfl hs6 ?_
 refine Z 2 rfl ?_
 obtain ⟨e22, hL22, hA22⟩ := h
 refine st_addNil ?_
 refine st_loop hL22 (fun (s22 : List (List Int) × Int) ρ τ22 gs => σ.Le τ22 ∧ ∃ (v23 : Value) (g24 : Grp), ESub ρ [(0, .pointer (some ⟨bi1, 0, none⟩)), (4, .slice none 0 0), (5, .int .i64 0), (6, v23), (7, .int .i64 0), (14, v5), (15, .int .i64 (a1.length : Int)), (16, .int .i64 s22.2)] ∧ gs = [g24] ∧ Ow (kSl (kI .u8)) 23 τ22 v23 s22.1 g24) ⟨Sto.Le.refl _, _, _, rfl, rfl, Ow.nil⟩ ?_
 rintro s22 o22 h he22 ρ22 τ22 gs22 ⟨hl22, v23, g24, hρ, rfl, ho25⟩ hn22
 refine st_es hρ ?_
 refine Z 5 rfl ?_
 refine st_if rfl h (fun h => ?_) (fun h => ?_)
 ·refine Z 5 rfl ?_
  obtain ⟨q26, hf27, h⟩ := h
  refine o_index rfl rfl rfl z_slT56 rfl rfl (hs6.up hl22) rfl hf27 (fun b28 of29 vs hc31 hrep => ?_)
  obtain ⟨_, _, rfl, ⟨_, _, rfl, rfl, ⟨_, _, rfl, rfl, ⟨_, _, rfl, rfl, ⟨_, _, rfl, rfl, rfl⟩⟩⟩⟩, ⟨v30, rfl, hs32⟩⟩ := hrep
  refine o_loadIN (vs := [.int .i64 q26.1.1, .int .i64 q26.1.2.1, .int .u32 q26.1.2.2.1, .int .i64 q26.1.2.2.2.1, .int .i64 q26.1.2.2.2.2, v30]) rfl rfl rfl z_agg61 rfl rfl (celn_part 0 rfl hc31) ?_
  refine o_alloc rfl rfl rfl z_zero61 (fun b33 => ?_)
  refine o_store (j := 0) (vs := [.int .i64 q26.1.1, .int .i64 q26.1.2.1, .int .u32 q26.1.2.2.1, .int .i64 q26.1.2.2.2.1, .int .i64 q26.1.2.2.2.2, v30]) (cs' := [.int .i64 q26.1.1, .int .i64 q26.1.2.1, .int .u32 q26.1.2.2.1, .int .i64 q26.1.2.2.2.1, .int .i64 q26.1.2.2.2.2, v30]) rfl rfl rfl z_size61 rfl rfl rfl (ones_cons rfl (ones_cons rfl (ones_cons rfl (ones_cons rfl (ones_cons rfl (ones_cons hs32.one' ones_nil)))))) rfl rfl rfl ?_
  refine st_gs [[(b33, .cells #[.int .i64 q26.1.1, .int .i64 q26.1.2.1, .int .u32 q26.1.2.2.1, .int .i64 q26.1.2.2.2.1, .int .i64 q26.1.2.2.2.2, v30] 61 (0, 0))], g24] rfl ?_
  refine ZZ 5 [0] rfl rfl ?_
  obtain ⟨r34, hr35, h⟩ := h
  refine st_call (foot := []) rfl rfl rfl rfl rfl rfl (callV_fn z_en53 (frame_Codec_Segment_ok hr35 τ22 (hc4.up hl22) (hc2.up hl22) hs32)) ?_
  rintro vτ36 τ36 gsτ36 hl37 ⟨v38, rfl, rfl, hs39⟩
  refine Z 12 rfl ?_
  refine st_if rfl h (fun h => ?_) (fun h => ?_)
  ·refine Z 7 rfl ?_
   obtain rfl := he22 _ h
   replace h := hA22
   refine st_addNil ?_
   refine st_ord [0] _ rfl ?_
   exact hk7 _ _ _ ⟨([], r34.2), _, _, h, (hl22.trans hl37), rfl, rfl, Ow.nil⟩
  ·refine Z 4 rfl ?_
   refine o_lit (dk := (kSl (kI .u8))) (xs := [r34.1]) (ps := [(0, [v38])]) (cs := [v38]) rfl rfl rfl z_slT22 z_zero23 ⟨rfl, ⟨_, rfl, (oneL_sl hs39)⟩, trivial⟩ rfl rfl rfl rfl (Kd.Many.cons (d := (kSl (kI .u8))) (x := r34.1) (a := [v38]) ⟨_, rfl, hs39⟩ Kd.Many.nil) (fun v40 g41 ho42 => ?_)
   obtain ⟨hf46, hf47, h⟩ := h
   refine st_ord [2, 0, 0] _ rfl ?_
   refine o_append (dk := (kSl (kI .u8))) (xs := s22.1) (ys := [r34.1]) rfl rfl rfl rfl z_slT22 rfl (ho25.up hl37) rfl (Ow.src (j := 1) ho42 rfl) hf46 hf47 (fun v43 g44 ho45 => ?_)
   refine Z 7 rfl ?_
   refine st_ord [0] _ rfl ?_
   exact hn22 _ _ _ _ h ⟨(hl22.trans hl37), _, _, rfl, rfl, ho45⟩
 ·refine st_exit rfl ?_
  obtain rfl := he22 _ h
  replace h := hA22
  exact hk7 _ _ _ ⟨(s22.1, 0), _, _, h, hl22, rfl, rfl, ho25⟩
theorem law26_NoiseWholes_ok {a0 : List ((Int × Int × Int × Int × Int) × List Int)} {a1 : List Int} {a2 : Int} {v1 : Value} {v3 : Value} {r : Bool} (h : law26_NoiseWholes a0 a1 a2 r) (σ : Sto) (hs2 : Sl (kP (kP (kI .i64) (kP (kI .i64) (kP (kI .u32) (kP (kI .i64) (kI .i64))))) (kSl (kI .u8))) σ v1 a0) (hs4 : Sl (kI .i64) σ v3 a1) (hE : Errs Tryz.prog σ) :
    Does Tryz.prog 6 [v1, v3, .int .i64 a2] σ [] (fun v τ gs => gs = [] ∧ .bool r = v) := by
 refine call_of Tryz.func6 Tryz.ntmps6 rfl rfl (fun cs fs => ?_)
 refine Z 6 rfl ?_
 obtain ⟨r5, hr6, h⟩ := h
 refine st_call (foot := []) rfl rfl rfl rfl rfl rfl (callV_fn z_en8 (frame_New_ok hr6 σ)) ?_
 rintro vτ7 τ7 gsτ7 hl8 ⟨bi11, bi9, rfl, rfl, hc12, hc10⟩
 refine Z 7 rfl ?_
 refine st_cut (fun ρ τ13 gs => ∃ (s13 : List (List Int)) (v14 : Value) (g15 : Grp), law26_NoiseWholes_j1 a1 a2 r5 s13 r ∧ τ7.Le τ13 ∧ ESub ρ [(1, v3), (2, .int .i64 a2), (6, .bool false), (7, .pointer (some ⟨bi9, 0, none⟩)), (8, v14)] ∧ gs = [g15] ∧ Ow (kSl (kI .u8)) 23 τ13 v14 s13 g15) ?_ (fun hk13 => ?_)
 ·rintro ρ13 τ13 gs13 ⟨s13, v14, g15, h, hl13, hρ, rfl, ho16⟩
  refine st_es hρ ?_
  refine Z 9 rfl ?_
  refine st_cut (fun ρ τ17 gs => ∃ (s17 : (List (Int × Int × Int × Int × List Int)) × Int) (v18 : Value) (g19 : Grp), law26_NoiseWholes_j2 r5 s13 s17 r ∧ τ13.Le τ17 ∧ ESub ρ [(6, .bool false), (7, .pointer (some ⟨bi9, 0, none⟩)), (8, v14), (13, v18), (14, .int .i64 s17.2)] ∧ gs = [g15, g19] ∧ Ow (kP (kI .i64) (kP (kI .i64) (kP (kI .i64) (kP (kI .i64) (kSl (kI .u8)))))) 67 τ17 v18 s17.1 g19) ?_ (fun hk17 => ?_)
  ·rintro ρ17 τ17 gs17 ⟨s17, v18, g19, h, hl17, hρ, rfl, ho20⟩
   refine st_es hρ ?_
   refine Z 4 rfl ?_
   obtain ⟨r31, hr32, h⟩ := h
   refine st_freeze (fun τ21 hl22 hg23 => ?_)
   have hs24 := ho16.freeze (hl17.trans hl22) hg23
   refine st_freeze (fun τ26 hl27 hg28 => ?_)
   have hs29 := ho20.freeze (hl22.trans hl27) hg28
   refine st_call (foot := []) rfl rfl rfl rfl rfl rfl (callV_fn z_en24 (noise_Run_ok hr32 τ26 (hs24.up hl27) hs29)) ?_
   rintro vτ33 τ33 gsτ33 hl34 ⟨v35, rfl, rfl, hs36⟩
   refine Z 3 rfl ?_
   refine st_cut (fun ρ τ37 gs => ∃ (s37 : Bool), law26_NoiseWholes_j3 s37 r ∧ τ33.Le τ37 ∧ ESub ρ [(6, .bool s37)] ∧ gs = []) ?_ (fun hk37 => ?_)
   ·rintro ρ37 τ37 gs37 ⟨s37, h, hl37, hρ, rfl⟩
    refine st_es hρ ?_
    obtain rfl := Eq.symm h
    exact st_ret (gs' := []) Tryz.func6 rfl (List.Sublist.refl _) ((((((hl8.trans hl13).trans hl17).trans hl22).trans hl27).trans hl34).trans hl37) ⟨rfl, rfl⟩
   refine st_region ?_
   obtain ⟨r38, hr39, h⟩ := h
   refine st_call (foot := []) rfl rfl rfl rfl rfl rfl (callV_fn z_en11 (law26_known_ok hr39 τ33 (hE.up (((((hl8.trans hl13).trans hl17).trans hl22).trans hl27).trans hl34)))) ?_
   rintro vτ40 τ40 gsτ40 hl41 ⟨rfl, rfl⟩
   refine o_mif rfl rfl rfl rfl h (fun h => ?_) (fun h => ?_)
   ·refine o_move rfl rfl rfl rfl ?_
    refine o_lenI rfl rfl rfl z_slT23 rfl (hs36.up hl41) ?_
    refine Z 3 rfl ?_
    refine o_mif rfl rfl rfl rfl h (fun h => ?_) (fun h => ?_)
    ·refine Z 3 rfl ?_
     obtain ⟨r42, hr43, h⟩ := h
     refine st_call (foot := []) rfl rfl rfl rfl rfl rfl (callV_fn z_en12 (noise_Honest_ok hr43 τ40 (hc12.up (((((hl13.trans hl17).trans hl22).trans hl27).trans hl34).trans hl41)) (hc10.up (((((hl13.trans hl17).trans hl22).trans hl27).trans hl34).trans hl41)) (hs24.up ((hl27.trans hl34).trans hl41)) (hs36.up hl41))) ?_
     rintro vτ44 τ44 gsτ44 hl45 ⟨rfl, rfl⟩
     refine Z 3 rfl ?_
     exact hk37 _ _ _ ⟨r42, h, (hl41.trans hl45), rfl, rfl⟩
    ·refine Z 7 rfl ?_
     exact hk37 _ _ _ ⟨false, h, hl41, rfl, rfl⟩
   ·refine Z 13 rfl ?_
    exact hk37 _ _ _ ⟨false, h, hl41, rfl, rfl⟩
  refine Z 4 rfl ?_
  obtain ⟨e46, hL46, hA46⟩ := h
  refine st_addNil ?_
  refine st_ord [1, 0] _ rfl ?_
  refine st_loop hL46 (fun (s46 : (List (Int × Int × Int × Int × List Int)) × Int × Int) ρ τ46 gs => τ13.Le τ46 ∧ ∃ (v47 : Value) (g48 : Grp), ESub ρ [(1, v3), (2, .int .i64 a2), (6, .bool false), (7, .pointer (some ⟨bi9, 0, none⟩)), (8, v14), (13, v47), (14, .int .i64 s46.2.1), (15, .int .i64 s46.2.2)] ∧ gs = [g15, g48] ∧ Ow (kP (kI .i64) (kP (kI .i64) (kP (kI .i64) (kP (kI .i64) (kSl (kI .u8)))))) 67 τ46 v47 s46.1 g48) ⟨Sto.Le.refl _, _, _, rfl, rfl, Ow.nil⟩ ?_
  rintro s46 o46 h he46 ρ46 τ46 gs46 ⟨hl46, v47, g48, hρ, rfl, ho49⟩ hn46
  refine st_es hρ ?_
  refine Z 2 rfl ?_
  refine st_cut (fun ρ τ50 gs => ∃ (s50 : Bool), law26_NoiseWholes_j5 a1 a2 s13 s46 s50 o46 ∧ τ46.Le τ50 ∧ ESub ρ [(1, v3), (2, .int .i64 a2), (6, .bool false), (7, .pointer (some ⟨bi9, 0, none⟩)), (8, v14), (13, v47), (14, .int .i64 s46.2.1), (15, .int .i64 s46.2.2), (66, .bool s50)] ∧ gs = [g15, g48]) ?_ (fun hk50 => ?_)
  ·rintro ρ50 τ50 gs50 ⟨s50, h, hl50, hρ, rfl⟩
   refine st_es hρ ?_
   refine st_if rfl h (fun h => ?_) (fun h => ?_)
   ·refine Z 7 rfl ?_
    obtain ⟨q51, hf52, h⟩ := h
    refine o_index rfl rfl rfl z_slT27 rfl rfl (hs4.up (((hl8.trans hl13).trans hl46).trans hl50)) rfl hf52 (fun b53 of54 vs hc55 hrep => ?_)
    obtain rfl := hrep
    refine o_loadI (v := .int .i64 q51) rfl rfl rfl z_sc3 rfl (hc55 0 _ rfl) ?_
    refine Z 2 rfl ?_
    refine o_lenO rfl rfl rfl z_slT22 rfl (ho16.up (hl46.trans hl50)) ?_
    refine o_conv rfl rfl rfl Tryz.underlying3 Tryz.underlying65 rfl ?_
    obtain ⟨hf56, h⟩ := h
    refine o_rem rfl rfl rfl rfl rfl hf56 ?_
    refine ZZ 12 [] rfl rfl ?_
    obtain ⟨hf57, hf58, hf59, h⟩ := h
    refine o_make (dk := (kI .u8)) (zs := [.int .u8 0]) (q := 0) rfl rfl rfl z_slT23 rfl z_zero5 rfl rfl rfl rfl hf57 (Int.le_refl _) hf58 hf59 (fun v60 g61 ho62 => ?_)
    refine o_build (ps := [(0, [.int .i64 4]), (4, [v60])]) (cs := [.int .i64 4, .int .i64 0, .int .i64 0, .int .i64 0, v60]) rfl rfl rfl z_struct67 ⟨rfl, ⟨_, rfl, rfl⟩, ⟨rfl, ⟨_, rfl, (oneL_ow ho62)⟩, trivial⟩⟩ rfl ?_
    refine st_freeze (fun τ63 hl64 hg65 => ?_)
    have hs66 := ho62.freeze hl64 hg65
    refine o_lit (dk := (kP (kI .i64) (kP (kI .i64) (kP (kI .i64) (kP (kI .i64) (kSl (kI .u8))))))) (xs := [(1, (IntKind.i64.wrap ((IntKind.u64.wrap q51).tmod (IntKind.u64.wrap (s13.length : Int)))), 0, 0, []), (4, 0, 0, 0, (List.replicate (IntKind.i64.wrap ((IntKind.u64.wrap a2).tmod 4)).toNat 0))]) (ps := [(0, [.int .i64 1, .int .i64 (IntKind.i64.wrap ((IntKind.u64.wrap q51).tmod (IntKind.u64.wrap (s13.length : Int)))), .int .i64 0, .int .i64 0, .slice none 0 0]), (1, [.int .i64 4, .int .i64 0, .int .i64 0, .int .i64 0, v60])]) (cs := [.int .i64 1, .int .i64 (IntKind.i64.wrap ((IntKind.u64.wrap q51).tmod (IntKind.u64.wrap (s13.length : Int)))), .int .i64 0, .int .i64 0, .slice none 0 0, .int .i64 4, .int .i64 0, .int .i64 0, .int .i64 0, v60]) rfl rfl rfl z_slT64 z_zero67 ⟨rfl, ⟨_, rfl, rfl⟩, ⟨rfl, ⟨_, rfl, rfl⟩, trivial⟩⟩ rfl rfl rfl rfl (Kd.Many.cons (d := (kP (kI .i64) (kP (kI .i64) (kP (kI .i64) (kP (kI .i64) (kSl (kI .u8))))))) (x := (1, (IntKind.i64.wrap ((IntKind.u64.wrap q51).tmod (IntKind.u64.wrap (s13.length : Int)))), 0, 0, [])) (a := [.int .i64 1, .int .i64 (IntKind.i64.wrap ((IntKind.u64.wrap q51).tmod (IntKind.u64.wrap (s13.length : Int)))), .int .i64 0, .int .i64 0, .slice none 0 0]) ⟨[.int .i64 1], _, rfl, rfl, ⟨[.int .i64 (IntKind.i64.wrap ((IntKind.u64.wrap q51).tmod (IntKind.u64.wrap (s13.length : Int))))], _, rfl, rfl, ⟨[.int .i64 0], _, rfl, rfl, ⟨[.int .i64 0], _, rfl, rfl, ⟨_, rfl, Sl.nil⟩⟩⟩⟩⟩ (Kd.Many.cons (d := (kP (kI .i64) (kP (kI .i64) (kP (kI .i64) (kP (kI .i64) (kSl (kI .u8))))))) (x := (4, 0, 0, 0, (List.replicate (IntKind.i64.wrap ((IntKind.u64.wrap a2).tmod 4)).toNat 0))) (a := [.int .i64 4, .int .i64 0, .int .i64 0, .int .i64 0, v60]) ⟨[.int .i64 4], _, rfl, rfl, ⟨[.int .i64 0], _, rfl, rfl, ⟨[.int .i64 0], _, rfl, rfl, ⟨[.int .i64 0], _, rfl, rfl, ⟨_, rfl, hs66⟩⟩⟩⟩⟩ Kd.Many.nil)) (fun v68 g69 ho70 => ?_)
    obtain ⟨hf74, hf75, h⟩ := h
    refine st_ord [2, 0, 0] _ rfl ?_
    refine o_append (dk := (kP (kI .i64) (kP (kI .i64) (kP (kI .i64) (kP (kI .i64) (kSl (kI .u8))))))) (xs := s46.1) (ys := [(1, (IntKind.i64.wrap ((IntKind.u64.wrap q51).tmod (IntKind.u64.wrap (s13.length : Int)))), 0, 0, []), (4, 0, 0, 0, (List.replicate (IntKind.i64.wrap ((IntKind.u64.wrap a2).tmod 4)).toNat 0))]) rfl rfl rfl rfl z_slT64 rfl (ho49.up (hl50.trans hl64)) rfl (Ow.src (j := 1) ho70 rfl) hf74 hf75 (fun v71 g72 ho73 => ?_)
    refine Z 6 rfl ?_
    obtain ⟨q76, hf77, h⟩ := h
    refine o_indexOw rfl rfl rfl z_slT22 rfl rfl (ho16.up ((hl46.trans hl50).trans hl64)) rfl hf77 (fun b78 hb79 => ?_)
    obtain ⟨vs80, hrep81, hat82⟩ := Ow.at (ho16.up ((hl46.trans hl50).trans hl64)) hb79 hf77
    obtain ⟨v83, rfl, hs84⟩ := hrep81
    refine o_loadOw (off := 0) (j := 2) (v := v83) rfl rfl rfl z_sc23 rfl hat82 rfl rfl ?_
    refine o_lenI rfl rfl rfl z_slT23 rfl hs84 ?_
    refine Z 14 rfl ?_
    refine st_ord [2, 0] _ rfl ?_
    exact hn46 _ _ _ _ h ⟨((hl46.trans hl50).trans hl64), _, _, rfl, rfl, ho73⟩
   ·refine st_exit rfl ?_
    obtain rfl := he46 _ h
    replace h := hA46
    exact hk17 _ _ _ ⟨(s46.1, s46.2.1), _, _, h, (hl46.trans hl50), rfl, rfl, (ho49.up hl50)⟩
  refine Z 3 rfl ?_
  refine o_lenI rfl rfl rfl z_slT27 rfl (hs4.up ((hl8.trans hl13).trans hl46)) ?_
  refine o_ibin (v := .bool (decide (s46.2.2 < (a1.length : Int)))) rfl rfl rfl rfl rfl rfl ?_
  refine o_mif rfl rfl rfl rfl h (fun h => ?_) (fun h => ?_)
  ·refine Z 3 rfl ?_
   refine o_mif rfl rfl rfl rfl h (fun h => ?_) (fun h => ?_)
   ·refine o_move rfl rfl rfl rfl ?_
    refine o_lenO rfl rfl rfl z_slT22 rfl (ho16.up hl46) ?_
    refine Z 3 rfl ?_
    exact hk50 _ _ _ ⟨(decide (0 < (s13.length : Int))), h, (Sto.Le.refl _), rfl, rfl⟩
   ·refine Z 5 rfl ?_
    exact hk50 _ _ _ ⟨false, h, (Sto.Le.refl _), rfl, rfl⟩
  ·refine Z 9 rfl ?_
   exact hk50 _ _ _ ⟨false, h, (Sto.Le.refl _), rfl, rfl⟩
 refine Z 4 rfl ?_
 obtain ⟨e86, hL86, hA86⟩ := h
 refine st_addNil ?_
 refine st_loop hL86 (fun (s86 : List (List Int) × Int) ρ τ86 gs => τ7.Le τ86 ∧ ∃ (v87 : Value) (g88 : Grp), ESub ρ [(0, v1), (1, v3), (2, .int .i64 a2), (6, .bool false), (7, .pointer (some ⟨bi9, 0, none⟩)), (8, v87), (9, .int .i64 s86.2)] ∧ gs = [g88] ∧ Ow (kSl (kI .u8)) 23 τ86 v87 s86.1 g88) ⟨Sto.Le.refl _, _, _, rfl, rfl, Ow.nil⟩ ?_
 rintro s86 o86 h he86 ρ86 τ86 gs86 ⟨hl86, v87, g88, hρ, rfl, ho89⟩ hn86
 refine st_es hρ ?_
 refine Z 2 rfl ?_
 refine st_cut (fun ρ τ90 gs => ∃ (s90 : Bool), law26_NoiseWholes_j7 a0 r5 s86 s90 o86 ∧ τ86.Le τ90 ∧ ESub ρ [(0, v1), (1, v3), (2, .int .i64 a2), (6, .bool false), (7, .pointer (some ⟨bi9, 0, none⟩)), (8, v87), (9, .int .i64 s86.2), (26, .bool s90)] ∧ gs = [g88]) ?_ (fun hk90 => ?_)
 ·rintro ρ90 τ90 gs90 ⟨s90, h, hl90, hρ, rfl⟩
  refine st_es hρ ?_
  refine st_if rfl h (fun h => ?_) (fun h => ?_)
  ·refine Z 2 rfl ?_
   refine st_cut (fun ρ τ91 gs => ∃ (s91 : List (List Int)) (v92 : Value) (g93 : Grp), law26_NoiseWholes_j8 s86 s91 o86 ∧ τ90.Le τ91 ∧ ESub ρ [(0, v1), (1, v3), (2, .int .i64 a2), (6, .bool false), (7, .pointer (some ⟨bi9, 0, none⟩)), (8, v92), (9, .int .i64 s86.2)] ∧ gs = [g93] ∧ Ow (kSl (kI .u8)) 23 τ91 v92 s91 g93) ?_ (fun hk91 => ?_)
   ·rintro ρ91 τ91 gs91 ⟨s91, v92, g93, h, hl91, hρ, rfl, ho94⟩
    refine st_es hρ ?_
    refine Z 5 rfl ?_
    exact hn86 _ _ _ _ h ⟨((hl86.trans hl90).trans hl91), _, _, rfl, rfl, ho94⟩
   refine Z 5 rfl ?_
   obtain ⟨q95, hf96, h⟩ := h
   refine o_index rfl rfl rfl z_slT56 rfl rfl (hs2.up ((hl8.trans hl86).trans hl90)) rfl hf96 (fun b97 of98 vs hc100 hrep => ?_)
   obtain ⟨_, _, rfl, ⟨_, _, rfl, rfl, ⟨_, _, rfl, rfl, ⟨_, _, rfl, rfl, ⟨_, _, rfl, rfl, rfl⟩⟩⟩⟩, ⟨v99, rfl, hs101⟩⟩ := hrep
   refine o_loadIN (vs := [.int .i64 q95.1.1, .int .i64 q95.1.2.1, .int .u32 q95.1.2.2.1, .int .i64 q95.1.2.2.2.1, .int .i64 q95.1.2.2.2.2, v99]) rfl rfl rfl z_agg61 rfl rfl (celn_part 0 rfl hc100) ?_
   refine o_alloc rfl rfl rfl z_zero61 (fun b102 => ?_)
   refine o_store (j := 0) (vs := [.int .i64 q95.1.1, .int .i64 q95.1.2.1, .int .u32 q95.1.2.2.1, .int .i64 q95.1.2.2.2.1, .int .i64 q95.1.2.2.2.2, v99]) (cs' := [.int .i64 q95.1.1, .int .i64 q95.1.2.1, .int .u32 q95.1.2.2.1, .int .i64 q95.1.2.2.2.1, .int .i64 q95.1.2.2.2.2, v99]) rfl rfl rfl z_size61 rfl rfl rfl (ones_cons rfl (ones_cons rfl (ones_cons rfl (ones_cons rfl (ones_cons rfl (ones_cons hs101.one' ones_nil)))))) rfl rfl rfl ?_
   refine st_gs [[(b102, .cells #[.int .i64 q95.1.1, .int .i64 q95.1.2.1, .int .u32 q95.1.2.2.1, .int .i64 q95.1.2.2.2.1, .int .i64 q95.1.2.2.2.2, v99] 61 (0, 0))], g88] rfl ?_
   refine ZZ 7 [0, 0] rfl rfl ?_
   refine o_lenI rfl rfl rfl z_slT23 rfl hs101 ?_
   refine o_min2 rfl rfl rfl rfl rfl ?_
   obtain ⟨hf103, hf104, h⟩ := h
   refine o_slice (L := 0) (H := (min (q95.2.length : Int) 242)) rfl rfl rfl z_slT23 rfl rfl hs101 rfl ⟨_, rfl⟩ (by decide) hf103 hf104 trivial (by simp) (fun v105 hs106 => ?_)
   refine o_fieldAddr rfl rfl rfl z_field61_1 rfl ?_
   refine o_store (j := 0) (vs := [v105]) (cs' := [.int .i64 q95.1.1, .int .i64 q95.1.2.1, .int .u32 q95.1.2.2.1, .int .i64 q95.1.2.2.2.1, .int .i64 q95.1.2.2.2.2, v105]) rfl rfl rfl z_size23 rfl rfl (oneL_sl hs106) (ones_cons hs106.one' ones_nil) rfl rfl rfl ?_
   refine st_gs [[(b102, .cells #[.int .i64 q95.1.1, .int .i64 q95.1.2.1, .int .u32 q95.1.2.2.1, .int .i64 q95.1.2.2.2.1, .int .i64 q95.1.2.2.2.2, v105] 61 (0, 0))], g88] rfl ?_
   refine ZZ 5 [0] rfl rfl ?_
   refine o_lit (dk := (kP (kP (kI .i64) (kP (kI .i64) (kP (kI .u32) (kP (kI .i64) (kI .i64))))) (kSl (kI .u8)))) (xs := [(q95.1, ((q95.2.drop (0 : Int).toNat).take (((min (q95.2.length : Int) 242) : Int) - 0).toNat))]) (ps := [(0, [.int .i64 q95.1.1, .int .i64 q95.1.2.1, .int .u32 q95.1.2.2.1, .int .i64 q95.1.2.2.2.1, .int .i64 q95.1.2.2.2.2, v105])]) (cs := [.int .i64 q95.1.1, .int .i64 q95.1.2.1, .int .u32 q95.1.2.2.1, .int .i64 q95.1.2.2.2.1, .int .i64 q95.1.2.2.2.2, v105]) rfl rfl rfl z_slT56 z_zero61 ⟨rfl, ⟨_, rfl, rfl⟩, trivial⟩ rfl rfl rfl rfl (Kd.Many.cons (d := (kP (kP (kI .i64) (kP (kI .i64) (kP (kI .u32) (kP (kI .i64) (kI .i64))))) (kSl (kI .u8)))) (x := (q95.1, ((q95.2.drop (0 : Int).toNat).take (((min (q95.2.length : Int) 242) : Int) - 0).toNat))) (a := [.int .i64 q95.1.1, .int .i64 q95.1.2.1, .int .u32 q95.1.2.2.1, .int .i64 q95.1.2.2.2.1, .int .i64 q95.1.2.2.2.2, v105]) ⟨[.int .i64 q95.1.1, .int .i64 q95.1.2.1, .int .u32 q95.1.2.2.1, .int .i64 q95.1.2.2.2.1, .int .i64 q95.1.2.2.2.2], _, rfl, ⟨[.int .i64 q95.1.1], _, rfl, rfl, ⟨[.int .i64 q95.1.2.1], _, rfl, rfl, ⟨[.int .u32 q95.1.2.2.1], _, rfl, rfl, ⟨[.int .i64 q95.1.2.2.2.1], _, rfl, rfl, rfl⟩⟩⟩⟩, ⟨_, rfl, hs106⟩⟩ Kd.Many.nil) (fun v107 g108 ho109 => ?_)
   obtain ⟨r114, hr115, h⟩ := h
   refine st_freeze (fun τ110 hl111 hg112 => ?_)
   have hs113 := ho109.freeze hl111 hg112
   refine st_call (foot := []) rfl rfl rfl rfl rfl rfl (callV_fn z_en23 (frame_Codec_Pack_ok hr115 τ110 (hc12.up ((hl86.trans hl90).trans hl111)) (hc10.up ((hl86.trans hl90).trans hl111)) hs113)) ?_
   rintro vτ116 τ116 gsτ116 hl117 ⟨v118, rfl, rfl, hs119⟩
   refine Z 11 rfl ?_
   refine st_if rfl h (fun h => ?_) (fun h => ?_)
   ·refine Z 3 rfl ?_
    refine o_lit (dk := (kSl (kI .u8))) (xs := [r114.1]) (ps := [(0, [v118])]) (cs := [v118]) rfl rfl rfl z_slT22 z_zero23 ⟨rfl, ⟨_, rfl, (oneL_sl hs119)⟩, trivial⟩ rfl rfl rfl rfl (Kd.Many.cons (d := (kSl (kI .u8))) (x := r114.1) (a := [v118]) ⟨_, rfl, hs119⟩ Kd.Many.nil) (fun v120 g121 ho122 => ?_)
    obtain ⟨hf126, hf127, h⟩ := h
    refine st_ord [2, 0, 0] _ rfl ?_
    refine o_append (dk := (kSl (kI .u8))) (xs := s86.1) (ys := [r114.1]) rfl rfl rfl rfl z_slT22 rfl (ho89.up ((hl90.trans hl111).trans hl117)) rfl (Ow.src (j := 1) ho122 rfl) hf126 hf127 (fun v123 g124 ho125 => ?_)
    refine Z 3 rfl ?_
    refine st_ord [0] _ rfl ?_
    exact hk91 _ _ _ ⟨(s86.1 ++ [r114.1]), _, _, h, (hl111.trans hl117), rfl, rfl, ho125⟩
   ·refine Z 2 rfl ?_
    refine st_ord [1] _ rfl ?_
    exact hk91 _ _ _ ⟨s86.1, _, _, h, (hl111.trans hl117), rfl, rfl, (ho89.up ((hl90.trans hl111).trans hl117))⟩
  ·refine st_exit rfl ?_
   obtain rfl := he86 _ h
   replace h := hA86
   exact hk13 _ _ _ ⟨s86.1, _, _, h, (hl86.trans hl90), rfl, rfl, (ho89.up hl90)⟩
 refine Z 3 rfl ?_
 refine o_lenI rfl rfl rfl z_slT56 rfl (hs2.up (hl8.trans hl86)) ?_
 refine o_ibin (v := .bool (decide (s86.2 < (a0.length : Int)))) rfl rfl rfl rfl rfl rfl ?_
 refine o_mif rfl rfl rfl rfl h (fun h => ?_) (fun h => ?_)
 ·refine Z 4 rfl ?_
  exact hk90 _ _ _ ⟨(decide (s86.2 < 10)), h, (Sto.Le.refl _), rfl, rfl⟩
 ·refine Z 4 rfl ?_
  exact hk90 _ _ _ ⟨false, h, (Sto.Le.refl _), rfl, rfl⟩
end Go.Rel
