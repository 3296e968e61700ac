import Derived.Test.YtnlghjmngfgmcaaDoorURel
import Derived.Test.YtnlghjmngfgmcaaDoorUFacts
/-! The walks. -/
set_option linter.unusedVariables false
set_option linter.unusedSimpArgs false
set_option maxRecDepth 4000
set_option maxHeartbeats 4000000
namespace Go.Rel
open Go Go.Eng Go.Proofs
theorem dump_Rows_1_ok {c0 : List Int} {bc0 : Nat} {v1 : Value} {σ0 : Sto} (hc0_0 : Cel σ0 ⟨bc0, 0, none⟩ (v1)) (hs2 : Sl (kI .u8) σ0 v1 c0) :
    IterV Tryd.prog (fun τ x vx => ∃ (v2 : Value), vx = [.int .i64 x.1, v2] ∧ Sl (kI .u8) τ v2 x.2) (.func (.func 54) #[] [.pointer (some ⟨bc0, 0, none⟩)].toArray) σ0 [] (fun (_ : Unit) _ f => f = []) (dump_Rows_1 c0) := by
 intro S Y I y hyc hyo hIm hY s s' o hR σ g hle hIg
 obtain ⟨r, hr0⟩ : ∃ r, r = (s', o) := ⟨_, rfl⟩
 rw [← hr0] at hR
 have h := hR
 refine callV_of (caps := [.pointer (some ⟨bc0, 0, none⟩)]) z_en54 ?_
 refine call_of Tryd.func54 Tryd.ntmps54 rfl rfl (fun cs fs => ?_)
 refine st_ord [0] _ rfl ?_
 refine Z 7 rfl ?_
 obtain ⟨e3, hL3, hA3⟩ := h
 refine st_loop hL3 (fun (s3 : S × Int) ρ τ3 gs => σ.Le τ3 ∧ ∃ (g4 : Grp), ESub ρ [(0, y), (1, .pointer (some ⟨bc0, 0, none⟩)), (3, .int .i64 s3.2)] ∧ gs = [g4] ∧ I s3.1 τ3 g4) ⟨Sto.Le.refl _, g, rfl, rfl, hIg⟩ ?_
 rintro s3 o3 h he3 ρ3 τ3 gs3 ⟨hl3, g4, hρ, rfl, hI5⟩ hn3
 refine st_es hρ ?_
 refine Z 4 rfl ?_
 refine o_loadI (v := v1) rfl rfl rfl z_sc22 rfl (Cel.up hc0_0 (hle.trans hl3)) ?_
 refine o_lenI rfl rfl rfl z_slT22 rfl (hs2.up (hle.trans hl3)) ?_
 refine Z 2 rfl ?_
 refine st_if rfl h (fun h => ?_) (fun h => ?_)
 ·refine Z 7 rfl ?_
  refine o_loadI (v := v1) rfl rfl rfl z_sc22 rfl (Cel.up hc0_0 (hle.trans hl3)) ?_
  refine o_lenI rfl rfl rfl z_slT22 rfl (hs2.up (hle.trans hl3)) ?_
  refine Z 7 rfl ?_
  refine o_lit (dk := (kI .u8)) (xs := ([] : List Int)) (ps := []) (cs := []) rfl rfl rfl z_slT22 z_zero5 trivial rfl rfl rfl rfl Kd.Many.nil (fun v6 g7 ho8 => ?_)
  refine o_loadI (v := v1) rfl rfl rfl z_sc22 rfl (Cel.up hc0_0 (hle.trans hl3)) ?_
  refine Z 3 rfl ?_
  obtain ⟨hf9, hf10, hf11, hf12, hf13, h⟩ := h
  refine o_slice (L := s3.2) (H := (min (IntKind.i64.wrap (s3.2 + 16)) (c0.length : Int))) rfl rfl rfl z_slT22 rfl rfl (hs2.up (hle.trans hl3)) ⟨_, rfl⟩ ⟨_, rfl⟩ hf9 hf10 hf11 ⟨_, _, rfl, hf12, hf13⟩ (by simp) (fun v14 hs15 => ?_)
  obtain ⟨hf19, hf20, h⟩ := h
  refine o_append (dk := (kI .u8)) (xs := ([] : List Int)) (ys := ((c0.drop s3.2.toNat).take (((min (IntKind.i64.wrap (s3.2 + 16)) (c0.length : Int)) : Int) - s3.2).toNat)) rfl rfl rfl rfl z_slT22 rfl ho8 rfl (Sl.src hs15) hf19 hf20 (fun v16 g17 ho18 => ?_)
  obtain ⟨y25, u26, hy27, h⟩ := h
  refine st_freeze (fun τ21 hl22 hg23 => ?_)
  have hs24 := ho18.freeze hl22 hg23
  refine st_call (foot := [g4]) rfl rfl rfl rfl rfl rfl (hY (s3.2, (([] : List Int) ++ ((c0.drop s3.2.toNat).take (((min (IntKind.i64.wrap (s3.2 + 16)) (c0.length : Int)) : Int) - s3.2).toNat))) s3.1 _ _ _ _ _ (hle.trans (hl3.trans hl22)) hy27 ⟨_, rfl, hs24⟩ (hIm _ _ _ _ hl22 hI5)) ?_
  rintro vτ28 τ28 gsτ28 hl29 ⟨rfl, g30, rfl, hI31⟩
  refine Z 2 rfl ?_
  refine st_if rfl h (fun h => ?_) (fun h => ?_)
  ·refine Z 2 rfl ?_
   obtain rfl := he3 _ h
   replace h := hA3
   obtain rfl := Eq.symm h
   cases hr0
   exact st_fin (gs' := [g30, []]) Tryd.func54 rfl (by simp) ((hl3.trans hl22).trans hl29) ⟨g30, _, rfl, hI31, rfl⟩
  ·refine Z 7 rfl ?_
   exact hn3 _ _ _ _ h ⟨((hl3.trans hl22).trans hl29), g30, rfl, rfl, hI31⟩
 ·refine Z 2 rfl ?_
  obtain rfl := he3 _ h
  replace h := hA3
  obtain rfl := Eq.symm h
  cases hr0
  exact st_fin (gs' := [g4, []]) Tryd.func54 rfl (by simp) hl3 ⟨g4, _, rfl, hI5, rfl⟩
theorem dump_Rows_ok {a0 : List Int} {v1 : Value} {r : (((S : Type) → ((Int × List Int) → S → Bool × S → Prop) → S → S × Unit → Prop))} (h : dump_Rows a0 r) (σ : Sto) (hs2 : Sl (kI .u8) σ v1 a0) :
    Does Tryd.prog 13 [v1] σ [] (fun v τ gs => ∃ (f7 : Nat) (q8 : Array Value), gs = [] ∧ .func (.func f7) #[] q8 = v ∧ IterV Tryd.prog (fun τ x vx => ∃ (v4 : Value), vx = [.int .i64 x.1, v4] ∧ Sl (kI .u8) τ v4 x.2) (.func (.func f7) #[] q8) τ [] (fun (_ : Unit) _ f => f = []) r) := by
 refine call_of Tryd.func13 Tryd.ntmps13 rfl rfl (fun cs fs => ?_)
 refine Z 2 rfl ?_
 refine o_box (cs := [v1]) rfl rfl rfl rfl (oneL_sl hs2) (fun b3 => ?_)
 refine Z 4 rfl ?_
 refine st_freeze (fun τ4 hl5 hg6 => ?_)
 refine Z 3 rfl ?_
 obtain rfl := Eq.symm h
 exact st_ret (gs' := []) Tryd.func13 rfl (List.Sublist.refl _) hl5 ⟨_, _, rfl, rfl, (dump_Rows_1_ok (cel_of hg6 rfl) (hs2.up hl5))⟩
theorem strings_Builder_copyCheck_ok {a0 : Bool × List Int} {ba0 : Nat} {v1 : Value} {g2 : Grp} {r : (Bool × List Int)} (h : strings_Builder_copyCheck a0 r) (σ : Sto) (ho3 : Ow (kI .u8) 5 σ v1 a0.2 g2) :
    Does Tryd.prog 71 [.pointer (some ⟨ba0, 0, none⟩)] σ [[(ba0, .cells [bself ba0 a0.1, v1].toArray 83 (0, 0))], g2] (fun v τ gs => ∃ (v4 : Value) (g5 : Grp), gs = [[(ba0, .cells [bself ba0 r.1, v4].toArray 83 (0, 0))], g5] ∧ .tuple [].toArray = v ∧ Ow (kI .u8) 5 τ v4 r.2 g5) := by
 obtain rfl := h
 refine (check_does Tryd.lays240h Tryd.X240h).mono ?_
 rintro v τ gs _ ⟨rfl, rfl, rfl⟩
 exact ⟨_, _, rfl, rfl, ho3⟩
theorem strings_Builder_WriteByte_ok {a0 : Bool × List Int} {a1 : Int} {ba0 : Nat} {v1 : Value} {g2 : Grp} {r : Bool × (Bool × List Int)} (h : strings_Builder_WriteByte a0 a1 r) (σ : Sto) (ho3 : Ow (kI .u8) 5 σ v1 a0.2 g2) :
    Does Tryd.prog 47 [.pointer (some ⟨ba0, 0, none⟩), .int .u8 a1] σ [[(ba0, .cells [bself ba0 a0.1, v1].toArray 83 (0, 0))], g2] (fun v τ gs => ∃ (v19 : Value) (v21 : Value) (g22 : Grp), gs = [[(ba0, .cells [bself ba0 r.2.1, v21].toArray 83 (0, 0))], g22] ∧ v19 = v ∧ IfB v19 r.1 ∧ Ow (kI .u8) 5 τ v21 r.2.2 g22) := by
 refine call_of Tryd.func47 Tryd.ntmps47 rfl rfl (fun cs fs => ?_)
 refine Z 7 rfl ?_
 obtain ⟨r4, hr5, h⟩ := h
 refine st_call (foot := [[(ba0, .cells #[bself ba0 a0.1, v1] 83 (0, 0))], g2]) rfl rfl rfl rfl rfl rfl (callV_fn z_en71 (strings_Builder_copyCheck_ok hr5 σ ho3)) ?_
 rintro vτ6 τ6 gsτ6 hl7 ⟨v8, g9, rfl, rfl, ho10⟩
 refine ZZ 9 [0] rfl rfl ?_
 refine o_litE (eI .u8) [a1] rfl rfl rfl z_slT22 z_zero5 ⟨rfl, ⟨_, rfl, rfl⟩, trivial⟩ rfl rfl rfl rfl (fun v11 g12 ho13 => ?_)
 obtain ⟨hf17, hf18, h⟩ := h
 refine st_ord [2, 0, 0] _ rfl ?_
 refine o_append (dk := (kI .u8)) (xs := r4.2) (ys := [a1]) rfl rfl rfl rfl z_slT22 rfl ho10 rfl (Ow.src (j := 1) ho13 rfl) hf17 hf18 (fun v14 g15 ho16 => ?_)
 refine Z 2 rfl ?_
 refine o_store (j := 2) (vs := [v14]) (cs' := [bself ba0 r4.1, v14]) rfl rfl rfl z_size22 rfl rfl (oneL_ow ho16) (ones_cons ho16.one' ones_nil) rfl rfl rfl ?_
 refine st_gs [g15, g12, [(ba0, .cells #[bself ba0 r4.1, v14] 83 (0, 0))]] rfl ?_
 refine Z 5 rfl ?_
 refine st_ord [2, 0] _ rfl ?_
 obtain rfl := Eq.symm h
 exact st_ret (gs' := [[(ba0, .cells #[bself ba0 r4.1, v14] 83 (0, 0))], g15]) Tryd.func47 rfl (List.Sublist.refl _) hl7 ⟨_, _, _, rfl, rfl, IfB.nil, ho16⟩
theorem dump_Text_1_ok {a0 : Int} {a1 : Int} {c0 : Bool × List Int} {bc0 : Nat} {v1 : Value} {g2 : Grp} {r : (Bool × List Int)} (h : dump_Text_1 a0 a1 c0 r) (σ : Sto) (ho3 : Ow (kI .u8) 5 σ v1 c0.2 g2) :
    Does Tryd.prog 46 [.int .u32 a0, .int .i64 a1, .pointer (some ⟨bc0, 0, none⟩)] σ [[(bc0, .cells [bself bc0 c0.1, v1].toArray 83 (0, 0))], g2] (fun v τ gs => ∃ (v21 : Value) (g22 : Grp), gs = [[(bc0, .cells [bself bc0 r.1, v21].toArray 83 (0, 0))], g22] ∧ .tuple [].toArray = v ∧ Ow (kI .u8) 5 τ v21 r.2 g22) := by
 refine call_of Tryd.func46 Tryd.ntmps46 rfl rfl (fun cs fs => ?_)
 refine Z 6 rfl ?_
 obtain ⟨e4, hL4, hA4⟩ := h
 refine st_loop hL4 (fun (s4 : Int × Bool × List Int) ρ τ4 gs => σ.Le τ4 ∧ ∃ (v5 : Value) (g6 : Grp), ESub ρ [(0, .int .u32 a0), (2, .pointer (some ⟨bc0, 0, none⟩)), (5, .int .i64 s4.1)] ∧ gs = [[(bc0, .cells #[bself bc0 s4.2.1, v5] 83 (0, 0))], g6] ∧ Ow (kI .u8) 5 τ4 v5 s4.2.2 g6) ⟨Sto.Le.refl _, _, _, rfl, rfl, ho3⟩ ?_
 rintro s4 o4 h he4 ρ4 τ4 gs4 ⟨hl4, v5, g6, hρ, rfl, ho7⟩ hn4
 refine st_es hρ ?_
 refine Z 6 rfl ?_
 refine st_if rfl h (fun h => ?_) (fun h => ?_)
 ·refine Z 7 rfl ?_
  obtain ⟨hf8, h⟩ := h
  refine o_shr rfl rfl rfl rfl rfl hf8 ?_
  refine o_ibin (v := .int .u32 (iand .u32 (ishr .u32 a0 (IntKind.i64.wrap (4 * s4.1))) 15)) rfl rfl rfl rfl rfl rfl ?_
  obtain ⟨q9, hf10, h⟩ := h
  refine o_indexS rfl rfl rfl Tryd.underlying9 (ev_str z_str1) rfl hf10 ?_
  obtain ⟨r11, hr12, h⟩ := h
  refine st_call (foot := [[(bc0, .cells #[bself bc0 s4.2.1, v5] 83 (0, 0))], g6]) rfl rfl rfl rfl rfl rfl (callV_fn z_en47 (strings_Builder_WriteByte_ok hr12 τ4 ho7)) ?_
  rintro vτ13 τ13 gsτ13 hl14 ⟨v15, v17, g18, rfl, rfl, hi16, ho19⟩
  refine Z 7 rfl ?_
  exact hn4 _ _ _ _ h ⟨(hl4.trans hl14), _, _, rfl, rfl, ho19⟩
 ·refine st_exit rfl ?_
  obtain rfl := he4 _ h
  replace h := hA4
  obtain rfl := Eq.symm h
  exact st_fin (gs' := [[(bc0, .cells #[bself bc0 s4.2.1, v5] 83 (0, 0))], g6]) Tryd.func46 rfl (List.Sublist.refl _) hl4 ⟨_, _, rfl, rfl, ho7⟩
theorem strings_Builder_String_ok {a0 : Bool × List Int} {ba0 : Nat} {v1 : Value} {g2 : Grp} {r : ByteArray} (h : strings_Builder_String a0 r) (σ : Sto) (ho3 : Ow (kI .u8) 5 σ v1 a0.2 g2) :
    Does Tryd.prog 48 [.pointer (some ⟨ba0, 0, none⟩)] σ [[(ba0, .cells [bself ba0 a0.1, v1].toArray 83 (0, 0))], g2] (fun v τ gs => gs = [] ∧ .string r = v) := by
 obtain ⟨hk, rfl⟩ := h
 exact string_does Tryd.lays169 Tryd.Builder_Extra_169 hk ho3
theorem dump_Text_ok {a0 : List Int} {v1 : Value} {r : ByteArray} (h : dump_Text a0 r) (σ : Sto) (hs2 : Sl (kI .u8) σ v1 a0) :
    Does Tryd.prog 9 [v1] σ [] (fun v τ gs => gs = [] ∧ .string r = v) := by
 refine call_of Tryd.func9 Tryd.ntmps9 rfl rfl (fun cs fs => ?_)
 refine Z 2 rfl ?_
 refine o_assign rfl rfl rfl (ev_str z_str0) ?_
 refine Z 3 rfl ?_
 refine o_alloc rfl rfl rfl z_zero83 (fun b3 => ?_)
 refine Z 4 rfl ?_
 refine o_alloc rfl rfl rfl z_zero87 (fun b4 => ?_)
 refine ZZ 6 [0] rfl rfl ?_
 obtain ⟨r5, hr6, h⟩ := h
 refine st_call (foot := []) rfl rfl rfl rfl rfl rfl (callV_fn z_en13 (dump_Rows_ok hr6 σ hs2)) ?_
 rintro vτ7 τ7 gsτ7 hl8 ⟨f9, q10, rfl, rfl, hit11⟩
 refine Z 2 rfl ?_
 obtain ⟨t12, w12, hR12, hA12⟩ := h
 refine st_env (ρ' := [(2, .string (bstr [])), (3, .pointer (some ⟨b3, 0, none⟩)), (4, .pointer (some ⟨b4, 0, none⟩)), (11, .func (.func f9) #[] q10)]) ⟨rfl, rfl, rfl, rfl, trivial⟩ ?_
 refine st_addNil ?_
 refine st_ord [2, 1, 0] _ rfl ?_
 refine st_addNil ?_
 refine st_range (B := dump_Text_l1) (s0 := (false, [])) ranges_fctx rfl hit11 (Sto.Le.refl _) hR12 rfl (fun _ _ _ h => by obtain ⟨_, rfl, _⟩ := h; rfl) (fun (s12 : Bool × List Int) τ12 gs => τ7.Le τ12 ∧ ∃ (v13 : Value) (g14 : Grp), gs = [[(b3, .cells #[bself b3 s12.1, v13] 83 (0, 0))], [(b4, .cells #[.func (.func 46) #[] #[.pointer (some ⟨b3, 0, none⟩)]] 87 (0, 0))], g14] ∧ Ow (kI .u8) 5 τ12 v13 s12.2 g14) (fun _ _ _ _ => False) (fun _ _ _ _ hl ⟨hb, v13, g14, hg, ho15⟩ => ⟨hb.trans hl, v13, g14, hg, ho15.up hl⟩) (fun _ _ _ _ _ _ h => h.elim) ⟨Sto.Le.refl _, _, _, rfl, Ow.nil⟩ ?_ ?_ ?_
 ·rintro x12 s12 o12 τ12 gs12 vx12 hl12 h ⟨v16, rfl, hs17⟩ ⟨hb12, v13, g14, rfl, ho15⟩ l12 rc12 caller12 cs12 fs12
  refine Z 7 rfl ?_
  refine st_begin ?_
  refine ZZ 6 [1] rfl rfl ?_
  obtain ⟨r18, hr19, h⟩ := h
  refine st_ord [0, 1, 0] _ rfl ?_
  refine st_call (foot := [[(b3, .cells #[bself b3 s12.1, v13] 83 (0, 0))], g14]) rfl rfl rfl rfl rfl rfl (callV_of2 (caps := [.pointer (some ⟨b3, 0, none⟩)]) z_en46 (dump_Text_1_ok hr19 τ12 ho15) rfl) ?_
  rintro vτ20 τ20 gsτ20 hl21 ⟨v22, g23, rfl, rfl, ho24⟩
  refine Z 2 rfl ?_
  refine st_cut (fun ρ τ25 gs => ∃ (s25 : Bool × List Int) (v26 : Value) (g27 : Grp), dump_Text_j2 s25 o12 ∧ τ20.Le τ25 ∧ ESub ρ [(2, .string (bstr [])), (3, .pointer (some ⟨b3, 0, none⟩)), (4, .pointer (some ⟨b4, 0, none⟩)), (12, .int .i64 x12.1), (13, v16), (5, .int .i64 x12.1), (6, v16)] ∧ gs = [[(b3, .cells #[bself b3 s25.1, v26] 83 (0, 0))], [(b4, .cells #[.func (.func 46) #[] #[.pointer (some ⟨b3, 0, none⟩)]] 87 (0, 0))], g27] ∧ Ow (kI .u8) 5 τ25 v26 s25.2 g27) ?_ (fun hk25 => ?_)
  ·rintro ρ25 τ25 gs25 ⟨s25, v26, g27, h, hl25, hρ, rfl, ho28⟩
   refine st_es hρ ?_
   refine st_region ?_
   obtain ⟨r29, hr30, h⟩ := h
   refine st_ord [0, 1, 0] _ rfl ?_
   refine st_call (foot := [[(b3, .cells #[bself b3 s25.1, v26] 83 (0, 0))], g27]) rfl rfl rfl rfl rfl rfl (callV_fn z_en47 (strings_Builder_WriteByte_ok hr30 τ25 ho28)) ?_
   rintro vτ31 τ31 gsτ31 hl32 ⟨v33, v35, g36, rfl, rfl, hi34, ho37⟩
   refine Z 2 rfl ?_
   refine st_ord [0, 1, 0] _ rfl ?_
   exact st_rend (List.Sublist.refl _) ((hl21.trans hl25).trans hl32) ⟨_, h, (((hl12.trans hl21).trans hl25).trans hl32), _, _, rfl, ho37⟩
  refine Z 3 rfl ?_
  refine o_lenI rfl rfl rfl z_slT22 rfl (hs17.up hl21) ?_
  refine Z 2 rfl ?_
  obtain ⟨e38, hL38, hA38⟩ := h
  refine st_ord [0, 1, 0] _ rfl ?_
  refine st_loop hL38 (fun (s38 : Int × Bool × List Int) ρ τ38 gs => τ20.Le τ38 ∧ ∃ (v39 : Value) (g40 : Grp), ESub ρ [(2, .string (bstr [])), (3, .pointer (some ⟨b3, 0, none⟩)), (4, .pointer (some ⟨b4, 0, none⟩)), (12, .int .i64 x12.1), (13, v16), (5, .int .i64 x12.1), (6, v16), (18, v16), (19, .int .i64 (x12.2.length : Int)), (20, .int .i64 s38.1)] ∧ gs = [[(b3, .cells #[bself b3 s38.2.1, v39] 83 (0, 0))], [(b4, .cells #[.func (.func 46) #[] #[.pointer (some ⟨b3, 0, none⟩)]] 87 (0, 0))], g40] ∧ Ow (kI .u8) 5 τ38 v39 s38.2.2 g40) ⟨Sto.Le.refl _, _, _, rfl, rfl, ho24⟩ ?_
  rintro s38 o38 h he38 ρ38 τ38 gs38 ⟨hl38, v39, g40, hρ, rfl, ho41⟩ hn38
  refine st_es hρ ?_
  refine Z 5 rfl ?_
  refine st_if rfl h (fun h => ?_) (fun h => ?_)
  ·refine Z 5 rfl ?_
   obtain ⟨q42, hf43, h⟩ := h
   refine o_index rfl rfl rfl z_slT22 rfl rfl (hs17.up (hl21.trans hl38)) rfl hf43 (fun b44 of45 vs hc46 hrep => ?_)
   obtain rfl := hrep
   refine o_loadI (v := .int .u8 q42) rfl rfl rfl z_sc5 rfl (hc46 0 _ rfl) ?_
   refine Z 4 rfl ?_
   obtain ⟨r47, hr48, h⟩ := h
   refine st_ord [0, 1, 0] _ rfl ?_
   refine st_call (foot := [[(b3, .cells #[bself b3 s38.2.1, v39] 83 (0, 0))], g40]) rfl rfl rfl rfl rfl rfl (callV_fn z_en47 (strings_Builder_WriteByte_ok hr48 τ38 ho41)) ?_
   rintro vτ49 τ49 gsτ49 hl50 ⟨v51, v53, g54, rfl, rfl, hi52, ho55⟩
   refine ZZ 5 [2] rfl rfl ?_
   obtain ⟨r56, hr57, h⟩ := h
   refine st_call (foot := [[(b3, .cells #[bself b3 r47.2.1, v53] 83 (0, 0))], g54]) rfl rfl rfl rfl rfl rfl (callV_of2 (caps := [.pointer (some ⟨b3, 0, none⟩)]) z_en46 (dump_Text_1_ok hr57 τ49 ho55) rfl) ?_
   rintro vτ58 τ58 gsτ58 hl59 ⟨v60, g61, rfl, rfl, ho62⟩
   refine Z 6 rfl ?_
   refine st_ord [0, 1, 0] _ rfl ?_
   exact hn38 _ _ _ _ h ⟨((hl38.trans hl50).trans hl59), _, _, rfl, rfl, ho62⟩
  ·refine st_exit rfl ?_
   obtain rfl := he38 _ h
   replace h := hA38
   exact hk25 _ _ _ ⟨(s38.2.1, s38.2.2), _, _, h, hl38, rfl, rfl, ho41⟩
 ·rintro p64 τ65 gs12 f12 ht hl66 ⟨hb, v67, g68, rfl, ho69⟩ rfl
  subst ht
  replace h := hA12
  refine st_ord [1, 1, 1] _ rfl ?_
  refine Z 3 rfl ?_
  obtain ⟨r70, hr71, h⟩ := h
  refine st_ord [0, 1, 0] _ rfl ?_
  refine st_call (foot := [[(b3, .cells #[bself b3 p64.1, v67] 83 (0, 0))], g68]) rfl rfl rfl rfl rfl rfl (callV_fn z_en48 (strings_Builder_String_ok hr71 τ65 ho69)) ?_
  rintro vτ72 τ72 gsτ72 hl73 ⟨rfl, rfl⟩
  refine Z 2 rfl ?_
  refine st_ord [] _ rfl ?_
  obtain rfl := Eq.symm h
  exact st_ret (gs' := []) Tryd.func9 rfl (List.Sublist.refl _) ((hl8.trans hl66).trans hl73) ⟨rfl, rfl⟩
 ·exact fun _ _ _ _ _ _ _ h => h.elim
theorem strings_IndexByte_ok {a0 : ByteArray} {a1 : Int} {r : Int} (h : strings_IndexByte a0 a1 r) (σ : Sto) :
    Does Tryd.prog 73 [.string a0, .int .u8 a1] σ [] (fun v τ gs => gs = [] ∧ .int .i64 r = v) := by
 obtain ⟨hc, rfl⟩ := h
 exact indexByte_does Tryd.strings_IndexByte hc
theorem strings_Lines_1_ok {c0 : ByteArray} {bc0 : Nat} {σ0 : Sto}  :
    IterV Tryd.prog (fun _ x vx => vx = [.string x]) (.func (.func 72) #[] [.pointer (some ⟨bc0, 0, none⟩)].toArray) σ0 [(bc0, .cells [.string c0].toArray 9 (0, 0))] (fun (oo : ByteArray) υ f => f = [(bc0, .cells [.string oo].toArray 9 (0, 0))]) (strings_Lines_1 c0) := by
 intro S Y I y hyc hyo hIm hY s s' o hR σ g hle hIg
 obtain ⟨r, hr0⟩ : ∃ r, r = (s', o) := ⟨_, rfl⟩
 rw [← hr0] at hR
 have h := hR
 refine callV_of (caps := [.pointer (some ⟨bc0, 0, none⟩)]) z_en72 ?_
 refine call_of Tryd.func72 Tryd.ntmps72 rfl rfl (fun cs fs => ?_)
 refine st_perm (gs' := [g, [(bc0, .cells #[.string c0] 9 (0, 0))]]) (by simp) ?_
 obtain ⟨e1, hL1, hA1⟩ := h
 refine st_ord [1, 0] _ rfl ?_
 refine st_loop hL1 (fun (s1 : S × ByteArray) ρ τ1 gs => σ.Le τ1 ∧ ∃ (g2 : Grp), ESub ρ [(0, y), (1, .pointer (some ⟨bc0, 0, none⟩))] ∧ gs = [[(bc0, .cells #[.string s1.2] 9 (0, 0))], g2] ∧ I s1.1 τ1 g2) ⟨Sto.Le.refl _, g, rfl, rfl, hIg⟩ ?_
 rintro s1 o1 h he1 ρ1 τ1 gs1 ⟨hl1, g2, hρ, rfl, hI3⟩ hn1
 refine st_es hρ ?_
 refine ZZ 7 [0] rfl rfl ?_
 refine st_if rfl h (fun h => ?_) (fun h => ?_)
 ·refine Z 4 rfl ?_
  refine o_assign rfl rfl rfl (ev_str z_str0) ?_
  refine Z 2 rfl ?_
  refine st_cut (fun ρ τ4 gs => ∃ (s4 : S × ByteArray × ByteArray) (g5 : Grp), strings_Lines_1_j2 S Y s4 o1 ∧ τ1.Le τ4 ∧ ESub ρ [(3, .string s4.2.1), (0, y), (1, .pointer (some ⟨bc0, 0, none⟩))] ∧ gs = [[(bc0, .cells #[.string s4.2.2] 9 (0, 0))], g5] ∧ I s4.1 τ4 g5) ?_ (fun hk4 => ?_)
  ·rintro ρ4 τ4 gs4 ⟨s4, g5, h, hl4, hρ, rfl, hI6⟩
   refine st_es hρ ?_
   refine Z 4 rfl ?_
   obtain ⟨y7, u8, hy9, h⟩ := h
   refine st_ord [1, 0] _ rfl ?_
   refine st_call (foot := [g5]) rfl rfl rfl rfl rfl rfl (hY s4.2.1 s4.1 _ _ _ _ _ (hle.trans (hl1.trans hl4)) hy9 rfl hI6) ?_
   rintro vτ10 τ10 gsτ10 hl11 ⟨rfl, g12, rfl, hI13⟩
   refine Z 2 rfl ?_
   refine st_if rfl h (fun h => ?_) (fun h => ?_)
   ·obtain rfl := he1 _ h
    replace h := hA1
    obtain rfl := Eq.symm h
    cases hr0
    exact st_ret (gs' := [g12, [(bc0, .cells #[.string s4.2.2] 9 (0, 0))]]) Tryd.func72 rfl (by simp) ((hl1.trans hl4).trans hl11) ⟨g12, _, rfl, hI13, rfl⟩
   ·refine Z 2 rfl ?_
    refine st_ord [1, 0] _ rfl ?_
    exact hn1 _ _ _ _ h ⟨((hl1.trans hl4).trans hl11), g12, rfl, rfl, hI13⟩
  refine ZZ 3 [0] rfl rfl ?_
  obtain ⟨r14, hr15, h⟩ := h
  refine st_call (foot := []) rfl rfl rfl rfl rfl rfl (callV_fn z_en73 (strings_IndexByte_ok hr15 τ1)) ?_
  rintro vτ16 τ16 gsτ16 hl17 ⟨rfl, rfl⟩
  refine Z 7 rfl ?_
  refine st_if rfl h (fun h => ?_) (fun h => ?_)
  ·obtain ⟨hf18, hf19, hf20, hf21, h⟩ := h
   refine st_draw 9 (dl [.v (.string s1.2), .v (.int .i64 r14), .v (.int .i64 (IntKind.i64.wrap (r14 + 1))), .v (.string (s1.2.extract 0 (IntKind.i64.wrap (r14 + 1)).toNat)), .v (.string s1.2), .v (.int .i64 r14), .v (.int .i64 (IntKind.i64.wrap (r14 + 1))), .v (.string (s1.2.extract (IntKind.i64.wrap (r14 + 1)).toNat s1.2.size)), .v (.string (s1.2.extract 0 (IntKind.i64.wrap (r14 + 1)).toNat))]) (fun _ _ => []) z_mix rfl (dl_mono trivial) (allB_cons (allB_cons (allB_cons (allB_cons (allB_cons (allB_cons (allB_cons (allB_cons (allB_cons allB_nil ?_) (p1 dA)) (p1 dA)) ?_) ?_) (p1 dA)) (p1 dA)) ?_) (p1 dA)) ?_
   ·intro ρ' τ pool rs hl hd hout hk
    refine o_load (j := 0) (v := .string s1.2) rfl rfl rfl z_sc9 ((hout 1 rfl).trans rfl) rfl rfl ?_
    exact st_addNil (hk _ _ (Sto.Le.refl _) rfl)
   ·intro ρ' τ pool rs hl hd hout hk
    obtain ⟨_, e0, rfl⟩ := hd 0 rfl
    obtain ⟨_, e2, rfl⟩ := hd 2 rfl
    refine o_sliceSh rfl rfl rfl Tryd.underlying9 e0 e2 hf18 hf19 ?_
    exact st_addNil (hk _ _ (Sto.Le.refl _) rfl)
   ·intro ρ' τ pool rs hl hd hout hk
    refine o_load (j := 0) (v := .string s1.2) rfl rfl rfl z_sc9 ((hout 1 rfl).trans rfl) rfl rfl ?_
    exact st_addNil (hk _ _ (Sto.Le.refl _) rfl)
   ·intro ρ' τ pool rs hl hd hout hk
    obtain ⟨_, e4, rfl⟩ := hd 4 rfl
    obtain ⟨_, e6, rfl⟩ := hd 6 rfl
    refine o_sliceSl rfl rfl rfl Tryd.underlying9 e4 e6 hf20 hf21 ?_
    exact st_addNil (hk _ _ (Sto.Le.refl _) rfl)
   intro ρ' τ22 vals hl22 hv hout
   refine st_ord [0, 0] _ rfl ?_
   refine st_env (ρ' := [(19, .string (s1.2.extract (IntKind.i64.wrap (r14 + 1)).toNat s1.2.size)), (3, .string (s1.2.extract 0 (IntKind.i64.wrap (r14 + 1)).toNat)), (0, y), (1, .pointer (some ⟨bc0, 0, none⟩))]) ⟨(lv1 hv 7 rfl rfl), (lv1 hv 8 rfl rfl), (hout 0 rfl).trans rfl, (hout 1 rfl).trans rfl, trivial⟩ ?_
   refine ZZ 2 [0] rfl rfl ?_
   exact hk4 _ _ _ ⟨(s1.1, (s1.2.extract 0 (IntKind.i64.wrap (r14 + 1)).toNat), (s1.2.extract (IntKind.i64.wrap (r14 + 1)).toNat s1.2.size)), g2, h, (hl17.trans hl22), rfl, rfl, (hIm _ _ _ _ (hl17.trans hl22) hI3)⟩
  ·refine ZZ 3 [0] rfl rfl ?_
   refine o_store (j := 0) (vs := [.string (bstr [])]) (cs' := [.string (bstr [])]) rfl rfl rfl z_size9 rfl (ev_str z_str0) rfl (ones_cons rfl ones_nil) rfl rfl rfl ?_
   refine st_gs [[(bc0, .cells #[.string (bstr [])] 9 (0, 0))], g2] rfl ?_
   refine st_end ?_
   exact hk4 _ _ _ ⟨(s1.1, s1.2, (bstr [])), g2, h, hl17, rfl, rfl, (hIm _ _ _ _ hl17 hI3)⟩
 ·refine st_exit rfl ?_
  refine st_ord [1, 0] _ rfl ?_
  obtain rfl := he1 _ h
  replace h := hA1
  obtain rfl := Eq.symm h
  cases hr0
  exact st_fin (gs' := [g2, [(bc0, .cells #[.string s1.2] 9 (0, 0))]]) Tryd.func72 rfl (by simp) hl1 ⟨g2, _, rfl, hI3, rfl⟩
theorem strings_Lines_ok {a0 : ByteArray} {r : ((ByteArray → (S : Type) → (ByteArray → S → Bool × S → Prop) → S → S × ByteArray → Prop)) × ByteArray} (h : strings_Lines a0 r) (σ : Sto)  :
    Does Tryd.prog 49 [.string a0] σ [] (fun v τ gs => ∃ (f3 : Nat) (q4 : Array Value) (b6 : Nat), gs = [[(b6, .cells [.string r.2].toArray 9 (0, 0))]] ∧ .func (.func f3) #[] q4 = v ∧ ∀ (x8 : ByteArray) (σ7 : Sto), τ.Le σ7 → IterV Tryd.prog (fun _ x vx => vx = [.string x]) (.func (.func f3) #[] q4) σ7 [(b6, .cells [.string x8].toArray 9 (0, 0))] (fun (o9 : ByteArray) υ f => f = [(b6, .cells [.string o9].toArray 9 (0, 0))]) (r.1 x8)) := by
 refine call_of Tryd.func49 Tryd.ntmps49 rfl rfl (fun cs fs => ?_)
 refine Z 2 rfl ?_
 refine o_boxC rfl rfl rfl rfl rfl rfl (fun b1 => ?_)
 refine Z 7 rfl ?_
 obtain rfl := Eq.symm h
 exact st_ret (gs' := [[(b1, .cells #[.string a0] 9 (0, 0))]]) Tryd.func49 rfl (List.Sublist.refl _) (Sto.Le.refl _) ⟨_, _, _, rfl, rfl, (fun _ _ hl  => strings_Lines_1_ok )⟩
theorem internal_stringslite_HasSuffix_ok {a0 : ByteArray} {a1 : ByteArray} {r : Bool} (h : internal_stringslite_HasSuffix a0 a1 r) (σ : Sto)  :
    Does Tryd.prog 88 [.string a0, .string a1] σ [] (fun v τ gs => gs = [] ∧ .bool r = v) := by
 refine call_of Tryd.func88 Tryd.ntmps88 rfl rfl (fun cs fs => ?_)
 refine Z 5 rfl ?_
 refine st_cut (fun ρ τ1 gs => ∃ (s1 : Bool), internal_stringslite_HasSuffix_j1 s1 r ∧ σ.Le τ1 ∧ ESub ρ [(4, .bool s1)] ∧ gs = []) ?_ (fun hk1 => ?_)
 ·rintro ρ1 τ1 gs1 ⟨s1, h, hl1, hρ, rfl⟩
  refine st_es hρ ?_
  obtain rfl := Eq.symm h
  exact st_ret (gs' := []) Tryd.func88 rfl (List.Sublist.refl _) hl1 ⟨rfl, rfl⟩
 refine Z 6 rfl ?_
 refine o_mif rfl rfl rfl rfl h (fun h => ?_) (fun h => ?_)
 ·refine Z 6 rfl ?_
  obtain ⟨hf2, hf3, h⟩ := h
  refine o_sliceSl rfl rfl rfl Tryd.underlying9 rfl rfl hf2 hf3 ?_
  refine Z 5 rfl ?_
  exact hk1 _ _ _ ⟨(decide ((a0.extract (IntKind.i64.wrap ((a0.size : Int) - (a1.size : Int))).toNat a0.size) = a1)), h, (Sto.Le.refl _), rfl, rfl⟩
 ·refine Z 12 rfl ?_
  exact hk1 _ _ _ ⟨false, h, (Sto.Le.refl _), rfl, rfl⟩
theorem internal_stringslite_CutSuffix_ok {a0 : ByteArray} {a1 : ByteArray} {r : ByteArray × Bool} (h : internal_stringslite_CutSuffix a0 a1 r) (σ : Sto)  :
    Does Tryd.prog 74 [.string a0, .string a1] σ [] (fun v τ gs => gs = [] ∧ .tuple [.string r.1, .bool r.2].toArray = v) := by
 refine call_of Tryd.func74 Tryd.ntmps74 rfl rfl (fun cs fs => ?_)
 refine Z 2 rfl ?_
 refine o_assign rfl rfl rfl (ev_str z_str0) ?_
 refine Z 7 rfl ?_
 obtain ⟨r1, hr2, h⟩ := h
 refine st_call (foot := []) rfl rfl rfl rfl rfl rfl (callV_fn z_en88 (internal_stringslite_HasSuffix_ok hr2 σ)) ?_
 rintro vτ3 τ3 gsτ3 hl4 ⟨rfl, rfl⟩
 refine Z 2 rfl ?_
 refine st_if rfl h (fun h => ?_) (fun h => ?_)
 ·refine Z 6 rfl ?_
  obtain rfl := Eq.symm h
  exact st_ret (gs' := []) Tryd.func74 rfl (List.Sublist.refl _) hl4 ⟨rfl, rfl⟩
 ·refine Z 9 rfl ?_
  obtain ⟨hf5, hf6, h⟩ := h
  refine o_sliceSh rfl rfl rfl Tryd.underlying9 rfl rfl hf5 hf6 ?_
  refine Z 3 rfl ?_
  obtain rfl := Eq.symm h
  exact st_ret (gs' := []) Tryd.func74 rfl (List.Sublist.refl _) hl4 ⟨rfl, rfl⟩
theorem strings_CutSuffix_ok {a0 : ByteArray} {a1 : ByteArray} {r : ByteArray × Bool} (h : strings_CutSuffix a0 a1 r) (σ : Sto)  :
    Does Tryd.prog 50 [.string a0, .string a1] σ [] (fun v τ gs => gs = [] ∧ .tuple [.string r.1, .bool r.2].toArray = v) := by
 refine call_of Tryd.func50 Tryd.ntmps50 rfl rfl (fun cs fs => ?_)
 refine Z 2 rfl ?_
 refine o_assign rfl rfl rfl (ev_str z_str0) ?_
 refine Z 6 rfl ?_
 obtain ⟨r1, hr2, h⟩ := h
 refine st_call (foot := []) rfl rfl rfl rfl rfl rfl (callV_fn z_en74 (internal_stringslite_CutSuffix_ok hr2 σ)) ?_
 rintro vτ3 τ3 gsτ3 hl4 ⟨rfl, rfl⟩
 refine Z 5 rfl ?_
 obtain rfl := Eq.symm h
 exact st_ret (gs' := []) Tryd.func50 rfl (List.Sublist.refl _) hl4 ⟨rfl, rfl⟩
theorem internal_stringslite_Index_ok {a0 : ByteArray} {a1 : ByteArray} {r : Int} (h : internal_stringslite_Index a0 a1 r) (σ : Sto) :
    Does Tryd.prog 109 [.string a0, .string a1] σ [] (fun v τ gs => gs = [] ∧ .int .i64 r = v) := by
 obtain ⟨c, hc, rfl⟩ := h
 exact index_does Tryd.stringslite_Index_one hc
theorem internal_stringslite_Cut_ok {a0 : ByteArray} {a1 : ByteArray} {r : ByteArray × ByteArray × Bool} (h : internal_stringslite_Cut a0 a1 r) (σ : Sto)  :
    Does Tryd.prog 89 [.string a0, .string a1] σ [] (fun v τ gs => gs = [] ∧ .tuple [.string r.1, .string r.2.1, .bool r.2.2].toArray = v) := by
 refine call_of Tryd.func89 Tryd.ntmps89 rfl rfl (fun cs fs => ?_)
 refine Z 2 rfl ?_
 refine o_assign rfl rfl rfl (ev_str z_str0) ?_
 refine o_assign rfl rfl rfl (ev_str z_str0) ?_
 refine Z 7 rfl ?_
 obtain ⟨r1, hr2, h⟩ := h
 refine st_call (foot := []) rfl rfl rfl rfl rfl rfl (callV_fn z_en109 (internal_stringslite_Index_ok hr2 σ)) ?_
 rintro vτ3 τ3 gsτ3 hl4 ⟨rfl, rfl⟩
 refine Z 7 rfl ?_
 refine st_if rfl h (fun h => ?_) (fun h => ?_)
 ·refine st_seq ?_
  obtain ⟨hf5, hf6, hf7, hf8, h⟩ := h
  refine st_draw 10 (dl [.v (.string a0), .v (.int .i64 r1), .v (.string (a0.extract 0 r1.toNat)), .v (.string a0), .v (.int .i64 r1), .v (.string a1), .v (.int .i64 (a1.size : Int)), .v (.int .i64 (IntKind.i64.wrap (r1 + (a1.size : Int)))), .v (.string (a0.extract (IntKind.i64.wrap (r1 + (a1.size : Int))).toNat a0.size)), .v (.string (a0.extract 0 r1.toNat))]) (fun _ _ => []) z_mix rfl (dl_mono trivial) (allB_cons (allB_cons (allB_cons (allB_cons (allB_cons (allB_cons (allB_cons (allB_cons (allB_cons (allB_cons allB_nil (p1 dA)) (p1 dA)) ?_) (p1 dA)) (p1 dA)) (p1 dA)) (p1 dA)) (p1 dA)) ?_) (p1 dA)) ?_
  ·intro ρ' τ pool rs hl hd hout hk
   obtain ⟨_, e0, rfl⟩ := hd 0 rfl
   obtain ⟨_, e1, rfl⟩ := hd 1 rfl
   refine o_sliceSh rfl rfl rfl Tryd.underlying9 e0 e1 hf5 hf6 ?_
   exact st_addNil (hk _ _ (Sto.Le.refl _) rfl)
  ·intro ρ' τ pool rs hl hd hout hk
   obtain ⟨_, e3, rfl⟩ := hd 3 rfl
   obtain ⟨_, e7, rfl⟩ := hd 7 rfl
   refine o_sliceSl rfl rfl rfl Tryd.underlying9 e3 e7 hf7 hf8 ?_
   exact st_addNil (hk _ _ (Sto.Le.refl _) rfl)
  intro ρ' τ9 vals hl9 hv hout
  refine st_ord [] _ rfl ?_
  refine st_env (ρ' := [(21, .string (a0.extract (IntKind.i64.wrap (r1 + (a1.size : Int))).toNat a0.size)), (4, .string (a0.extract 0 r1.toNat)), (0, .string a0), (5, .string (bstr [])), (6, .bool false)]) ⟨(lv1 hv 8 rfl rfl), (lv1 hv 9 rfl rfl), (hout 0 rfl).trans rfl, (hout 5 rfl).trans rfl, (hout 6 rfl).trans rfl, trivial⟩ ?_
  refine Z 3 rfl ?_
  obtain rfl := Eq.symm h
  exact st_ret (gs' := []) Tryd.func89 rfl (List.Sublist.refl _) (hl4.trans hl9) ⟨rfl, rfl⟩
 ·refine Z 5 rfl ?_
  refine o_assign rfl rfl rfl (ev_str z_str0) ?_
  refine Z 2 rfl ?_
  obtain rfl := Eq.symm h
  exact st_ret (gs' := []) Tryd.func89 rfl (List.Sublist.refl _) hl4 ⟨rfl, rfl⟩
theorem strings_Cut_ok {a0 : ByteArray} {a1 : ByteArray} {r : ByteArray × ByteArray × Bool} (h : strings_Cut a0 a1 r) (σ : Sto)  :
    Does Tryd.prog 75 [.string a0, .string a1] σ [] (fun v τ gs => gs = [] ∧ .tuple [.string r.1, .string r.2.1, .bool r.2.2].toArray = v) := by
 refine call_of Tryd.func75 Tryd.ntmps75 rfl rfl (fun cs fs => ?_)
 refine Z 2 rfl ?_
 refine o_assign rfl rfl rfl (ev_str z_str0) ?_
 refine o_assign rfl rfl rfl (ev_str z_str0) ?_
 refine Z 6 rfl ?_
 obtain ⟨r1, hr2, h⟩ := h
 refine st_call (foot := []) rfl rfl rfl rfl rfl rfl (callV_fn z_en89 (internal_stringslite_Cut_ok hr2 σ)) ?_
 rintro vτ3 τ3 gsτ3 hl4 ⟨rfl, rfl⟩
 refine Z 7 rfl ?_
 obtain rfl := Eq.symm h
 exact st_ret (gs' := []) Tryd.func75 rfl (List.Sublist.refl _) hl4 ⟨rfl, rfl⟩
theorem dump_number_ok {a0 : ByteArray} {a1 : Int} {r : Int × Bool} (h : dump_number a0 a1 r) (σ : Sto)  :
    Does Tryd.prog 76 [.string a0, .int .i64 a1] σ [] (fun v τ gs => gs = [] ∧ .tuple [.int .u32 r.1, .bool r.2].toArray = v) := by
 refine call_of Tryd.func76 Tryd.ntmps76 rfl rfl (fun cs fs => ?_)
 refine Z 10 rfl ?_
 refine st_cut (fun ρ τ1 gs => ∃ (s1 : Int), dump_number_j1 a0 a1 s1 r ∧ σ.Le τ1 ∧ ESub ρ [(0, .string a0), (1, .int .i64 a1), (4, .int .u32 0), (5, .bool false), (6, .int .u32 s1)] ∧ gs = []) ?_ (fun hk1 => ?_)
 ·rintro ρ1 τ1 gs1 ⟨s1, h, hl1, hρ, rfl⟩
  refine st_es hρ ?_
  refine Z 10 rfl ?_
  obtain rfl := Eq.symm h
  exact st_ret (gs' := []) Tryd.func76 rfl (List.Sublist.refl _) hl1 ⟨rfl, rfl⟩
 refine Z 6 rfl ?_
 obtain ⟨e2, hL2, hA2⟩ := h
 refine st_loop hL2 (fun (s2 : Int × Int) ρ τ2 gs => σ.Le τ2 ∧ ESub ρ [(0, .string a0), (1, .int .i64 a1), (4, .int .u32 0), (5, .bool false), (6, .int .u32 s2.1), (10, .int .i64 (a0.size : Int)), (11, .int .i64 s2.2)] ∧ gs = []) ⟨Sto.Le.refl _, rfl, rfl⟩ ?_
 rintro s2 o2 h he2 ρ2 τ2 gs2 ⟨hl2, hρ, rfl⟩ hn2
 refine st_es hρ ?_
 refine Z 5 rfl ?_
 refine st_if rfl h (fun h => ?_) (fun h => ?_)
 ·refine Z 12 rfl ?_
  obtain ⟨q3, hf4, h⟩ := h
  refine o_indexS rfl rfl rfl Tryd.underlying9 rfl rfl hf4 ?_
  obtain ⟨r5, hr6, h⟩ := h
  refine st_call (foot := []) rfl rfl rfl rfl (evs_cons (ev_str z_str1) (evs_cons rfl rfl)) rfl (callV_fn z_en73 (strings_IndexByte_ok hr6 τ2)) ?_
  rintro vτ7 τ7 gsτ7 hl8 ⟨rfl, rfl⟩
  refine Z 8 rfl ?_
  refine st_if rfl h (fun h => ?_) (fun h => ?_)
  ·refine Z 5 rfl ?_
   obtain rfl := he2 _ h
   replace h := hA2
   obtain rfl := Eq.symm h
   exact st_ret (gs' := []) Tryd.func76 rfl (List.Sublist.refl _) (hl2.trans hl8) ⟨rfl, rfl⟩
  ·refine Z 14 rfl ?_
   exact hn2 _ _ _ _ h ⟨(hl2.trans hl8), rfl, rfl⟩
 ·refine st_exit rfl ?_
  obtain rfl := he2 _ h
  replace h := hA2
  exact hk1 _ _ _ ⟨s2.1, h, hl2, rfl, rfl⟩
theorem unicode_utf8_DecodeRuneInString_ok {a0 : ByteArray} {r : Int × Int} (h : unicode_utf8_DecodeRuneInString a0 r) (σ : Sto) :
    Does Tryd.prog 111 [.string a0] σ [] (fun v τ gs => gs = [] ∧ .tuple [.int .i32 r.1, .int .i64 r.2].toArray = v) := by
 obtain ⟨hf, _⟩ := h
 exact hf.elim
theorem strings_Index_ok {a0 : ByteArray} {a1 : ByteArray} {r : Int} (h : strings_Index a0 a1 r) (σ : Sto) :
    Does Tryd.prog 112 [.string a0, .string a1] σ [] (fun v τ gs => gs = [] ∧ .int .i64 r = v) := by
 obtain ⟨c, hc, rfl⟩ := h
 exact index_does Tryd.strings_Index_one hc
theorem strings_splitSeq_1_ok {c0 : ByteArray} {c2 : Int} {c1 : ByteArray} {bc0 : Nat} {bc1 : Nat} {bc2 : Nat} {σ0 : Sto} (hc0_0 : Cel σ0 ⟨bc0, 0, none⟩ (.string c0)) (hc2_0 : Cel σ0 ⟨bc2, 0, none⟩ (.int .i64 c2)) :
    IterV Tryd.prog (fun _ x vx => vx = [.string x]) (.func (.func 110) #[] [.pointer (some ⟨bc0, 0, none⟩), .pointer (some ⟨bc1, 0, none⟩), .pointer (some ⟨bc2, 0, none⟩)].toArray) σ0 [(bc1, .cells [.string c1].toArray 9 (0, 0))] (fun (oo : ByteArray) υ f => f = [(bc1, .cells [.string oo].toArray 9 (0, 0))]) (strings_splitSeq_1 c0 c2 c1) := by
 intro S Y I y hyc hyo hIm hY s s' o hR σ g hle hIg
 obtain ⟨r, hr0⟩ : ∃ r, r = (s', o) := ⟨_, rfl⟩
 rw [← hr0] at hR
 have h := hR
 refine callV_of (caps := [.pointer (some ⟨bc0, 0, none⟩), .pointer (some ⟨bc1, 0, none⟩), .pointer (some ⟨bc2, 0, none⟩)]) z_en110 ?_
 refine call_of Tryd.func110 Tryd.ntmps110 rfl rfl (fun cs fs => ?_)
 refine st_perm (gs' := [g, [(bc1, .cells #[.string c1] 9 (0, 0))]]) (by simp) ?_
 refine Z 3 rfl ?_
 refine o_loadI (v := .string c0) rfl rfl rfl z_sc9 rfl (Cel.up hc0_0 hle) ?_
 refine Z 3 rfl ?_
 refine st_if rfl h (fun h => ?_) (fun h => ?_)
 ·refine st_seq ?_
  refine st_cut (fun ρ τ1 gs => ∃ (s1 : S × ByteArray) (g2 : Grp), strings_splitSeq_1_j1 S Y s1 r ∧ σ.Le τ1 ∧ ESub ρ [(0, y), (1, .pointer (some ⟨bc0, 0, none⟩)), (2, .pointer (some ⟨bc1, 0, none⟩)), (3, .pointer (some ⟨bc2, 0, none⟩))] ∧ gs = [[(bc1, .cells #[.string s1.2] 9 (0, 0))], g2] ∧ I s1.1 τ1 g2) ?_ (fun hk1 => ?_)
  ·rintro ρ1 τ1 gs1 ⟨s1, g2, h, hl1, hρ, rfl, hI3⟩
   refine st_es hρ ?_
   refine st_ord [1, 0] _ rfl ?_
   obtain rfl := Eq.symm h
   cases hr0
   exact st_ret (gs' := [g2, [(bc1, .cells #[.string s1.2] 9 (0, 0))]]) Tryd.func110 rfl (by simp) hl1 ⟨g2, _, rfl, hI3, rfl⟩
  obtain ⟨e4, hL4, hA4⟩ := h
  refine st_ord [1, 0] _ rfl ?_
  refine st_loop hL4 (fun (s4 : S × ByteArray) ρ τ4 gs => σ.Le τ4 ∧ ∃ (g5 : Grp), ESub ρ [(0, y), (1, .pointer (some ⟨bc0, 0, none⟩)), (2, .pointer (some ⟨bc1, 0, none⟩)), (3, .pointer (some ⟨bc2, 0, none⟩))] ∧ gs = [[(bc1, .cells #[.string s4.2] 9 (0, 0))], g5] ∧ I s4.1 τ4 g5) ⟨Sto.Le.refl _, g, rfl, rfl, hIg⟩ ?_
  rintro s4 o4 h he4 ρ4 τ4 gs4 ⟨hl4, g5, hρ, rfl, hI6⟩ hn4
  refine st_es hρ ?_
  refine ZZ 7 [0] rfl rfl ?_
  refine st_if rfl h (fun h => ?_) (fun h => ?_)
  ·refine ZZ 5 [0] rfl rfl ?_
   obtain ⟨r7, hr8, h⟩ := h
   refine st_call (foot := []) rfl rfl rfl rfl rfl rfl (callV_fn z_en111 (unicode_utf8_DecodeRuneInString_ok hr8 τ4)) ?_
   rintro vτ9 τ9 gsτ9 hl10 ⟨rfl, rfl⟩
   refine ZZ 12 [0] rfl rfl ?_
   obtain ⟨hf11, hf12, h⟩ := h
   refine o_sliceSh rfl rfl rfl Tryd.underlying9 rfl rfl hf11 hf12 ?_
   obtain ⟨y13, u14, hy15, h⟩ := h
   refine st_ord [1, 0] _ rfl ?_
   refine st_call (foot := [g5]) rfl rfl rfl rfl rfl rfl (hY (s4.2.extract 0 r7.2.toNat) s4.1 _ _ _ _ _ (hle.trans (hl4.trans hl10)) hy15 rfl (hIm _ _ _ _ hl10 hI6)) ?_
   rintro vτ16 τ16 gsτ16 hl17 ⟨rfl, g18, rfl, hI19⟩
   refine Z 2 rfl ?_
   refine st_if rfl h (fun h => ?_) (fun h => ?_)
   ·obtain rfl := he4 _ h
    replace h := hA4
    obtain rfl := Eq.symm h
    cases hr0
    exact st_ret (gs' := [g18, [(bc1, .cells #[.string s4.2] 9 (0, 0))]]) Tryd.func110 rfl (by simp) ((hl4.trans hl10).trans hl17) ⟨g18, _, rfl, hI19, rfl⟩
   ·refine ZZ 4 [1] rfl rfl ?_
    obtain ⟨hf20, hf21, h⟩ := h
    refine o_sliceSl rfl rfl rfl Tryd.underlying9 rfl rfl hf20 hf21 ?_
    refine ZZ 3 [1] rfl rfl ?_
    refine st_ord [1, 0] _ rfl ?_
    exact hn4 _ _ _ _ h ⟨((hl4.trans hl10).trans hl17), g18, rfl, rfl, hI19⟩
  ·refine st_exit rfl ?_
   obtain rfl := he4 _ h
   replace h := hA4
   exact hk1 _ _ _ ⟨(s4.1, s4.2), g5, h, hl4, rfl, rfl, hI6⟩
 ·refine Z 2 rfl ?_
  refine st_cut (fun ρ τ24 gs => ∃ (s24 : S × ByteArray) (g25 : Grp), strings_splitSeq_1_j3 S Y s24 r ∧ σ.Le τ24 ∧ ESub ρ [(0, y), (2, .pointer (some ⟨bc1, 0, none⟩))] ∧ gs = [[(bc1, .cells #[.string s24.2] 9 (0, 0))], g25] ∧ I s24.1 τ24 g25) ?_ (fun hk24 => ?_)
  ·rintro ρ24 τ24 gs24 ⟨s24, g25, h, hl24, hρ, rfl, hI26⟩
   refine st_es hρ ?_
   refine ZZ 3 [0] rfl rfl ?_
   obtain ⟨y27, u28, hy29, h⟩ := h
   refine st_ord [1, 0] _ rfl ?_
   refine st_call (foot := [g25]) rfl rfl rfl rfl rfl rfl (hY s24.2 s24.1 _ _ _ _ _ (hle.trans hl24) hy29 rfl hI26) ?_
   rintro vτ30 τ30 gsτ30 hl31 ⟨rfl, g32, rfl, hI33⟩
   refine st_end ?_
   obtain rfl := Eq.symm h
   cases hr0
   exact st_fin (gs' := [g32, [(bc1, .cells #[.string s24.2] 9 (0, 0))]]) Tryd.func110 rfl (by simp) (hl24.trans hl31) ⟨g32, _, rfl, hI33, rfl⟩
  obtain ⟨e34, hL34, hA34⟩ := h
  refine st_ord [1, 0] _ rfl ?_
  refine st_loop hL34 (fun (s34 : S × ByteArray) ρ τ34 gs => σ.Le τ34 ∧ ∃ (g35 : Grp), ESub ρ [(0, y), (1, .pointer (some ⟨bc0, 0, none⟩)), (2, .pointer (some ⟨bc1, 0, none⟩)), (3, .pointer (some ⟨bc2, 0, none⟩))] ∧ gs = [[(bc1, .cells #[.string s34.2] 9 (0, 0))], g35] ∧ I s34.1 τ34 g35) ⟨Sto.Le.refl _, g, rfl, rfl, hIg⟩ ?_
  rintro s34 o34 h he34 ρ34 τ34 gs34 ⟨hl34, g35, hρ, rfl, hI36⟩ hn34
  refine st_es hρ ?_
  refine ZZ 4 [0] rfl rfl ?_
  refine o_loadI (v := .string c0) rfl rfl rfl z_sc9 rfl (Cel.up hc0_0 (hle.trans hl34)) ?_
  obtain ⟨r37, hr38, h⟩ := h
  refine st_call (foot := []) rfl rfl rfl rfl rfl rfl (callV_fn z_en112 (strings_Index_ok hr38 τ34)) ?_
  rintro vτ39 τ39 gsτ39 hl40 ⟨rfl, rfl⟩
  refine Z 8 rfl ?_
  refine st_if rfl h (fun h => ?_) (fun h => ?_)
  ·refine st_exit rfl ?_
   obtain rfl := he34 _ h
   replace h := hA34
   exact hk24 _ _ _ ⟨(s34.1, s34.2), g35, h, (hl34.trans hl40), rfl, rfl, (hIm _ _ _ _ hl40 hI36)⟩
  ·refine ZZ 5 [0] rfl rfl ?_
   refine o_loadI (v := .int .i64 c2) rfl rfl rfl z_sc3 rfl (Cel.up hc2_0 ((hle.trans hl34).trans hl40)) ?_
   refine o_ibin (v := .int .i64 (IntKind.i64.wrap (r37 + c2))) rfl rfl rfl rfl rfl rfl ?_
   obtain ⟨hf41, hf42, h⟩ := h
   refine o_sliceSh rfl rfl rfl Tryd.underlying9 rfl rfl hf41 hf42 ?_
   refine Z 7 rfl ?_
   obtain ⟨y43, u44, hy45, h⟩ := h
   refine st_ord [1, 0] _ rfl ?_
   refine st_call (foot := [g35]) rfl rfl rfl rfl rfl rfl (hY (s34.2.extract 0 (IntKind.i64.wrap (r37 + c2)).toNat) s34.1 _ _ _ _ _ (hle.trans (hl34.trans hl40)) hy45 rfl (hIm _ _ _ _ hl40 hI36)) ?_
   rintro vτ46 τ46 gsτ46 hl47 ⟨rfl, g48, rfl, hI49⟩
   refine Z 2 rfl ?_
   refine st_if rfl h (fun h => ?_) (fun h => ?_)
   ·obtain rfl := he34 _ h
    replace h := hA34
    obtain rfl := Eq.symm h
    cases hr0
    exact st_ret (gs' := [g48, [(bc1, .cells #[.string s34.2] 9 (0, 0))]]) Tryd.func110 rfl (by simp) ((hl34.trans hl40).trans hl47) ⟨g48, _, rfl, hI49, rfl⟩
   ·refine ZZ 4 [1] rfl rfl ?_
    refine o_loadI (v := .string c0) rfl rfl rfl z_sc9 rfl (Cel.up hc0_0 (((hle.trans hl34).trans hl40).trans hl47)) ?_
    refine Z 2 rfl ?_
    obtain ⟨hf50, hf51, h⟩ := h
    refine o_sliceSl rfl rfl rfl Tryd.underlying9 rfl rfl hf50 hf51 ?_
    refine ZZ 3 [1] rfl rfl ?_
    refine st_ord [1, 0] _ rfl ?_
    exact hn34 _ _ _ _ h ⟨((hl34.trans hl40).trans hl47), g48, rfl, rfl, hI49⟩
theorem strings_splitSeq_ok {a0 : ByteArray} {a1 : ByteArray} {a2 : Int} {r : ((ByteArray → (S : Type) → (ByteArray → S → Bool × S → Prop) → S → S × ByteArray → Prop)) × ByteArray} (h : strings_splitSeq a0 a1 a2 r) (σ : Sto)  :
    Does Tryd.prog 90 [.string a0, .string a1, .int .i64 a2] σ [] (fun v τ gs => ∃ (f11 : Nat) (q12 : Array Value) (b14 : Nat), gs = [[(b14, .cells [.string r.2].toArray 9 (0, 0))]] ∧ .func (.func f11) #[] q12 = v ∧ ∀ (x16 : ByteArray) (σ15 : Sto), τ.Le σ15 → IterV Tryd.prog (fun _ x vx => vx = [.string x]) (.func (.func f11) #[] q12) σ15 [(b14, .cells [.string x16].toArray 9 (0, 0))] (fun (o17 : ByteArray) υ f => f = [(b14, .cells [.string o17].toArray 9 (0, 0))]) (r.1 x16)) := by
 refine call_of Tryd.func90 Tryd.ntmps90 rfl rfl (fun cs fs => ?_)
 refine Z 2 rfl ?_
 refine o_boxC rfl rfl rfl rfl rfl rfl (fun b1 => ?_)
 refine o_boxC rfl rfl rfl rfl rfl rfl (fun b2 => ?_)
 refine o_boxC rfl rfl rfl rfl rfl rfl (fun b3 => ?_)
 refine Z 4 rfl ?_
 refine st_ord [1, 0, 0] _ rfl ?_
 refine st_freeze (fun τ4 hl5 hg6 => ?_)
 refine st_freeze (fun τ7 hl8 hg9 => ?_)
 refine Z 3 rfl ?_
 obtain rfl := Eq.symm h
 exact st_ret (gs' := [[(b1, .cells #[.string a0] 9 (0, 0))]]) Tryd.func90 rfl (List.Sublist.refl _) (hl5.trans hl8) ⟨_, _, _, rfl, rfl, (fun _ _ hl  => strings_splitSeq_1_ok ((Cel.up (cel_of hg6 rfl) hl8).up hl) ((cel_of hg9 rfl).up hl))⟩
theorem strings_SplitSeq_ok {a0 : ByteArray} {a1 : ByteArray} {r : ((ByteArray → (S : Type) → (ByteArray → S → Bool × S → Prop) → S → S × ByteArray → Prop)) × ByteArray} (h : strings_SplitSeq a0 a1 r) (σ : Sto)  :
    Does Tryd.prog 77 [.string a0, .string a1] σ [] (fun v τ gs => ∃ (f13 : Nat) (q14 : Array Value) (b16 : Nat), gs = [[(b16, .cells [.string r.2].toArray 9 (0, 0))]] ∧ .func (.func f13) #[] q14 = v ∧ ∀ (x18 : ByteArray) (σ17 : Sto), τ.Le σ17 → IterV Tryd.prog (fun _ x vx => vx = [.string x]) (.func (.func f13) #[] q14) σ17 [(b16, .cells [.string x18].toArray 9 (0, 0))] (fun (o19 : ByteArray) υ f => f = [(b16, .cells [.string o19].toArray 9 (0, 0))]) (r.1 x18)) := by
 refine call_of Tryd.func77 Tryd.ntmps77 rfl rfl (fun cs fs => ?_)
 refine Z 8 rfl ?_
 obtain ⟨r1, hr2, h⟩ := h
 refine st_call (foot := []) rfl rfl rfl rfl rfl rfl (callV_fn z_en90 (strings_splitSeq_ok hr2 σ)) ?_
 rintro vτ3 τ3 gsτ3 hl4 ⟨f5, q6, b8, rfl, rfl, hit7⟩
 refine Z 2 rfl ?_
 obtain rfl := Eq.symm h
 exact st_ret (gs' := [[(b8, .cells #[.string r1.2] 9 (0, 0))]]) Tryd.func77 rfl (List.Sublist.refl _) hl4 ⟨_, _, _, rfl, rfl, (fun x0_ σ9 hl9 => hit7 x0_ σ9 ((Sto.Le.refl _).trans hl9))⟩
theorem dump_row_ok {a0 : ByteArray} {r : Int × List Int × Bool} (h : dump_row a0 r) (σ : Sto)  :
    Does Tryd.prog 51 [.string a0] σ [] (fun v τ gs => ∃ (v60 : Value), gs = [] ∧ .tuple [.int .u32 r.1, v60, .bool r.2.2].toArray = v ∧ Sl (kI .u8) τ v60 r.2.1) := by
 refine call_of Tryd.func51 Tryd.ntmps51 rfl rfl (fun cs fs => ?_)
 refine Z 2 rfl ?_
 refine o_alloc rfl rfl rfl z_zero36 (fun b1 => ?_)
 refine o_alloc rfl rfl rfl z_zero22 (fun b2 => ?_)
 refine o_alloc rfl rfl rfl z_zero4 (fun b3 => ?_)
 refine Z 3 rfl ?_
 refine o_alloc rfl rfl rfl z_zero22 (fun b4 => ?_)
 refine Z 4 rfl ?_
 obtain ⟨r5, hr6, h⟩ := h
 refine st_call (foot := []) rfl rfl rfl rfl (evs_cons rfl (evs_cons (ev_str z_str3) rfl)) rfl (callV_fn z_en75 (strings_Cut_ok hr6 σ)) ?_
 rintro vτ7 τ7 gsτ7 hl8 ⟨rfl, rfl⟩
 refine Z 11 rfl ?_
 obtain ⟨r9, hr10, h⟩ := h
 refine st_call (foot := []) rfl rfl rfl rfl rfl rfl (callV_fn z_en76 (dump_number_ok hr10 τ7)) ?_
 rintro vτ11 τ11 gsτ11 hl12 ⟨rfl, rfl⟩
 refine Z 8 rfl ?_
 refine st_cut (fun ρ τ13 gs => ∃ (s13 : Bool), dump_row_j1 r5 r9 s13 r ∧ τ11.Le τ13 ∧ ESub ρ [(2, .pointer (some ⟨b1, 0, none⟩)), (3, .pointer (some ⟨b2, 0, none⟩)), (4, .pointer (some ⟨b3, 0, none⟩)), (5, .pointer (some ⟨b4, 0, none⟩)), (7, .string r5.2.1), (9, .int .u32 r9.1), (30, .bool s13)] ∧ gs = [[(b1, .cells #[.int .u32 0] 36 (0, 0))], [(b2, .cells #[.slice none 0 0] 22 (0, 0))], [(b3, .cells #[.bool false] 4 (0, 0))], [(b4, .cells #[.slice none 0 0] 22 (0, 0))]]) ?_ (fun hk13 => ?_)
 ·rintro ρ13 τ13 gs13 ⟨s13, h, hl13, hρ, rfl⟩
  refine st_es hρ ?_
  refine st_cond rfl (fun hc => ?_) (fun hc => ?_)
  ·replace h := (if_pos hc).mp h
   refine ZZ 6 [0, 1, 2] rfl rfl ?_
   obtain rfl := Eq.symm h
   exact st_retC (gs' := []) [.int .u32 0, .slice none 0 0, .bool false] Tryd.func51 ⟨⟨_, _, _, _, rfl, mem_flat 0 rfl, fun w hw => cellOf z_sc36 rfl w hw⟩, ⟨_, _, _, _, rfl, mem_flat 1 rfl, fun w hw => cellOf z_sc22 rfl w hw⟩, ⟨_, _, _, _, rfl, mem_flat 2 rfl, fun w hw => cellOf z_sc4 rfl w hw⟩, trivial⟩ (by simp) ((hl8.trans hl12).trans hl13) ⟨_, rfl, rfl, Sl.nil⟩
  ·replace h := (if_neg (ne_t hc)).mp h
   refine Z 5 rfl ?_
   obtain ⟨r14, hr15, h⟩ := h
   refine st_call (foot := []) rfl rfl rfl rfl (evs_cons rfl (evs_cons (ev_str z_str3) rfl)) rfl (callV_fn z_en77 (strings_SplitSeq_ok hr15 τ13)) ?_
   rintro vτ16 τ16 gsτ16 hl17 ⟨f18, q19, b21, rfl, rfl, hit20⟩
   refine Z 2 rfl ?_
   obtain ⟨t25, w25, hR25, hA25⟩ := h
   refine st_env (ρ' := [(2, .pointer (some ⟨b1, 0, none⟩)), (3, .pointer (some ⟨b2, 0, none⟩)), (4, .pointer (some ⟨b3, 0, none⟩)), (5, .pointer (some ⟨b4, 0, none⟩)), (9, .int .u32 r9.1), (32, .func (.func f18) #[] q19)]) ⟨rfl, rfl, rfl, rfl, rfl, rfl, trivial⟩ ?_
   refine st_addNil ?_
   refine st_ord [1, 1, 1, 1, 1, 0] _ rfl ?_
   refine st_range (B := dump_row_l2) (s0 := []) ranges_fctx rfl (hit20 r14.2 τ16 (Sto.Le.refl _)) (Sto.Le.refl _) hR25 rfl (fun _ _ _ h => by cases h; rfl) (fun (s25 : List Int) τ25 gs => τ16.Le τ25 ∧ ∃ (v26 : Value) (g27 : Grp), gs = [[(b1, .cells #[.int .u32 0] 36 (0, 0))], [(b2, .cells #[.slice none 0 0] 22 (0, 0))], [(b3, .cells #[.bool false] 4 (0, 0))], [(b4, .cells #[v26] 22 (0, 0))], g27] ∧ Ow (kI .u8) 5 τ25 v26 s25 g27) (fun (p41 : List Int) cd τ42 gs => cd = .ret ∧ τ16.Le τ42 ∧ ∃ (v44 : Value) (g45 : Grp), gs = [[(b1, .cells #[.int .u32 0] 36 (0, 0))], [(b2, .cells #[.slice none 0 0] 22 (0, 0))], [(b3, .cells #[.bool false] 4 (0, 0))], [(b4, .cells #[v44] 22 (0, 0))], g45] ∧ Ow (kI .u8) 5 τ42 v44 p41 g45) (fun _ _ _ _ hl ⟨hb, v26, g27, hg, ho28⟩ => ⟨hb.trans hl, v26, g27, hg, ho28.up hl⟩) (fun _ _ _ _ _ hl ⟨hc, hb, v44, g45, hg, ho46⟩ => ⟨hc, hb.trans hl, v44, g45, hg, ho46.up hl⟩) ⟨Sto.Le.refl _, _, _, rfl, Ow.nil⟩ ?_ ?_ ?_
   ·rintro x25 s25 o25 τ25 gs25 vx25 hl25 h rfl ⟨hb25, v26, g27, rfl, ho28⟩ l25 rc25 caller25 cs25 fs25
    refine Z 3 rfl ?_
    refine st_begin ?_
    refine Z 4 rfl ?_
    obtain ⟨r29, hr30, h⟩ := h
    refine st_call (foot := []) rfl rfl rfl rfl rfl rfl (callV_fn z_en76 (dump_number_ok hr30 τ25)) ?_
    rintro vτ31 τ31 gsτ31 hl32 ⟨rfl, rfl⟩
    refine Z 12 rfl ?_
    refine st_if rfl h (fun h => ?_) (fun h => ?_)
    ·refine ZZ 6 [0, 1, 2] rfl rfl ?_
     exact st_rret (List.Sublist.refl _) hl32 ⟨_, h, rfl, (hl25.trans hl32), _, _, rfl, (ho28.up hl32)⟩
    ·refine ZZ 5 [3] rfl rfl ?_
     refine o_litE (eI .u8) [(IntKind.u8.wrap r29.1)] rfl rfl rfl z_slT22 z_zero5 ⟨rfl, ⟨_, rfl, rfl⟩, trivial⟩ rfl rfl rfl rfl (fun v33 g34 ho35 => ?_)
     obtain ⟨hf39, hf40, h⟩ := h
     refine st_ord [5, 0, 0, 0, 0, 0] _ rfl ?_
     refine o_append (dk := (kI .u8)) (xs := s25) (ys := [(IntKind.u8.wrap r29.1)]) rfl rfl rfl rfl z_slT22 rfl (ho28.up hl32) rfl (Ow.src (j := 1) ho35 rfl) hf39 hf40 (fun v36 g37 ho38 => ?_)
     refine o_store (j := 5) (vs := [v36]) (cs' := [v36]) rfl rfl rfl z_size22 rfl rfl (oneL_ow ho38) (ones_cons ho38.one' ones_nil) rfl rfl rfl ?_
     refine st_gs [g37, g34, [(b1, .cells #[.int .u32 0] 36 (0, 0))], [(b2, .cells #[.slice none 0 0] 22 (0, 0))], [(b3, .cells #[.bool false] 4 (0, 0))], [(b4, .cells #[v36] 22 (0, 0))]] rfl ?_
     refine Z 2 rfl ?_
     refine st_ord [2, 2, 2, 2, 0] _ rfl ?_
     exact st_rend (List.Sublist.refl _) hl32 ⟨_, h, (hl25.trans hl32), _, _, rfl, ho38⟩
   ·rintro p48 τ49 gs25 f25 ht hl50 ⟨hb, v51, g52, rfl, ho53⟩ rfl
    subst ht
    replace h := hA25
    refine st_gs [[(b21, .cells #[.string w25] 9 (0, 0))], [(b1, .cells #[.int .u32 0] 36 (0, 0))], [(b2, .cells #[.slice none 0 0] 22 (0, 0))], [(b3, .cells #[.bool false] 4 (0, 0))], [(b4, .cells #[v51] 22 (0, 0))], g52] rfl ?_
    refine Z 2 rfl ?_
    refine st_ord [0, 2, 2, 2, 0, 0] _ rfl ?_
    refine st_d42 [[(b21, .cells #[.string w25] 9 (0, 0))], [(b3, .cells #[.bool false] 4 (0, 0))], [(b4, .cells #[v51] 22 (0, 0))], g52] [[(b1, .cells #[.int .u32 0] 36 (0, 0))]] [[(b2, .cells #[.slice none 0 0] 22 (0, 0))]] 7 1 1 [none, none, none, none, none, some (0, 0), some (1, 0)] [none, none, none, none, none, none, none] [[none, none], [none, none]] [.v (.int .u32 r9.1), .v (v51), .v (v51), .v (.int .i64 (p48.length : Int)), .v (.bool (decide ((p48.length : Int) ≤ 16))), .t fun _ _ => True, .t fun _ _ => True] [[fun τ u F => F = [[(b1, .cells #[.int .u32 0] 36 (0, 0))]], fun τ u F => F = [[(b1, .cells #[.int .u32 r9.1] 36 (0, 0))]]], [fun τ u F => F = [[(b2, .cells #[.slice none 0 0] 22 (0, 0))]], fun τ u F => F = [[(b2, .cells #[v51] 22 (0, 0))]]]] rfl z_mix rfl ⟨fun _ _ _ _ _ => trivial, ⟨fun _ _ _ _ _ => trivial, trivial⟩⟩ ⟨⟨fun _ _ _ _ hl h => h, ⟨fun _ _ _ _ hl h => h, trivial⟩⟩, ⟨⟨fun _ _ _ _ hl h => h, ⟨fun _ _ _ _ hl h => h, trivial⟩⟩, trivial⟩⟩ rfl rfl ?_ ?_ (allB_cons (allB_cons (allB_cons (allB_cons (allB_cons (allB_cons (allB_cons allB_nil (p4 dA)) ?_) ?_) ?_) (p4 dA)) ?_) ?_) ?_
    ·exact rfl
    ·exact rfl
    ·intro ρ' τ pool rs hl hd hout hw hk
     refine o_load (j := 2) (v := v51) rfl rfl rfl z_sc22 ((hout 5 rfl).trans rfl) rfl rfl ?_
     exact hk _ _ (Sto.Le.refl _) rfl
    ·intro ρ' τ pool rs hl hd hout hw hk
     refine o_load (j := 2) (v := v51) rfl rfl rfl z_sc22 ((hout 5 rfl).trans rfl) rfl rfl ?_
     exact hk _ _ (Sto.Le.refl _) rfl
    ·intro ρ' τ pool rs hl hd hout hw hk
     obtain ⟨_, e2, rfl⟩ := hd 2 rfl _ rfl
     refine o_lenO rfl rfl rfl z_slT22 e2 (ho53.up hl) ?_
     exact hk _ _ (Sto.Le.refl _) rfl
    ·intro ρ' τ u Fv pool rs hl hI hu hd hout hw hk
     obtain ⟨_, e0, rfl⟩ := hd 0 rfl _ rfl
     have hI0 := hI
     obtain rfl := hI
     refine st_gs [[(b21, .cells #[.string w25] 9 (0, 0))], [(b3, .cells #[.bool false] 4 (0, 0))], [(b4, .cells #[v51] 22 (0, 0))], g52, [(b1, .cells #[.int .u32 0] 36 (0, 0))], pool] rfl ?_
     refine o_store (j := 4) (vs := [.int .u32 r9.1]) (cs' := [.int .u32 r9.1]) rfl rfl rfl z_size36 ((hout 2 rfl).trans rfl) e0 rfl (ones_cons rfl ones_nil) rfl rfl rfl ?_
     refine st_gs [[(b21, .cells #[.string w25] 9 (0, 0))], [(b3, .cells #[.bool false] 4 (0, 0))], [(b4, .cells #[v51] 22 (0, 0))], g52, [(b1, .cells #[.int .u32 r9.1] 36 (0, 0))], pool] rfl ?_
     exact hk _ _ [[(b1, .cells #[.int .u32 r9.1] 36 (0, 0))]] (Sto.Le.refl _) trivial (by exact rfl)
    ·intro ρ' τ u Fv pool rs hl hI hu hd hout hw hk
     obtain ⟨_, e1, rfl⟩ := hd 1 rfl _ rfl
     have hI0 := hI
     obtain rfl := hI
     refine st_gs [[(b21, .cells #[.string w25] 9 (0, 0))], [(b3, .cells #[.bool false] 4 (0, 0))], [(b4, .cells #[v51] 22 (0, 0))], g52, [(b2, .cells #[.slice none 0 0] 22 (0, 0))], pool] rfl ?_
     refine o_store (j := 4) (vs := [v51]) (cs' := [v51]) rfl rfl rfl z_size22 ((hout 3 rfl).trans rfl) e1 (oneL_ow (ho53.up hl)) (ones_cons (ho53.up hl).one' ones_nil) rfl rfl rfl ?_
     refine st_gs [[(b21, .cells #[.string w25] 9 (0, 0))], [(b3, .cells #[.bool false] 4 (0, 0))], [(b4, .cells #[v51] 22 (0, 0))], g52, [(b2, .cells #[v51] 22 (0, 0))], pool] rfl ?_
     exact hk _ _ [[(b2, .cells #[v51] 22 (0, 0))]] (Sto.Le.refl _) trivial (by exact rfl)
    intro ρ' τ54 vals u u1 Fv Fv1 hl54 hI hu hI1 hu1 hv hout
    obtain rfl := hI
    obtain rfl := hI1
    refine st_gs [[(b21, .cells #[.string w25] 9 (0, 0))], [(b3, .cells #[.bool false] 4 (0, 0))], [(b4, .cells #[v51] 22 (0, 0))], g52, [(b1, .cells #[.int .u32 r9.1] 36 (0, 0))], [(b2, .cells #[v51] 22 (0, 0))]] rfl ?_
    refine st_env (ρ' := [(50, .bool (decide ((p48.length : Int) ≤ 16))), (2, .pointer (some ⟨b1, 0, none⟩)), (3, .pointer (some ⟨b2, 0, none⟩)), (4, .pointer (some ⟨b3, 0, none⟩))]) ⟨(lv4 hv 4 rfl rfl rfl), (hout 2 rfl).trans rfl, (hout 3 rfl).trans rfl, (hout 4 rfl).trans rfl, trivial⟩ ?_
    refine ZZ 2 [1] rfl rfl ?_
    refine st_ord [3, 0, 0, 0, 0, 0] _ rfl ?_
    refine st_freeze (fun τ55 hl56 hg57 => ?_)
    have hs58 := ho53.freeze (hl54.trans hl56) hg57
    obtain rfl := Eq.symm h
    exact st_retC (gs' := []) [.int .u32 r9.1, v51, .bool (decide ((p48.length : Int) ≤ 16))] Tryd.func51 ⟨⟨_, _, _, _, rfl, mem_flat 3 rfl, fun w hw => cellOf z_sc36 rfl w hw⟩, ⟨_, _, _, _, rfl, mem_flat 4 rfl, fun w hw => cellOf z_sc22 rfl w hw⟩, ⟨_, _, _, _, rfl, mem_flat 1 rfl, fun w hw => cellOf z_sc4 rfl w hw⟩, trivial⟩ (by simp) ((((((hl8.trans hl12).trans hl13).trans hl17).trans hl50).trans hl54).trans hl56) ⟨_, rfl, rfl, hs58⟩
   ·rintro p41 cd25 τ42 gs25 f25 ht hl43 ⟨rfl, hb, v44, g45, rfl, ho46⟩ rfl
    subst ht
    replace h := hA25
    refine st_gs [[(b21, .cells #[.string w25] 9 (0, 0))], [(b1, .cells #[.int .u32 0] 36 (0, 0))], [(b2, .cells #[.slice none 0 0] 22 (0, 0))], [(b3, .cells #[.bool false] 4 (0, 0))], [(b4, .cells #[v44] 22 (0, 0))], g45] rfl ?_
    obtain rfl := Eq.symm h
    exact st_retC (gs' := []) [.int .u32 0, .slice none 0 0, .bool false] Tryd.func51 ⟨⟨_, _, _, _, rfl, mem_flat 1 rfl, fun w hw => cellOf z_sc36 rfl w hw⟩, ⟨_, _, _, _, rfl, mem_flat 2 rfl, fun w hw => cellOf z_sc22 rfl w hw⟩, ⟨_, _, _, _, rfl, mem_flat 3 rfl, fun w hw => cellOf z_sc4 rfl w hw⟩, trivial⟩ (by simp) ((((hl8.trans hl12).trans hl13).trans hl17).trans hl43) ⟨_, rfl, rfl, Sl.nil⟩
 refine Z 3 rfl ?_
 refine o_mif rfl rfl rfl rfl h (fun h => ?_) (fun h => ?_)
 ·refine Z 4 rfl ?_
  refine st_ord [3, 2, 1, 0] _ rfl ?_
  exact hk13 _ _ _ ⟨true, h, (Sto.Le.refl _), rfl, rfl⟩
 ·refine o_move rfl rfl rfl rfl ?_
  refine o_sbin (v := .bool (decide (r5.2.1 = (bstr [])))) rfl rfl rfl rfl (ev_str z_str0) rfl ?_
  refine Z 2 rfl ?_
  refine st_ord [3, 2, 1, 0] _ rfl ?_
  exact hk13 _ _ _ ⟨(decide (r5.2.1 = (bstr []))), h, (Sto.Le.refl _), rfl, rfl⟩
theorem dump_Parse_ok {a0 : ByteArray} {r : List Int × Int} (h : dump_Parse a0 r) (σ : Sto)  :
    Does Tryd.prog 10 [.string a0] σ [] (fun v τ gs => ∃ (v54 : Value), gs = [] ∧ .tuple [v54, .int .i64 r.2].toArray = v ∧ Sl (kI .u8) τ v54 r.1) := by
 refine call_of Tryd.func10 Tryd.ntmps10 rfl rfl (fun cs fs => ?_)
 refine Z 2 rfl ?_
 refine o_alloc rfl rfl rfl z_zero22 (fun b1 => ?_)
 refine o_alloc rfl rfl rfl z_zero24 (fun b2 => ?_)
 refine Z 3 rfl ?_
 refine o_alloc rfl rfl rfl z_zero22 (fun b3 => ?_)
 refine Z 5 rfl ?_
 obtain ⟨r4, hr5, h⟩ := h
 refine st_call (foot := []) rfl rfl rfl rfl rfl rfl (callV_fn z_en49 (strings_Lines_ok hr5 σ)) ?_
 rintro vτ6 τ6 gsτ6 hl7 ⟨f8, q9, b11, rfl, rfl, hit10⟩
 refine Z 2 rfl ?_
 obtain ⟨t15, w15, hR15, hA15⟩ := h
 refine st_env (ρ' := [(2, .pointer (some ⟨b1, 0, none⟩)), (3, .pointer (some ⟨b2, 0, none⟩)), (4, .pointer (some ⟨b3, 0, none⟩)), (12, .func (.func f8) #[] q9)]) ⟨rfl, rfl, rfl, rfl, trivial⟩ ?_
 refine st_addNil ?_
 refine st_ord [1, 3, 2, 1, 0] _ rfl ?_
 refine st_range (B := dump_Parse_l1) (s0 := []) ranges_fctx rfl (hit10 r4.2 τ6 (Sto.Le.refl _)) (Sto.Le.refl _) hR15 rfl (fun _ _ _ h => by cases h; rfl) (fun (s15 : List Int) τ15 gs => τ6.Le τ15 ∧ ∃ (v16 : Value) (g17 : Grp), gs = [[(b1, .cells #[.slice none 0 0] 22 (0, 0))], [(b2, .cells #[.int .i64 0] 24 (0, 0))], [(b3, .cells #[v16] 22 (0, 0))], g17] ∧ Ow (kI .u8) 5 τ15 v16 s15 g17) (fun (p35 : Int × List Int) cd τ36 gs => cd = .ret ∧ τ6.Le τ36 ∧ ∃ (v38 : Value) (g39 : Grp), gs = [[(b1, .cells #[.slice none 0 0] 22 (0, 0))], [(b2, .cells #[.int .i64 p35.1] 24 (0, 0))], [(b3, .cells #[v38] 22 (0, 0))], g39] ∧ Ow (kI .u8) 5 τ36 v38 p35.2 g39) (fun _ _ _ _ hl ⟨hb, v16, g17, hg, ho18⟩ => ⟨hb.trans hl, v16, g17, hg, ho18.up hl⟩) (fun _ _ _ _ _ hl ⟨hc, hb, v38, g39, hg, ho40⟩ => ⟨hc, hb.trans hl, v38, g39, hg, ho40.up hl⟩) ⟨Sto.Le.refl _, _, _, rfl, Ow.nil⟩ ?_ ?_ ?_
 ·rintro x15 s15 o15 τ15 gs15 vx15 hl15 h rfl ⟨hb15, v16, g17, rfl, ho18⟩ l15 rc15 caller15 cs15 fs15
  refine Z 3 rfl ?_
  refine st_begin ?_
  refine Z 4 rfl ?_
  obtain ⟨r19, hr20, h⟩ := h
  refine st_call (foot := []) rfl rfl rfl rfl (evs_cons rfl (evs_cons (ev_str z_str2) rfl)) rfl (callV_fn z_en50 (strings_CutSuffix_ok hr20 τ15)) ?_
  rintro vτ21 τ21 gsτ21 hl22 ⟨rfl, rfl⟩
  refine Z 12 rfl ?_
  refine st_if rfl h (fun h => ?_) (fun h => ?_)
  ·refine ZZ 5 [0, 1] rfl rfl ?_
   exact st_rret (List.Sublist.refl _) hl22 ⟨_, h, rfl, (hl15.trans hl22), _, _, rfl, (ho18.up hl22)⟩
  ·refine Z 4 rfl ?_
   obtain ⟨r23, hr24, h⟩ := h
   refine st_call (foot := []) rfl rfl rfl rfl rfl rfl (callV_fn z_en51 (dump_row_ok hr24 τ21)) ?_
   rintro vτ25 τ25 gsτ25 hl26 ⟨v27, rfl, rfl, hs28⟩
   refine Z 11 rfl ?_
   refine st_cut (fun ρ τ29 gs => ∃ (s29 : Bool), dump_Parse_j2 s15 r23 s29 o15 ∧ τ25.Le τ29 ∧ ESub ρ [(2, .pointer (some ⟨b1, 0, none⟩)), (3, .pointer (some ⟨b2, 0, none⟩)), (4, .pointer (some ⟨b3, 0, none⟩)), (13, .string x15), (5, .string x15), (8, .int .u32 r23.1), (9, v27), (27, .bool s29)] ∧ gs = [[(b1, .cells #[.slice none 0 0] 22 (0, 0))], [(b2, .cells #[.int .i64 0] 24 (0, 0))], [(b3, .cells #[v16] 22 (0, 0))], g17]) ?_ (fun hk29 => ?_)
   ·rintro ρ29 τ29 gs29 ⟨s29, h, hl29, hρ, rfl⟩
    refine st_es hρ ?_
    refine st_if rfl h (fun h => ?_) (fun h => ?_)
    ·refine ZZ 5 [0, 1] rfl rfl ?_
     exact st_rret (List.Sublist.refl _) ((hl22.trans hl26).trans hl29) ⟨_, h, rfl, (((hl15.trans hl22).trans hl26).trans hl29), _, _, rfl, (ho18.up ((hl22.trans hl26).trans hl29))⟩
    ·refine ZZ 4 [2] rfl rfl ?_
     refine o_lenO rfl rfl rfl z_slT22 rfl (ho18.up ((hl22.trans hl26).trans hl29)) ?_
     refine Z 4 rfl ?_
     refine st_if rfl h (fun h => ?_) (fun h => ?_)
     ·refine ZZ 5 [0, 1] rfl rfl ?_
      exact st_rret (List.Sublist.refl _) ((hl22.trans hl26).trans hl29) ⟨_, h, rfl, (((hl15.trans hl22).trans hl26).trans hl29), _, _, rfl, (ho18.up ((hl22.trans hl26).trans hl29))⟩
     ·refine ZZ 5 [2] rfl rfl ?_
      obtain ⟨hf33, hf34, h⟩ := h
      refine st_ord [3, 0, 0, 0] _ rfl ?_
      refine o_append (dk := (kI .u8)) (xs := s15) (ys := r23.2.1) rfl rfl rfl rfl z_slT22 rfl (ho18.up ((hl22.trans hl26).trans hl29)) rfl (Sl.src (hs28.up hl29)) hf33 hf34 (fun v30 g31 ho32 => ?_)
      refine o_store (j := 3) (vs := [v30]) (cs' := [v30]) rfl rfl rfl z_size22 rfl rfl (oneL_ow ho32) (ones_cons ho32.one' ones_nil) rfl rfl rfl ?_
      refine st_gs [g31, [(b1, .cells #[.slice none 0 0] 22 (0, 0))], [(b2, .cells #[.int .i64 0] 24 (0, 0))], [(b3, .cells #[v30] 22 (0, 0))]] rfl ?_
      refine Z 2 rfl ?_
      refine st_ord [1, 1, 1, 0] _ rfl ?_
      exact st_rend (List.Sublist.refl _) ((hl22.trans hl26).trans hl29) ⟨_, h, (((hl15.trans hl22).trans hl26).trans hl29), _, _, rfl, ho32⟩
   refine Z 3 rfl ?_
   refine o_mif rfl rfl rfl rfl h (fun h => ?_) (fun h => ?_)
   ·refine Z 7 rfl ?_
    exact hk29 _ _ _ ⟨true, h, (Sto.Le.refl _), rfl, rfl⟩
   ·refine ZZ 1 [2] rfl rfl ?_
    refine o_lenO rfl rfl rfl z_slT22 rfl (ho18.up (hl22.trans hl26)) ?_
    refine Z 5 rfl ?_
    exact hk29 _ _ _ ⟨(!(decide (((s15.length : Int).tmod 16) = 0))), h, (Sto.Le.refl _), rfl, rfl⟩
 ·rintro p42 τ43 gs15 f15 ht hl44 ⟨hb, v45, g46, rfl, ho47⟩ rfl
  subst ht
  replace h := hA15
  refine st_gs [[(b11, .cells #[.string w15] 9 (0, 0))], [(b1, .cells #[.slice none 0 0] 22 (0, 0))], [(b2, .cells #[.int .i64 0] 24 (0, 0))], [(b3, .cells #[v45] 22 (0, 0))], g46] rfl ?_
  refine ZZ 4 [3] rfl rfl ?_
  refine o_store (j := 1) (vs := [v45]) (cs' := [v45]) rfl rfl rfl z_size22 rfl rfl (oneL_ow ho47) (ones_cons ho47.one' ones_nil) rfl rfl rfl ?_
  refine st_gs [[(b11, .cells #[.string w15] 9 (0, 0))], [(b1, .cells #[v45] 22 (0, 0))], [(b2, .cells #[.int .i64 0] 24 (0, 0))], [(b3, .cells #[v45] 22 (0, 0))], g46] rfl ?_
  refine ZZ 2 [2] rfl rfl ?_
  refine st_ord [4, 0, 0, 0, 0] _ rfl ?_
  refine st_freeze (fun τ48 hl49 hg50 => ?_)
  have hs51 := ho47.freeze hl49 hg50
  obtain rfl := Eq.symm h
  exact st_retC (gs' := []) [v45, .int .i64 0] Tryd.func10 ⟨⟨_, _, _, _, rfl, mem_flat 1 rfl, fun w hw => cellOf z_sc22 rfl w hw⟩, ⟨_, _, _, _, rfl, mem_flat 2 rfl, fun w hw => cellOf z_sc24 rfl w hw⟩, trivial⟩ (by simp) ((hl7.trans hl44).trans hl49) ⟨_, rfl, rfl, hs51⟩
 ·rintro p35 cd15 τ36 gs15 f15 ht hl37 ⟨rfl, hb, v38, g39, rfl, ho40⟩ rfl
  subst ht
  replace h := hA15
  refine st_gs [[(b11, .cells #[.string w15] 9 (0, 0))], [(b1, .cells #[.slice none 0 0] 22 (0, 0))], [(b2, .cells #[.int .i64 p35.1] 24 (0, 0))], [(b3, .cells #[v38] 22 (0, 0))], g39] rfl ?_
  obtain rfl := Eq.symm h
  exact st_retC (gs' := []) [.slice none 0 0, .int .i64 p35.1] Tryd.func10 ⟨⟨_, _, _, _, rfl, mem_flat 1 rfl, fun w hw => cellOf z_sc22 rfl w hw⟩, ⟨_, _, _, _, rfl, mem_flat 2 rfl, fun w hw => cellOf z_sc24 rfl w hw⟩, trivial⟩ (by simp) (hl7.trans hl37) ⟨_, rfl, rfl, Sl.nil⟩
theorem ref26_digit_ok {a0 : Int} {r : Int} (h : ref26_digit a0 r) (σ : Sto)  :
    Does Tryd.prog 78 [.int .u8 a0] σ [] (fun v τ gs => gs = [] ∧ .int .u8 r = v) := by
 refine call_of Tryd.func78 Tryd.ntmps78 rfl rfl (fun cs fs => ?_)
 refine Z 10 rfl ?_
 refine st_if rfl h (fun h => ?_) (fun h => ?_)
 ·refine Z 6 rfl ?_
  obtain rfl := Eq.symm h
  exact st_ret (gs' := []) Tryd.func78 rfl (List.Sublist.refl _) (Sto.Le.refl _) ⟨rfl, rfl⟩
 ·refine Z 7 rfl ?_
  obtain rfl := Eq.symm h
  exact st_ret (gs' := []) Tryd.func78 rfl (List.Sublist.refl _) (Sto.Le.refl _) ⟨rfl, rfl⟩
theorem ref26_Hex_ok {a0 : List Int} {v1 : Value} {r : ByteArray} (h : ref26_Hex a0 r) (σ : Sto) (hs2 : Sl (kI .u8) σ v1 a0) :
    Does Tryd.prog 53 [v1] σ [] (fun v τ gs => gs = [] ∧ .string r = v) := by
 refine call_of Tryd.func53 Tryd.ntmps53 rfl rfl (fun cs fs => ?_)
 refine Z 2 rfl ?_
 refine o_assign rfl rfl rfl (ev_str z_str0) ?_
 refine Z 5 rfl ?_
 refine o_lenI rfl rfl rfl z_slT22 rfl hs2 ?_
 refine Z 2 rfl ?_
 refine st_if rfl h (fun h => ?_) (fun h => ?_)
 ·refine Z 2 rfl ?_
  refine o_assign rfl rfl rfl (ev_str z_str4) ?_
  refine st_end ?_
  obtain rfl := Eq.symm h
  exact st_ret (gs' := []) Tryd.func53 rfl (List.Sublist.refl _) (Sto.Le.refl _) ⟨rfl, rfl⟩
 ·refine Z 3 rfl ?_
  refine o_assign rfl rfl rfl (ev_str z_str0) ?_
  refine Z 2 rfl ?_
  refine st_cut (fun ρ τ3 gs => ∃ (s3 : ByteArray), ref26_Hex_j1 s3 r ∧ σ.Le τ3 ∧ ESub ρ [(2, .string (bstr [])), (3, .string s3)] ∧ gs = []) ?_ (fun hk3 => ?_)
  ·rintro ρ3 τ3 gs3 ⟨s3, h, hl3, hρ, rfl⟩
   refine st_es hρ ?_
   refine Z 5 rfl ?_
   obtain rfl := Eq.symm h
   exact st_ret (gs' := []) Tryd.func53 rfl (List.Sublist.refl _) hl3 ⟨rfl, rfl⟩
  refine Z 4 rfl ?_
  obtain ⟨e4, hL4, hA4⟩ := h
  refine st_loop hL4 (fun (s4 : ByteArray × Int) ρ τ4 gs => σ.Le τ4 ∧ ESub ρ [(0, v1), (2, .string (bstr [])), (3, .string s4.1), (4, .int .i64 s4.2)] ∧ gs = []) ⟨Sto.Le.refl _, rfl, rfl⟩ ?_
  rintro s4 o4 h he4 ρ4 τ4 gs4 ⟨hl4, hρ, rfl⟩ hn4
  refine st_es hρ ?_
  refine Z 5 rfl ?_
  refine o_lenI rfl rfl rfl z_slT22 rfl (hs2.up hl4) ?_
  refine Z 2 rfl ?_
  refine st_if rfl h (fun h => ?_) (fun h => ?_)
  ·refine Z 3 rfl ?_
   obtain ⟨q5, hf6, r10, hr11, q14, hf15, r19, hr20, hf30, h⟩ := h
   refine st_draw 16 (dl [.v (.string s4.1), .v (v1), .v (.int .i64 s4.2), .t fun τ v => ∃ (b7 : Nat) (of8 : Nat) (vsb7 : List Value), (.pointer (some ⟨b7, of8, none⟩) : Value) = v ∧ CelN τ ⟨b7, of8, none⟩ vsb7 ∧ (kI .u8).rep τ vsb7 q5, .v (.int .u8 q5), .v (.int .u8 (IntKind.u8.wrap (q5.tdiv 16))), .v (.int .u8 r10), .v (v1), .v (.int .i64 s4.2), .t fun τ v => ∃ (b16 : Nat) (of17 : Nat) (vsb16 : List Value), (.pointer (some ⟨b16, of17, none⟩) : Value) = v ∧ CelN τ ⟨b16, of17, none⟩ vsb16 ∧ (kI .u8).rep τ vsb16 q14, .v (.int .u8 q14), .v (.int .u8 (q14.tmod 16)), .v (.int .u8 r19), .t fun τ v => ∃ (v23 : Value), (v23 : Value) = v ∧ Sl (kI .u8) τ v23 [r10, r19], .v (.string (bstr [r10, r19])), .v (.string (s4.1 ++ (bstr [r10, r19])))]) (fun _ _ => []) z_mix rfl (dl_mono ⟨fun _ _ _ hl ⟨b7, of8, vsb7, hv, hc9, hrepb7⟩ => ⟨b7, of8, vsb7, hv, hc9.up hl, Kd.mono _ hl hrepb7⟩, ⟨fun _ _ _ hl ⟨b16, of17, vsb16, hv, hc18, hrepb16⟩ => ⟨b16, of17, vsb16, hv, hc18.up hl, Kd.mono _ hl hrepb16⟩, ⟨fun _ _ _ hl ⟨v23, hv, hs29⟩ => ⟨v23, hv, hs29.up hl⟩, trivial⟩⟩⟩) (allB_cons (allB_cons (allB_cons (allB_cons (allB_cons (allB_cons (allB_cons (allB_cons (allB_cons (allB_cons (allB_cons (allB_cons (allB_cons (allB_cons (allB_cons (allB_cons allB_nil (p1 dA)) (p1 dA)) (p1 dA)) ?_) ?_) (p1 dA)) ?_) (p1 dA)) (p1 dA)) ?_) ?_) (p1 dA)) ?_) ?_) ?_) ?_) ?_
   ·intro ρ' τ pool rs hl hd hout hk
    obtain ⟨_, e1, rfl⟩ := hd 1 rfl
    obtain ⟨_, e2, rfl⟩ := hd 2 rfl
    refine o_index rfl rfl rfl z_slT22 rfl e1 (hs2.up (hl4.trans hl)) e2 hf6 (fun b7 of8 vsb7 hc9 hrepb7 => ?_)
    exact st_addNil (hk _ _ (Sto.Le.refl _) ⟨b7, of8, _, rfl, hc9, hrepb7⟩)
   ·intro ρ' τ pool rs hl hd hout hk
    obtain ⟨_, e3, b7, of8, vsb7, rfl, hc9, hrepb7⟩ := hd 3 rfl
    have hrepb7 := hrepb7
    obtain rfl := hrepb7
    refine o_loadI (v := .int .u8 q5) rfl rfl rfl z_sc5 e3 (hc9 0 _ rfl) ?_
    exact st_addNil (hk _ _ (Sto.Le.refl _) rfl)
   ·intro ρ' τ pool rs hl hd hout hk
    obtain ⟨_, e5, rfl⟩ := hd 5 rfl
    refine st_call (foot := []) rfl rfl rfl rfl (evs_cons e5 rfl) rfl (callV_fn z_en78 (ref26_digit_ok hr11 τ)) ?_
    rintro vτ12 τ12 gsτ12 hl13 ⟨rfl, rfl⟩
    exact st_addNil (hk _ _ hl13 rfl)
   ·intro ρ' τ pool rs hl hd hout hk
    obtain ⟨_, e7, rfl⟩ := hd 7 rfl
    obtain ⟨_, e8, rfl⟩ := hd 8 rfl
    refine o_index rfl rfl rfl z_slT22 rfl e7 (hs2.up (hl4.trans hl)) e8 hf15 (fun b16 of17 vsb16 hc18 hrepb16 => ?_)
    exact st_addNil (hk _ _ (Sto.Le.refl _) ⟨b16, of17, _, rfl, hc18, hrepb16⟩)
   ·intro ρ' τ pool rs hl hd hout hk
    obtain ⟨_, e9, b16, of17, vsb16, rfl, hc18, hrepb16⟩ := hd 9 rfl
    have hrepb16 := hrepb16
    obtain rfl := hrepb16
    refine o_loadI (v := .int .u8 q14) rfl rfl rfl z_sc5 e9 (hc18 0 _ rfl) ?_
    exact st_addNil (hk _ _ (Sto.Le.refl _) rfl)
   ·intro ρ' τ pool rs hl hd hout hk
    obtain ⟨_, e11, rfl⟩ := hd 11 rfl
    refine st_call (foot := []) rfl rfl rfl rfl (evs_cons e11 rfl) rfl (callV_fn z_en78 (ref26_digit_ok hr20 τ)) ?_
    rintro vτ21 τ21 gsτ21 hl22 ⟨rfl, rfl⟩
    exact st_addNil (hk _ _ hl22 rfl)
   ·intro ρ' τ pool rs hl hd hout hk
    obtain ⟨_, e6, rfl⟩ := hd 6 rfl
    obtain ⟨_, e12, rfl⟩ := hd 12 rfl
    refine o_litE (eI .u8) [r10, r19] rfl rfl rfl z_slT22 z_zero5 ⟨rfl, ⟨_, e6, rfl⟩, ⟨rfl, ⟨_, e12, rfl⟩, trivial⟩⟩ rfl rfl rfl rfl (fun v23 g24 ho25 => ?_)
    refine st_freeze (fun τ26 hl27 hg28 => ?_)
    have hs29 := ho25.freeze hl27 hg28
    exact st_addNil (hk _ _ hl27 ⟨v23, rfl, hs29⟩)
   ·intro ρ' τ pool rs hl hd hout hk
    obtain ⟨_, e13, v23, rfl, hs29⟩ := hd 13 rfl
    refine o_bstr (xs := [r10, r19]) rfl rfl rfl Tryd.underlying22 Tryd.underlying5 Tryd.underlying9 e13 hs29 ?_
    exact st_addNil (hk _ _ (Sto.Le.refl _) rfl)
   ·intro ρ' τ pool rs hl hd hout hk
    obtain ⟨_, e0, rfl⟩ := hd 0 rfl
    obtain ⟨_, e14, rfl⟩ := hd 14 rfl
    refine o_sadd rfl rfl rfl e0 e14 hf30 ?_
    exact st_addNil (hk _ _ (Sto.Le.refl _) rfl)
   intro ρ' τ31 vals hl31 hv hout
   refine st_ord [] _ rfl ?_
   refine st_env (ρ' := [(29, .string (s4.1 ++ (bstr [r10, r19]))), (0, v1), (2, .string (bstr [])), (4, .int .i64 s4.2)]) ⟨(lv1 hv 15 rfl rfl), (hout 0 rfl).trans rfl, (hout 2 rfl).trans rfl, (hout 4 rfl).trans rfl, trivial⟩ ?_
   refine Z 8 rfl ?_
   exact hn4 _ _ _ _ h ⟨(hl4.trans hl31), rfl, rfl⟩
  ·refine st_exit rfl ?_
   obtain rfl := he4 _ h
   replace h := hA4
   exact hk3 _ _ _ ⟨s4.1, h, hl4, rfl, rfl⟩
theorem ref29_place_ok {a0 : Int} {r : ByteArray} (h : ref29_place a0 r) (σ : Sto)  :
    Does Tryd.prog 52 [.int .i64 a0] σ [] (fun v τ gs => gs = [] ∧ .string r = v) := by
 refine call_of Tryd.func52 Tryd.ntmps52 rfl rfl (fun cs fs => ?_)
 refine Z 2 rfl ?_
 refine o_assign rfl rfl rfl (ev_str z_str0) ?_
 refine Z 14 rfl ?_
 refine o_litE (eI .u8) [(IntKind.u8.wrap (IntKind.i64.wrap (a0.tdiv 16777216))), (IntKind.u8.wrap (IntKind.i64.wrap (a0.tdiv 65536))), (IntKind.u8.wrap (IntKind.i64.wrap (a0.tdiv 256))), (IntKind.u8.wrap a0)] rfl rfl rfl z_slT22 z_zero5 ⟨rfl, ⟨_, rfl, rfl⟩, ⟨rfl, ⟨_, rfl, rfl⟩, ⟨rfl, ⟨_, rfl, rfl⟩, ⟨rfl, ⟨_, rfl, rfl⟩, trivial⟩⟩⟩⟩ rfl rfl rfl rfl (fun v1 g2 ho3 => ?_)
 obtain ⟨r8, hr9, h⟩ := h
 refine st_freeze (fun τ4 hl5 hg6 => ?_)
 have hs7 := ho3.freeze hl5 hg6
 refine st_call (foot := []) rfl rfl rfl rfl rfl rfl (callV_fn z_en53 (ref26_Hex_ok hr9 τ4 hs7)) ?_
 rintro vτ10 τ10 gsτ10 hl11 ⟨rfl, rfl⟩
 refine Z 2 rfl ?_
 obtain rfl := Eq.symm h
 exact st_ret (gs' := []) Tryd.func52 rfl (List.Sublist.refl _) (hl5.trans hl11) ⟨rfl, rfl⟩
theorem ref01_Same_ok {a0 : List Int} {a1 : List Int} {v1 : Value} {v3 : Value} {r : Bool} (h : ref01_Same a0 a1 r) (σ : Sto) (hs2 : Sl (kI .u8) σ v1 a0) (hs4 : Sl (kI .u8) σ v3 a1) :
    Does Tryd.prog 12 [v1, v3] σ [] (fun v τ gs => gs = [] ∧ .bool r = v) := by
 refine call_of Tryd.func12 Tryd.ntmps12 rfl rfl (fun cs fs => ?_)
 refine Z 8 rfl ?_
 refine o_lenI rfl rfl rfl z_slT22 rfl hs2 ?_
 refine o_move rfl rfl rfl rfl ?_
 refine o_lenI rfl rfl rfl z_slT22 rfl hs4 ?_
 refine Z 2 rfl ?_
 refine st_if rfl h (fun h => ?_) (fun h => ?_)
 ·refine Z 4 rfl ?_
  obtain rfl := Eq.symm h
  exact st_ret (gs' := []) Tryd.func12 rfl (List.Sublist.refl _) (Sto.Le.refl _) ⟨rfl, rfl⟩
 ·refine Z 2 rfl ?_
  refine st_cut (fun ρ τ5 gs => ∃ (s5 : Unit), ref01_Same_j1 s5 r ∧ σ.Le τ5 ∧ ESub ρ [(4, .bool false)] ∧ gs = []) ?_ (fun hk5 => ?_)
  ·rintro ρ5 τ5 gs5 ⟨s5, h, hl5, hρ, rfl⟩
   refine st_es hρ ?_
   refine Z 4 rfl ?_
   obtain rfl := Eq.symm h
   exact st_ret (gs' := []) Tryd.func12 rfl (List.Sublist.refl _) hl5 ⟨rfl, rfl⟩
  refine Z 4 rfl ?_
  obtain ⟨e6, hL6, hA6⟩ := h
  refine st_loop hL6 (fun (s6 : Int) ρ τ6 gs => σ.Le τ6 ∧ ESub ρ [(0, v1), (1, v3), (4, .bool false), (5, .int .i64 s6)] ∧ gs = []) ⟨Sto.Le.refl _, rfl, rfl⟩ ?_
  rintro s6 o6 h he6 ρ6 τ6 gs6 ⟨hl6, hρ, rfl⟩ hn6
  refine st_es hρ ?_
  refine Z 5 rfl ?_
  refine o_lenI rfl rfl rfl z_slT22 rfl (hs2.up hl6) ?_
  refine Z 2 rfl ?_
  refine st_if rfl h (fun h => ?_) (fun h => ?_)
  ·refine Z 4 rfl ?_
   obtain ⟨q7, hf8, q12, hf13, h⟩ := h
   refine st_draw 9 (dl [.v (v1), .v (.int .i64 s6), .t fun τ v => ∃ (b9 : Nat) (of10 : Nat) (vsb9 : List Value), (.pointer (some ⟨b9, of10, none⟩) : Value) = v ∧ CelN τ ⟨b9, of10, none⟩ vsb9 ∧ (kI .u8).rep τ vsb9 q7, .v (.int .u8 q7), .v (v3), .v (.int .i64 s6), .t fun τ v => ∃ (b14 : Nat) (of15 : Nat) (vsb14 : List Value), (.pointer (some ⟨b14, of15, none⟩) : Value) = v ∧ CelN τ ⟨b14, of15, none⟩ vsb14 ∧ (kI .u8).rep τ vsb14 q12, .v (.int .u8 q12), .v (.bool (!(decide (q7 = q12))))]) (fun _ _ => []) z_mix rfl (dl_mono ⟨fun _ _ _ hl ⟨b9, of10, vsb9, hv, hc11, hrepb9⟩ => ⟨b9, of10, vsb9, hv, hc11.up hl, Kd.mono _ hl hrepb9⟩, ⟨fun _ _ _ hl ⟨b14, of15, vsb14, hv, hc16, hrepb14⟩ => ⟨b14, of15, vsb14, hv, hc16.up hl, Kd.mono _ hl hrepb14⟩, trivial⟩⟩) (allB_cons (allB_cons (allB_cons (allB_cons (allB_cons (allB_cons (allB_cons (allB_cons (allB_cons allB_nil (p1 dA)) (p1 dA)) ?_) ?_) (p1 dA)) (p1 dA)) ?_) ?_) (p1 dA)) ?_
   ·intro ρ' τ pool rs hl hd hout hk
    obtain ⟨_, e0, rfl⟩ := hd 0 rfl
    obtain ⟨_, e1, rfl⟩ := hd 1 rfl
    refine o_index rfl rfl rfl z_slT22 rfl e0 (hs2.up (hl6.trans hl)) e1 hf8 (fun b9 of10 vsb9 hc11 hrepb9 => ?_)
    exact st_addNil (hk _ _ (Sto.Le.refl _) ⟨b9, of10, _, rfl, hc11, hrepb9⟩)
   ·intro ρ' τ pool rs hl hd hout hk
    obtain ⟨_, e2, b9, of10, vsb9, rfl, hc11, hrepb9⟩ := hd 2 rfl
    have hrepb9 := hrepb9
    obtain rfl := hrepb9
    refine o_loadI (v := .int .u8 q7) rfl rfl rfl z_sc5 e2 (hc11 0 _ rfl) ?_
    exact st_addNil (hk _ _ (Sto.Le.refl _) rfl)
   ·intro ρ' τ pool rs hl hd hout hk
    obtain ⟨_, e4, rfl⟩ := hd 4 rfl
    obtain ⟨_, e5, rfl⟩ := hd 5 rfl
    refine o_index rfl rfl rfl z_slT22 rfl e4 (hs4.up (hl6.trans hl)) e5 hf13 (fun b14 of15 vsb14 hc16 hrepb14 => ?_)
    exact st_addNil (hk _ _ (Sto.Le.refl _) ⟨b14, of15, _, rfl, hc16, hrepb14⟩)
   ·intro ρ' τ pool rs hl hd hout hk
    obtain ⟨_, e6, b14, of15, vsb14, rfl, hc16, hrepb14⟩ := hd 6 rfl
    have hrepb14 := hrepb14
    obtain rfl := hrepb14
    refine o_loadI (v := .int .u8 q12) rfl rfl rfl z_sc5 e6 (hc16 0 _ rfl) ?_
    exact st_addNil (hk _ _ (Sto.Le.refl _) rfl)
   intro ρ' τ17 vals hl17 hv hout
   refine st_ord [] _ rfl ?_
   refine st_env (ρ' := [(25, .bool (!(decide (q7 = q12)))), (0, v1), (1, v3), (4, .bool false), (5, .int .i64 s6)]) ⟨(lv1 hv 8 rfl rfl), (hout 0 rfl).trans rfl, (hout 1 rfl).trans rfl, (hout 4 rfl).trans rfl, (hout 5 rfl).trans rfl, trivial⟩ ?_
   refine st_end ?_
   refine st_if rfl h (fun h => ?_) (fun h => ?_)
   ·refine Z 4 rfl ?_
    obtain rfl := he6 _ h
    replace h := hA6
    obtain rfl := Eq.symm h
    exact st_ret (gs' := []) Tryd.func12 rfl (List.Sublist.refl _) (hl6.trans hl17) ⟨rfl, rfl⟩
   ·refine Z 7 rfl ?_
    exact hn6 _ _ _ _ h ⟨(hl6.trans hl17), rfl, rfl⟩
  ·refine st_exit rfl ?_
   obtain rfl := he6 _ h
   replace h := hA6
   exact hk5 _ _ _ ⟨(), h, hl6, rfl, rfl⟩
theorem crc_shift_ok {a0 : Int} {r : Int} (h : crc_shift a0 r) (σ : Sto)  :
    Does Tryd.prog 133 [.int .u32 a0] σ [] (fun v τ gs => gs = [] ∧ .int .u32 r = v) := by
 refine call_of Tryd.func133 Tryd.ntmps133 rfl rfl (fun cs fs => ?_)
 refine Z 5 rfl ?_
 refine st_cut (fun ρ τ1 gs => ∃ (s1 : Int), crc_shift_j1 s1 r ∧ σ.Le τ1 ∧ ESub ρ [(0, .int .u32 s1), (2, .int .u32 0)] ∧ gs = []) ?_ (fun hk1 => ?_)
 ·rintro ρ1 τ1 gs1 ⟨s1, h, hl1, hρ, rfl⟩
  refine st_es hρ ?_
  refine Z 5 rfl ?_
  obtain rfl := Eq.symm h
  exact st_ret (gs' := []) Tryd.func133 rfl (List.Sublist.refl _) hl1 ⟨rfl, rfl⟩
 refine Z 4 rfl ?_
 obtain ⟨e2, hL2, hA2⟩ := h
 refine st_loop hL2 (fun (s2 : Int × Int) ρ τ2 gs => σ.Le τ2 ∧ ESub ρ [(0, .int .u32 s2.1), (2, .int .u32 0), (3, .int .i64 s2.2)] ∧ gs = []) ⟨Sto.Le.refl _, rfl, rfl⟩ ?_
 rintro s2 o2 h he2 ρ2 τ2 gs2 ⟨hl2, hρ, rfl⟩ hn2
 refine st_es hρ ?_
 refine Z 5 rfl ?_
 refine st_if rfl h (fun h => ?_) (fun h => ?_)
 ·refine Z 18 rfl ?_
  exact hn2 _ _ _ _ h ⟨hl2, rfl, rfl⟩
 ·refine st_exit rfl ?_
  obtain rfl := he2 _ h
  replace h := hA2
  exact hk1 _ _ _ ⟨s2.1, h, hl2, rfl, rfl⟩
theorem crc_New_ok  {r : List Int} (h : crc_New r) (σ : Sto)  :
    Does Tryd.prog 113 [] σ [] (fun v τ gs => ∃ (bi19 : Nat), gs = [] ∧ .pointer (some ⟨bi19, 0, none⟩) = v ∧ CelN τ ⟨bi19, 0, none⟩ (cellsN (Value.int .u32) 0 1024 r)) := by
 refine call_of Tryd.func113 Tryd.ntmps113 rfl rfl (fun cs fs => ?_)
 refine Z 6 rfl ?_
 refine o_build (ps := []) (cs := (cellsN (Value.int .u32) 0 1024 (List.replicate 1024 0))) rfl rfl rfl z_struct178 trivial rfl ?_
 refine o_box (cs := (cellsN (Value.int .u32) 0 1024 (List.replicate 1024 0))) rfl rfl rfl rfl rfl (fun b1 => ?_)
 refine Z 3 rfl ?_
 refine st_cut (fun ρ τ2 gs => ∃ (s2 : List Int), crc_New_j1 s2 r ∧ σ.Le τ2 ∧ ESub ρ [(0, .pointer none), (1, .pointer (some ⟨b1, 0, none⟩))] ∧ gs = [[(b1, .cells (cellsN (Value.int .u32) 0 1024 s2).toArray 178 (0, 0))]]) ?_ (fun hk2 => ?_)
 ·rintro ρ2 τ2 gs2 ⟨s2, h, hl2, hρ, rfl⟩
  refine st_es hρ ?_
  refine Z 5 rfl ?_
  refine st_freeze (fun τ3 hl4 hg5 => ?_)
  obtain rfl := Eq.symm h
  exact st_ret (gs' := []) Tryd.func113 rfl (List.Sublist.refl _) (hl2.trans hl4) ⟨_, rfl, rfl, (celn_box hg5)⟩
 refine Z 4 rfl ?_
 obtain ⟨e6, hL6, hA6⟩ := h
 refine st_loop hL6 (fun (s6 : Int × List Int) ρ τ6 gs => σ.Le τ6 ∧ ESub ρ [(0, .pointer none), (1, .pointer (some ⟨b1, 0, none⟩)), (7, .int .i64 s6.1)] ∧ gs = [[(b1, .cells (cellsN (Value.int .u32) 0 1024 s6.2).toArray 178 (0, 0))]]) ⟨Sto.Le.refl _, rfl, rfl⟩ ?_
 rintro s6 o6 h he6 ρ6 τ6 gs6 ⟨hl6, hρ, rfl⟩ hn6
 refine st_es hρ ?_
 refine Z 5 rfl ?_
 refine st_if rfl h (fun h => ?_) (fun h => ?_)
 ·refine Z 2 rfl ?_
  refine st_cut (fun ρ τ7 gs => ∃ (s7 : List Int), crc_New_j3 s6 s7 o6 ∧ τ6.Le τ7 ∧ ESub ρ [(0, .pointer none), (1, .pointer (some ⟨b1, 0, none⟩)), (7, .int .i64 s6.1)] ∧ gs = [[(b1, .cells (cellsN (Value.int .u32) 0 1024 s7).toArray 178 (0, 0))]]) ?_ (fun hk7 => ?_)
  ·rintro ρ7 τ7 gs7 ⟨s7, h, hl7, hρ, rfl⟩
   refine st_es hρ ?_
   refine Z 4 rfl ?_
   exact hn6 _ _ _ _ h ⟨(hl6.trans hl7), rfl, rfl⟩
  refine Z 16 rfl ?_
  obtain ⟨e8, hL8, hA8⟩ := h
  refine st_loop hL8 (fun (s8 : Int × Int × List Int) ρ τ8 gs => τ6.Le τ8 ∧ ESub ρ [(0, .pointer none), (1, .pointer (some ⟨b1, 0, none⟩)), (7, .int .i64 s6.1), (2, .int .i64 s6.1), (3, .int .u32 s8.1), (12, .int .i64 s8.2.1)] ∧ gs = [[(b1, .cells (cellsN (Value.int .u32) 0 1024 s8.2.2).toArray 178 (0, 0))]]) ⟨Sto.Le.refl _, rfl, rfl⟩ ?_
  rintro s8 o8 h he8 ρ8 τ8 gs8 ⟨hl8, hρ, rfl⟩ hn8
  refine st_es hρ ?_
  refine Z 5 rfl ?_
  refine st_if rfl h (fun h => ?_) (fun h => ?_)
  ·refine Z 11 rfl ?_
   obtain ⟨r9, hr10, h⟩ := h
   refine st_call (foot := []) rfl rfl rfl rfl rfl rfl (callV_fn z_en133 (crc_shift_ok hr10 τ8)) ?_
   rintro vτ11 τ11 gsτ11 hl12 ⟨rfl, rfl⟩
   refine Z 9 rfl ?_
   obtain ⟨hf13, hf14, h⟩ := h
   refine o_indexA rfl rfl rfl z_arr176 rfl rfl hf13 hf14 ?_
   obtain ⟨hf15, hf16, h⟩ := h
   refine o_indexA rfl rfl rfl z_arr175 rfl rfl hf15 hf16 ?_
   refine o_storeB (j := 0) (q := (s8.2.1.toNat * 256 + s6.1.toNat)) (f := (Value.int .u32)) (zz := 0) (a := r9) (l := 1024) (xs := s8.2.2) rfl rfl rfl z_size36 rfl rfl rfl rfl rfl (by omega) (by omega) ?_
   refine st_gs [[(b1, .cells (cellsN (Value.int .u32) 0 1024 (putN 1024 0 s8.2.2 (s8.2.1.toNat * 256 + s6.1.toNat) r9)).toArray 178 (0, 0))]] rfl ?_
   refine Z 6 rfl ?_
   exact hn8 _ _ _ _ h ⟨(hl8.trans hl12), rfl, rfl⟩
  ·refine Z 2 rfl ?_
   obtain rfl := he8 _ h
   replace h := hA8
   exact hk7 _ _ _ ⟨s8.2.2, h, hl8, rfl, rfl⟩
 ·refine st_exit rfl ?_
  obtain rfl := he6 _ h
  replace h := hA6
  exact hk2 _ _ _ ⟨s6.2, h, hl6, rfl, rfl⟩
theorem frame_New_ok  {r : List Int} (h : frame_New r) (σ : Sto)  :
    Does Tryd.prog 92 [] σ [] (fun v τ gs => ∃ (bi13 : Nat) (bi11 : Nat), gs = [] ∧ .pointer (some ⟨bi11, 0, none⟩) = v ∧ CelN τ ⟨bi13, 0, none⟩ (cellsN (Value.int .u32) 0 1024 r) ∧ CelN τ ⟨bi11, 0, none⟩ [.pointer (some ⟨bi13, 0, none⟩)]) := by
 refine call_of Tryd.func92 Tryd.ntmps92 rfl rfl (fun cs fs => ?_)
 refine Z 6 rfl ?_
 obtain ⟨r1, hr2, h⟩ := h
 refine st_call (foot := []) rfl rfl rfl rfl rfl rfl (callV_fn z_en113 (crc_New_ok hr2 σ)) ?_
 rintro vτ3 τ3 gsτ3 hl4 ⟨bi5, rfl, rfl, hc6⟩
 refine ZZ 1 [] rfl rfl ?_
 refine o_box (cs := [.pointer (some ⟨bi5, 0, none⟩)]) rfl rfl rfl rfl rfl (fun b7 => ?_)
 refine Z 2 rfl ?_
 refine st_freeze (fun τ8 hl9 hg10 => ?_)
 obtain rfl := Eq.symm h
 exact st_ret (gs' := []) Tryd.func92 rfl (List.Sublist.refl _) (hl4.trans hl9) ⟨_, _, rfl, rfl, (hc6.up hl9), (celn_box hg10)⟩
theorem fence_Segments_1_ok {c0 : List Int} {bc0 : Nat} {v1 : Value} {σ0 : Sto} (hc0_0 : Cel σ0 ⟨bc0, 0, none⟩ (v1)) (hs2 : Sl (kI .u8) σ0 v1 c0) :
    IterV Tryd.prog (fun τ x vx => ∃ (v20 : Value), vx = [.int .i64 x.1, v20] ∧ Sl (kI .u8) τ v20 x.2) (.func (.func 114) #[] [.pointer (some ⟨bc0, 0, none⟩)].toArray) σ0 [] (fun (_ : Unit) _ f => f = []) (fence_Segments_1 c0) := by
 intro S Y I y hyc hyo hIm hY s s' o hR σ g hle hIg
 obtain ⟨r, hr0⟩ : ∃ r, r = (s', o) := ⟨_, rfl⟩
 rw [← hr0] at hR
 have h := hR
 refine callV_of (caps := [.pointer (some ⟨bc0, 0, none⟩)]) z_en114 ?_
 refine call_of Tryd.func114 Tryd.ntmps114 rfl rfl (fun cs fs => ?_)
 refine st_ord [0] _ rfl ?_
 refine Z 9 rfl ?_
 refine o_loadI (v := v1) rfl rfl rfl z_sc22 rfl (Cel.up hc0_0 hle) ?_
 refine o_lenI rfl rfl rfl z_slT22 rfl (hs2.up hle) ?_
 refine Z 2 rfl ?_
 obtain ⟨e3, hL3, hA3⟩ := h
 refine st_loop hL3 (fun (s3 : S × Int × Int) ρ τ3 gs => σ.Le τ3 ∧ ∃ (g4 : Grp), ESub ρ [(0, y), (1, .pointer (some ⟨bc0, 0, none⟩)), (3, .int .i64 s3.2.1), (6, v1), (7, .int .i64 (c0.length : Int)), (8, .int .i64 s3.2.2)] ∧ gs = [g4] ∧ I s3.1 τ3 g4) ⟨Sto.Le.refl _, g, rfl, rfl, hIg⟩ ?_
 rintro s3 o3 h he3 ρ3 τ3 gs3 ⟨hl3, g4, hρ, rfl, hI5⟩ hn3
 refine st_es hρ ?_
 refine Z 5 rfl ?_
 refine st_if rfl h (fun h => ?_) (fun h => ?_)
 ·refine Z 2 rfl ?_
  refine st_cut (fun ρ τ6 gs => ∃ (s6 : S × Int) (g7 : Grp), fence_Segments_1_j2 S Y s3 s6 o3 ∧ τ3.Le τ6 ∧ ESub ρ [(0, y), (1, .pointer (some ⟨bc0, 0, none⟩)), (3, .int .i64 s6.2), (6, v1), (7, .int .i64 (c0.length : Int)), (8, .int .i64 s3.2.2)] ∧ gs = [g7] ∧ I s6.1 τ6 g7) ?_ (fun hk6 => ?_)
  ·rintro ρ6 τ6 gs6 ⟨s6, g7, h, hl6, hρ, rfl, hI8⟩
   refine st_es hρ ?_
   refine Z 4 rfl ?_
   exact hn3 _ _ _ _ h ⟨(hl3.trans hl6), g7, rfl, rfl, hI8⟩
  refine Z 4 rfl ?_
  obtain ⟨q9, hf10, h⟩ := h
  refine o_index rfl rfl rfl z_slT22 rfl rfl (hs2.up (hle.trans hl3)) rfl hf10 (fun b11 of12 vs hc13 hrep => ?_)
  obtain rfl := hrep
  refine o_loadI (v := .int .u8 q9) rfl rfl rfl z_sc5 rfl (hc13 0 _ rfl) ?_
  refine Z 9 rfl ?_
  refine st_if rfl h (fun h => ?_) (fun h => ?_)
  ·refine st_exit rfl ?_
   exact hk6 _ _ _ ⟨(s3.1, s3.2.1), g4, h, (Sto.Le.refl _), rfl, rfl, hI5⟩
  ·refine Z 3 rfl ?_
   refine st_cut (fun ρ τ14 gs => ∃ (s14 : S × Bool) (g15 : Grp), fence_Segments_1_j3 S Y s3 s14 o3 ∧ τ3.Le τ14 ∧ ESub ρ [(0, y), (1, .pointer (some ⟨bc0, 0, none⟩)), (6, v1), (7, .int .i64 (c0.length : Int)), (8, .int .i64 s3.2.2), (4, .int .i64 s3.2.2), (30, .bool s14.2)] ∧ gs = [g15] ∧ I s14.1 τ14 g15) ?_ (fun hk14 => ?_)
   ·rintro ρ14 τ14 gs14 ⟨s14, g15, h, hl14, hρ, rfl, hI16⟩
    refine st_es hρ ?_
    refine st_if rfl h (fun h => ?_) (fun h => ?_)
    ·obtain rfl := he3 _ h
     replace h := hA3
     obtain rfl := Eq.symm h
     cases hr0
     exact st_ret (gs' := [g15, []]) Tryd.func114 rfl (by simp) (hl3.trans hl14) ⟨g15, _, rfl, hI16, rfl⟩
    ·refine Z 7 rfl ?_
     exact hk6 _ _ _ ⟨(s14.1, (IntKind.i64.wrap (s3.2.2 + 1))), g15, h, hl14, rfl, rfl, hI16⟩
   refine Z 4 rfl ?_
   refine o_mif rfl rfl rfl rfl h (fun h => ?_) (fun h => ?_)
   ·refine Z 2 rfl ?_
    refine o_lit (dk := (kI .u8)) (xs := ([] : List Int)) (ps := []) (cs := []) rfl rfl rfl z_slT22 z_zero5 trivial rfl rfl rfl rfl Kd.Many.nil (fun v17 g18 ho19 => ?_)
    refine o_loadI (v := v1) rfl rfl rfl z_sc22 rfl (Cel.up hc0_0 (hle.trans hl3)) ?_
    refine Z 3 rfl ?_
    obtain ⟨hf20, hf21, hf22, hf23, hf24, h⟩ := h
    refine o_slice (L := s3.2.1) (H := s3.2.2) rfl rfl rfl z_slT22 rfl rfl (hs2.up (hle.trans hl3)) ⟨_, rfl⟩ ⟨_, rfl⟩ hf20 hf21 hf22 ⟨_, _, rfl, hf23, hf24⟩ (by simp) (fun v25 hs26 => ?_)
    obtain ⟨hf30, hf31, h⟩ := h
    refine o_append (dk := (kI .u8)) (xs := ([] : List Int)) (ys := ((c0.drop s3.2.1.toNat).take ((s3.2.2 : Int) - s3.2.1).toNat)) rfl rfl rfl rfl z_slT22 rfl ho19 rfl (Sl.src hs26) hf30 hf31 (fun v27 g28 ho29 => ?_)
    obtain ⟨y36, u37, hy38, h⟩ := h
    refine st_freeze (fun τ32 hl33 hg34 => ?_)
    have hs35 := ho29.freeze hl33 hg34
    refine st_call (foot := [g4]) rfl rfl rfl rfl rfl rfl (hY (s3.2.1, (([] : List Int) ++ ((c0.drop s3.2.1.toNat).take ((s3.2.2 : Int) - s3.2.1).toNat))) s3.1 _ _ _ _ _ (hle.trans (hl3.trans hl33)) hy38 ⟨_, rfl, hs35⟩ (hIm _ _ _ _ hl33 hI5)) ?_
    rintro vτ39 τ39 gsτ39 hl40 ⟨rfl, g41, rfl, hI42⟩
    refine Z 3 rfl ?_
    exact hk14 _ _ _ ⟨(u37, (!y36)), g41, h, (hl33.trans hl40), rfl, rfl, hI42⟩
   ·refine Z 13 rfl ?_
    exact hk14 _ _ _ ⟨(s3.1, false), g4, h, (Sto.Le.refl _), rfl, rfl, hI5⟩
 ·refine Z 2 rfl ?_
  obtain rfl := he3 _ h
  replace h := hA3
  obtain rfl := Eq.symm h
  cases hr0
  exact st_fin (gs' := [g4, []]) Tryd.func114 rfl (by simp) hl3 ⟨g4, _, rfl, hI5, rfl⟩
theorem fence_Segments_ok {a0 : List Int} {v1 : Value} {r : (((S : Type) → ((Int × List Int) → S → Bool × S → Prop) → S → S × Unit → Prop))} (h : fence_Segments a0 r) (σ : Sto) (hs2 : Sl (kI .u8) σ v1 a0) :
    Does Tryd.prog 93 [v1] σ [] (fun v τ gs => ∃ (f7 : Nat) (q8 : Array Value), gs = [] ∧ .func (.func f7) #[] q8 = v ∧ IterV Tryd.prog (fun τ x vx => ∃ (v22 : Value), vx = [.int .i64 x.1, v22] ∧ Sl (kI .u8) τ v22 x.2) (.func (.func f7) #[] q8) τ [] (fun (_ : Unit) _ f => f = []) r) := by
 refine call_of Tryd.func93 Tryd.ntmps93 rfl rfl (fun cs fs => ?_)
 refine Z 2 rfl ?_
 refine o_box (cs := [v1]) rfl rfl rfl rfl (oneL_sl hs2) (fun b3 => ?_)
 refine Z 4 rfl ?_
 refine st_freeze (fun τ4 hl5 hg6 => ?_)
 refine Z 3 rfl ?_
 obtain rfl := Eq.symm h
 exact st_ret (gs' := []) Tryd.func93 rfl (List.Sublist.refl _) hl5 ⟨_, _, rfl, rfl, (fence_Segments_1_ok (cel_of hg6 rfl) (hs2.up hl5))⟩
theorem cobs_Decode_ok {a0 : List Int} {v1 : Value} {r : List Int × Int} (h : cobs_Decode a0 r) (σ : Sto) (hs2 : Sl (kI .u8) σ v1 a0) :
    Does Tryd.prog 115 [v1] σ [] (fun v τ gs => ∃ (v64 : Value), gs = [] ∧ .tuple [v64, .int .i64 r.2].toArray = v ∧ Sl (kI .u8) τ v64 r.1) := by
 refine call_of Tryd.func115 Tryd.ntmps115 rfl rfl (fun cs fs => ?_)
 refine Z 6 rfl ?_
 refine st_lcut (l := 0) rfl (fun ρ τ3 gs => ∃ (s3 : Unit), cobs_Decode_j1 s3 r ∧ σ.Le τ3 ∧ ESub ρ [(2, .slice none 0 0), (3, .int .i64 0)] ∧ gs = []) ?_ (fun hk3 => ?_)
 ·rintro ρ3 τ3 gs3 ⟨s3, h, hl3, hρ, rfl⟩
  refine st_es hρ ?_
  refine Z 7 rfl ?_
  obtain rfl := Eq.symm h
  exact st_ret (gs' := []) Tryd.func115 rfl (List.Sublist.refl _) hl3 ⟨_, rfl, rfl, Sl.nil⟩
 refine Z 14 rfl ?_
 refine o_lenI rfl rfl rfl z_slT22 rfl hs2 ?_
 refine Z 2 rfl ?_
 refine st_if rfl h (fun h => ?_) (fun h => ?_)
 ·refine st_goto rfl ?_
  exact hk3 _ _ _ ⟨(), h, (Sto.Le.refl _), rfl, rfl⟩
 ·refine Z 4 rfl ?_
  refine st_cut (fun ρ τ4 gs => ∃ (s4 : List Int) (v5 : Value) (g6 : Grp), cobs_Decode_j2 s4 r ∧ σ.Le τ4 ∧ ESub ρ [(2, .slice none 0 0), (3, .int .i64 0), (4, v5)] ∧ gs = [g6] ∧ Ow (kI .u8) 5 τ4 v5 s4 g6) ?_ (fun hk4 => ?_)
  ·rintro ρ4 τ4 gs4 ⟨s4, v5, g6, h, hl4, hρ, rfl, ho7⟩
   refine st_es hρ ?_
   refine Z 7 rfl ?_
   refine st_freeze (fun τ8 hl9 hg10 => ?_)
   have hs11 := ho7.freeze hl9 hg10
   obtain rfl := Eq.symm h
   exact st_ret (gs' := []) Tryd.func115 rfl (List.Sublist.refl _) (hl4.trans hl9) ⟨_, rfl, rfl, hs11⟩
  obtain ⟨e14, hL14, hA14⟩ := h
  refine st_addNil ?_
  refine st_loop hL14 (fun (s14 : List Int × List Int × Bool) ρ τ14 gs => σ.Le τ14 ∧ ∃ (v15 : Value) (g16 : Grp) (v18 : Value), ESub ρ [(2, .slice none 0 0), (3, .int .i64 0), (4, v15), (5, v18), (6, .bool s14.2.2)] ∧ gs = [g16] ∧ Ow (kI .u8) 5 τ14 v15 s14.1 g16 ∧ Sl (kI .u8) τ14 v18 s14.2.1) ⟨Sto.Le.refl _, _, _, _, rfl, rfl, Ow.nil, hs2⟩ ?_
  rintro s14 o14 h he14 ρ14 τ14 gs14 ⟨hl14, v15, g16, v18, hρ, rfl, ho17, hs19⟩ hn14
  refine st_es hρ ?_
  refine Z 4 rfl ?_
  obtain ⟨q20, hf21, h⟩ := h
  refine o_index rfl rfl rfl z_slT22 rfl rfl hs19 rfl hf21 (fun b22 of23 vs hc24 hrep => ?_)
  obtain rfl := hrep
  refine o_loadI (v := .int .u8 q20) rfl rfl rfl z_sc5 rfl (hc24 0 _ rfl) ?_
  refine Z 6 rfl ?_
  refine st_cut (fun ρ τ25 gs => ∃ (s25 : Bool), cobs_Decode_j4 s14 q20 s25 o14 ∧ τ14.Le τ25 ∧ ESub ρ [(2, .slice none 0 0), (3, .int .i64 0), (4, v15), (5, v18), (6, .bool s14.2.2), (7, .int .i64 (IntKind.i64.wrap ((IntKind.i64.wrap q20) - 1))), (27, .bool s25)] ∧ gs = [g16]) ?_ (fun hk25 => ?_)
  ·rintro ρ25 τ25 gs25 ⟨s25, h, hl25, hρ, rfl⟩
   refine st_es hρ ?_
   refine st_if rfl h (fun h => ?_) (fun h => ?_)
   ·refine st_goto rfl ?_
    obtain rfl := he14 _ h
    replace h := hA14
    refine st_ord [] _ rfl ?_
    exact hk3 _ _ _ ⟨(), h, (hl14.trans hl25), rfl, rfl⟩
   ·refine Z 2 rfl ?_
    refine st_cut (fun ρ τ26 gs => ∃ (s26 : Unit), cobs_Decode_j5 s14 q20 s26 o14 ∧ τ25.Le τ26 ∧ ESub ρ [(2, .slice none 0 0), (3, .int .i64 0), (4, v15), (5, v18), (6, .bool s14.2.2), (7, .int .i64 (IntKind.i64.wrap ((IntKind.i64.wrap q20) - 1)))] ∧ gs = [g16]) ?_ (fun hk26 => ?_)
    ·rintro ρ26 τ26 gs26 ⟨s26, h, hl26, hρ, rfl⟩
     refine st_es hρ ?_
     refine Z 6 rfl ?_
     obtain ⟨hf27, hf28, h⟩ := h
     refine o_slice (L := 1) (H := (IntKind.i64.wrap ((IntKind.i64.wrap ((IntKind.i64.wrap q20) - 1)) + 1))) rfl rfl rfl z_slT22 rfl rfl (hs19.up (hl25.trans hl26)) ⟨_, rfl⟩ ⟨_, rfl⟩ (by decide) hf27 hf28 trivial (by simp) (fun v29 hs30 => ?_)
     obtain ⟨hf34, hf35, h⟩ := h
     refine o_append (dk := (kI .u8)) (xs := s14.1) (ys := ((s14.2.1.drop (1 : Int).toNat).take (((IntKind.i64.wrap ((IntKind.i64.wrap ((IntKind.i64.wrap q20) - 1)) + 1)) : Int) - 1).toNat)) rfl rfl rfl rfl z_slT22 rfl (ho17.up (hl25.trans hl26)) rfl (Sl.src hs30) hf34 hf35 (fun v31 g32 ho33 => ?_)
     refine Z 7 rfl ?_
     obtain ⟨hf36, hf37, hf38, h⟩ := h
     refine o_slice (L := (IntKind.i64.wrap ((IntKind.i64.wrap ((IntKind.i64.wrap q20) - 1)) + 1))) (H := (s14.2.1.length : Int)) rfl rfl rfl z_slT22 rfl rfl (hs19.up (hl25.trans hl26)) ⟨_, rfl⟩ rfl hf36 hf37 hf38 trivial (by simp) (fun v39 hs40 => ?_)
     refine Z 15 rfl ?_
     refine st_cut (fun ρ τ41 gs => ∃ (s41 : Bool), cobs_Decode_j6 s14 q20 s41 o14 ∧ τ26.Le τ41 ∧ ESub ρ [(2, .slice none 0 0), (3, .int .i64 0), (4, v31), (5, v39), (6, .bool (decide ((IntKind.i64.wrap ((IntKind.i64.wrap q20) - 1)) = 254))), (53, .bool s41)] ∧ gs = [g32]) ?_ (fun hk41 => ?_)
     ·rintro ρ41 τ41 gs41 ⟨s41, h, hl41, hρ, rfl⟩
      refine st_es hρ ?_
      refine st_if rfl h (fun h => ?_) (fun h => ?_)
      ·refine st_goto rfl ?_
       obtain rfl := he14 _ h
       replace h := hA14
       refine st_ord [] _ rfl ?_
       exact hk3 _ _ _ ⟨(), h, (((hl14.trans hl25).trans hl26).trans hl41), rfl, rfl⟩
      ·refine Z 3 rfl ?_
       refine o_lenI rfl rfl rfl z_slT22 rfl (hs40.up hl41) ?_
       refine Z 3 rfl ?_
       refine st_if rfl h (fun h => ?_) (fun h => ?_)
       ·refine st_exit rfl ?_
        obtain rfl := he14 _ h
        replace h := hA14
        exact hk4 _ _ _ ⟨(s14.1 ++ ((s14.2.1.drop (1 : Int).toNat).take (((IntKind.i64.wrap ((IntKind.i64.wrap ((IntKind.i64.wrap q20) - 1)) + 1)) : Int) - 1).toNat)), _, _, h, (((hl14.trans hl25).trans hl26).trans hl41), rfl, rfl, (ho33.up hl41)⟩
       ·refine Z 6 rfl ?_
        refine st_if rfl h (fun h => ?_) (fun h => ?_)
        ·refine Z 2 rfl ?_
         refine o_litE (eI .u8) [0] rfl rfl rfl z_slT22 z_zero5 ⟨rfl, ⟨_, rfl, rfl⟩, trivial⟩ rfl rfl rfl rfl (fun v42 g43 ho44 => ?_)
         obtain ⟨hf48, hf49, h⟩ := h
         refine st_ord [1, 0] _ rfl ?_
         refine o_append (dk := (kI .u8)) (xs := (s14.1 ++ ((s14.2.1.drop (1 : Int).toNat).take (((IntKind.i64.wrap ((IntKind.i64.wrap ((IntKind.i64.wrap q20) - 1)) + 1)) : Int) - 1).toNat))) (ys := [0]) rfl rfl rfl rfl z_slT22 rfl (ho33.up hl41) rfl (Ow.src (j := 1) ho44 rfl) hf48 hf49 (fun v45 g46 ho47 => ?_)
         refine Z 4 rfl ?_
         refine st_ord [0] _ rfl ?_
         exact hn14 _ _ _ _ h ⟨(((hl14.trans hl25).trans hl26).trans hl41), _, _, _, rfl, rfl, ho47, (hs40.up hl41)⟩
        ·refine Z 3 rfl ?_
         exact hn14 _ _ _ _ h ⟨(((hl14.trans hl25).trans hl26).trans hl41), _, _, _, rfl, rfl, (ho33.up hl41), (hs40.up hl41)⟩
     refine Z 2 rfl ?_
     refine o_lenI rfl rfl rfl z_slT22 rfl hs40 ?_
     refine o_ibin (v := .bool (decide ((((s14.2.1.drop (IntKind.i64.wrap ((IntKind.i64.wrap ((IntKind.i64.wrap q20) - 1)) + 1)).toNat).take (((s14.2.1.length : Int) : Int) - (IntKind.i64.wrap ((IntKind.i64.wrap ((IntKind.i64.wrap q20) - 1)) + 1))).toNat).length : Int) = 0))) rfl rfl rfl rfl rfl rfl ?_
     refine o_mif rfl rfl rfl rfl h (fun h => ?_) (fun h => ?_)
     ·refine Z 2 rfl ?_
      refine o_mif rfl rfl rfl rfl h (fun h => ?_) (fun h => ?_)
      ·refine Z 5 rfl ?_
       exact hk41 _ _ _ ⟨(decide ((IntKind.i64.wrap ((IntKind.i64.wrap q20) - 1)) = 0)), h, (Sto.Le.refl _), rfl, rfl⟩
      ·refine Z 5 rfl ?_
       exact hk41 _ _ _ ⟨false, h, (Sto.Le.refl _), rfl, rfl⟩
     ·refine Z 8 rfl ?_
      exact hk41 _ _ _ ⟨false, h, (Sto.Le.refl _), rfl, rfl⟩
    refine Z 5 rfl ?_
    obtain ⟨hf50, hf51, h⟩ := h
    refine o_slice (L := 1) (H := (IntKind.i64.wrap ((IntKind.i64.wrap ((IntKind.i64.wrap q20) - 1)) + 1))) rfl rfl rfl z_slT22 rfl rfl (hs19.up hl25) ⟨_, rfl⟩ ⟨_, rfl⟩ (by decide) hf50 hf51 trivial (by simp) (fun v52 hs53 => ?_)
    refine o_lenI rfl rfl rfl z_slT22 rfl hs53 ?_
    refine Z 2 rfl ?_
    obtain ⟨e54, hL54, hA54⟩ := h
    refine st_loop hL54 (fun (s54 : Int) ρ τ54 gs => τ25.Le τ54 ∧ ESub ρ [(2, .slice none 0 0), (3, .int .i64 0), (4, v15), (5, v18), (6, .bool s14.2.2), (7, .int .i64 (IntKind.i64.wrap ((IntKind.i64.wrap q20) - 1))), (31, v52), (32, .int .i64 (((s14.2.1.drop (1 : Int).toNat).take (((IntKind.i64.wrap ((IntKind.i64.wrap ((IntKind.i64.wrap q20) - 1)) + 1)) : Int) - 1).toNat).length : Int)), (33, .int .i64 s54)] ∧ gs = [g16]) ⟨Sto.Le.refl _, rfl, rfl⟩ ?_
    rintro s54 o54 h he54 ρ54 τ54 gs54 ⟨hl54, hρ, rfl⟩ hn54
    refine st_es hρ ?_
    refine Z 5 rfl ?_
    refine st_if rfl h (fun h => ?_) (fun h => ?_)
    ·refine Z 5 rfl ?_
     obtain ⟨q55, hf56, h⟩ := h
     refine o_index rfl rfl rfl z_slT22 rfl rfl (hs53.up hl54) rfl hf56 (fun b57 of58 vs hc59 hrep => ?_)
     obtain rfl := hrep
     refine o_loadI (v := .int .u8 q55) rfl rfl rfl z_sc5 rfl (hc59 0 _ rfl) ?_
     refine Z 7 rfl ?_
     refine st_if rfl h (fun h => ?_) (fun h => ?_)
     ·refine st_goto rfl ?_
      obtain rfl := he54 _ h
      replace h := hA54
      obtain rfl := he14 _ h
      replace h := hA14
      refine st_ord [] _ rfl ?_
      exact hk3 _ _ _ ⟨(), h, ((hl14.trans hl25).trans hl54), rfl, rfl⟩
     ·refine Z 6 rfl ?_
      exact hn54 _ _ _ _ h ⟨hl54, rfl, rfl⟩
    ·refine st_exit rfl ?_
     obtain rfl := he54 _ h
     replace h := hA54
     exact hk26 _ _ _ ⟨(), h, hl54, rfl, rfl⟩
  refine Z 3 rfl ?_
  refine o_mif rfl rfl rfl rfl h (fun h => ?_) (fun h => ?_)
  ·refine Z 6 rfl ?_
   exact hk25 _ _ _ ⟨true, h, (Sto.Le.refl _), rfl, rfl⟩
  ·refine Z 2 rfl ?_
   refine o_lenI rfl rfl rfl z_slT22 rfl hs19 ?_
   refine Z 3 rfl ?_
   exact hk25 _ _ _ ⟨(decide ((s14.2.1.length : Int) ≤ (IntKind.i64.wrap ((IntKind.i64.wrap q20) - 1)))), h, (Sto.Le.refl _), rfl, rfl⟩
theorem crc_Table_Begin_ok {a0 : List Int} {bi1 : Nat} {r : Int} (h : crc_Table_Begin a0 r) (σ : Sto) (hc2 : CelN σ ⟨bi1, 0, none⟩ (cellsN (Value.int .u32) 0 1024 a0)) :
    Does Tryd.prog 153 [.pointer (some ⟨bi1, 0, none⟩)] σ [] (fun v τ gs => gs = [] ∧ .int .u32 r = v) := by
 refine call_of Tryd.func153 Tryd.ntmps153 rfl rfl (fun cs fs => ?_)
 refine Z 16 rfl ?_
 obtain rfl := Eq.symm h
 exact st_ret (gs' := []) Tryd.func153 rfl (List.Sublist.refl _) (Sto.Le.refl _) ⟨rfl, rfl⟩
theorem crc_Table_Add_ok {a0 : List Int} {a1 : Int} {a2 : List Int} {bi1 : Nat} {v3 : Value} {r : Int} (h : crc_Table_Add a0 a1 a2 r) (σ : Sto) (hc2 : CelN σ ⟨bi1, 0, none⟩ (cellsN (Value.int .u32) 0 1024 a0)) (hs4 : Sl (kI .u8) σ v3 a2) :
    Does Tryd.prog 154 [.pointer (some ⟨bi1, 0, none⟩), .int .u32 a1, v3] σ [] (fun v τ gs => gs = [] ∧ .int .u32 r = v) := by
 refine call_of Tryd.func154 Tryd.ntmps154 rfl rfl (fun cs fs => ?_)
 refine Z 16 rfl ?_
 refine st_cut (fun ρ τ5 gs => ∃ (s5 : Int × List Int) (v6 : Value), crc_Table_Add_j1 a0 s5 r ∧ σ.Le τ5 ∧ ESub ρ [(0, .pointer (some ⟨bi1, 0, none⟩)), (1, .int .u32 s5.1), (2, v6), (6, .int .u32 0)] ∧ gs = [] ∧ Sl (kI .u8) τ5 v6 s5.2) ?_ (fun hk5 => ?_)
 ·rintro ρ5 τ5 gs5 ⟨s5, v6, h, hl5, hρ, rfl, hs7⟩
  refine st_es hρ ?_
  refine st_seq ?_
  refine st_cut (fun ρ τ8 gs => ∃ (s8 : Int), crc_Table_Add_j2 s8 r ∧ τ5.Le τ8 ∧ ESub ρ [(1, .int .u32 s8), (6, .int .u32 0)] ∧ gs = []) ?_ (fun hk8 => ?_)
  ·rintro ρ8 τ8 gs8 ⟨s8, h, hl8, hρ, rfl⟩
   refine st_es hρ ?_
   refine Z 5 rfl ?_
   obtain rfl := Eq.symm h
   exact st_ret (gs' := []) Tryd.func154 rfl (List.Sublist.refl _) (hl5.trans hl8) ⟨rfl, rfl⟩
  refine Z 3 rfl ?_
  refine o_lenI rfl rfl rfl z_slT22 rfl hs7 ?_
  refine Z 2 rfl ?_
  obtain ⟨e9, hL9, hA9⟩ := h
  refine st_loop hL9 (fun (s9 : Int × Int) ρ τ9 gs => τ5.Le τ9 ∧ ESub ρ [(0, .pointer (some ⟨bi1, 0, none⟩)), (1, .int .u32 s9.1), (6, .int .u32 0), (77, v6), (78, .int .i64 (s5.2.length : Int)), (79, .int .i64 s9.2)] ∧ gs = []) ⟨Sto.Le.refl _, rfl, rfl⟩ ?_
  rintro s9 o9 h he9 ρ9 τ9 gs9 ⟨hl9, hρ, rfl⟩ hn9
  refine st_es hρ ?_
  refine Z 5 rfl ?_
  refine st_if rfl h (fun h => ?_) (fun h => ?_)
  ·refine Z 5 rfl ?_
   obtain ⟨q10, hf11, h⟩ := h
   refine o_index rfl rfl rfl z_slT22 rfl rfl (hs7.up hl9) rfl hf11 (fun b12 of13 vs hc14 hrep => ?_)
   obtain rfl := hrep
   refine o_loadI (v := .int .u8 q10) rfl rfl rfl z_sc5 rfl (hc14 0 _ rfl) ?_
   refine Z 12 rfl ?_
   refine o_indexA rfl rfl rfl z_arr176 rfl rfl (by decide) (by decide) ?_
   obtain ⟨hf15, hf16, h⟩ := h
   refine o_indexA rfl rfl rfl z_arr175 rfl rfl hf15 hf16 ?_
   refine o_loadI (v := .int .u32 (a0.getD ((ixor .u8 (IntKind.u8.wrap s9.1) q10).toNat) 0)) rfl rfl rfl z_sc36 rfl (cel_big (q := (ixor .u8 (IntKind.u8.wrap s9.1) q10).toNat) (hc2.up (hl5.trans hl9)) (by omega) (by omega)) ?_
   refine Z 8 rfl ?_
   exact hn9 _ _ _ _ h ⟨hl9, rfl, rfl⟩
  ·refine st_exit rfl ?_
   obtain rfl := he9 _ h
   replace h := hA9
   exact hk8 _ _ _ ⟨s9.1, h, hl9, rfl, rfl⟩
 obtain ⟨e18, hL18, hA18⟩ := h
 refine st_loop hL18 (fun (s18 : Int × List Int) ρ τ18 gs => σ.Le τ18 ∧ ∃ (v19 : Value), ESub ρ [(0, .pointer (some ⟨bi1, 0, none⟩)), (1, .int .u32 s18.1), (2, v19), (6, .int .u32 0)] ∧ gs = [] ∧ Sl (kI .u8) τ18 v19 s18.2) ⟨Sto.Le.refl _, _, rfl, rfl, hs4⟩ ?_
 rintro s18 o18 h he18 ρ18 τ18 gs18 ⟨hl18, v19, hρ, rfl, hs20⟩ hn18
 refine st_es hρ ?_
 refine Z 5 rfl ?_
 refine o_lenI rfl rfl rfl z_slT22 rfl hs20 ?_
 refine Z 2 rfl ?_
 refine st_if rfl h (fun h => ?_) (fun h => ?_)
 ·refine st_exit rfl ?_
  obtain rfl := he18 _ h
  replace h := hA18
  exact hk5 _ _ _ ⟨(s18.1, s18.2), _, h, hl18, rfl, rfl, hs20⟩
 ·refine Z 2 rfl ?_
  obtain ⟨q21, hf22, q26, hf27, q31, hf32, q36, hf37, h⟩ := h
  refine st_draw 24 (dl [.v (.int .u32 s18.1), .v (v19), .t fun τ v => ∃ (b23 : Nat) (of24 : Nat) (vsb23 : List Value), (.pointer (some ⟨b23, of24, none⟩) : Value) = v ∧ CelN τ ⟨b23, of24, none⟩ vsb23 ∧ (kI .u8).rep τ vsb23 q21, .v (.int .u8 q21), .v (.int .u32 (IntKind.u32.wrap q21)), .v (v19), .t fun τ v => ∃ (b28 : Nat) (of29 : Nat) (vsb28 : List Value), (.pointer (some ⟨b28, of29, none⟩) : Value) = v ∧ CelN τ ⟨b28, of29, none⟩ vsb28 ∧ (kI .u8).rep τ vsb28 q26, .v (.int .u8 q26), .v (.int .u32 (IntKind.u32.wrap q26)), .v (.int .u32 (ishl .u32 (IntKind.u32.wrap q26) 8)), .v (.int .u32 (ior .u32 (IntKind.u32.wrap q21) (ishl .u32 (IntKind.u32.wrap q26) 8))), .v (v19), .t fun τ v => ∃ (b33 : Nat) (of34 : Nat) (vsb33 : List Value), (.pointer (some ⟨b33, of34, none⟩) : Value) = v ∧ CelN τ ⟨b33, of34, none⟩ vsb33 ∧ (kI .u8).rep τ vsb33 q31, .v (.int .u8 q31), .v (.int .u32 (IntKind.u32.wrap q31)), .v (.int .u32 (ishl .u32 (IntKind.u32.wrap q31) 16)), .v (.int .u32 (ior .u32 (ior .u32 (IntKind.u32.wrap q21) (ishl .u32 (IntKind.u32.wrap q26) 8)) (ishl .u32 (IntKind.u32.wrap q31) 16))), .v (v19), .t fun τ v => ∃ (b38 : Nat) (of39 : Nat) (vsb38 : List Value), (.pointer (some ⟨b38, of39, none⟩) : Value) = v ∧ CelN τ ⟨b38, of39, none⟩ vsb38 ∧ (kI .u8).rep τ vsb38 q36, .v (.int .u8 q36), .v (.int .u32 (IntKind.u32.wrap q36)), .v (.int .u32 (ishl .u32 (IntKind.u32.wrap q36) 24)), .v (.int .u32 (ior .u32 (ior .u32 (ior .u32 (IntKind.u32.wrap q21) (ishl .u32 (IntKind.u32.wrap q26) 8)) (ishl .u32 (IntKind.u32.wrap q31) 16)) (ishl .u32 (IntKind.u32.wrap q36) 24))), .v (.int .u32 (ixor .u32 s18.1 (ior .u32 (ior .u32 (ior .u32 (IntKind.u32.wrap q21) (ishl .u32 (IntKind.u32.wrap q26) 8)) (ishl .u32 (IntKind.u32.wrap q31) 16)) (ishl .u32 (IntKind.u32.wrap q36) 24))))]) (fun _ _ => []) z_mix rfl (dl_mono (by exact ⟨fun _ _ _ hl ⟨b23, of24, vsb23, hv, hc25, hrepb23⟩ => ⟨b23, of24, vsb23, hv, hc25.up hl, Kd.mono _ hl hrepb23⟩, ⟨fun _ _ _ hl ⟨b28, of29, vsb28, hv, hc30, hrepb28⟩ => ⟨b28, of29, vsb28, hv, hc30.up hl, Kd.mono _ hl hrepb28⟩, ⟨fun _ _ _ hl ⟨b33, of34, vsb33, hv, hc35, hrepb33⟩ => ⟨b33, of34, vsb33, hv, hc35.up hl, Kd.mono _ hl hrepb33⟩, ⟨fun _ _ _ hl ⟨b38, of39, vsb38, hv, hc40, hrepb38⟩ => ⟨b38, of39, vsb38, hv, hc40.up hl, Kd.mono _ hl hrepb38⟩, trivial⟩⟩⟩⟩)) (allB_cons (allB_cons (allB_cons (allB_cons (allB_cons (allB_cons (allB_cons (allB_cons (allB_cons (allB_cons (allB_cons (allB_cons (allB_cons (allB_cons (allB_cons (allB_cons (allB_cons (allB_cons (allB_cons (allB_cons (allB_cons (allB_cons (allB_cons (allB_cons allB_nil (p1 dA)) (p1 dA)) ?_) ?_) (p1 dA)) (p1 dA)) ?_) ?_) (p1 dA)) (p1 dA)) (p1 dA)) (p1 dA)) ?_) ?_) (p1 dA)) (p1 dA)) (p1 dA)) (p1 dA)) ?_) ?_) (p1 dA)) (p1 dA)) (p1 dA)) (p1 dA)) ?_
  ·intro ρ' τ pool rs hl hd hout hk
   obtain ⟨_, e1, rfl⟩ := hd 1 rfl
   refine o_index rfl rfl rfl z_slT22 rfl e1 (hs20.up hl) rfl hf22 (fun b23 of24 vsb23 hc25 hrepb23 => ?_)
   exact st_addNil (hk _ _ (Sto.Le.refl _) ⟨b23, of24, _, rfl, hc25, hrepb23⟩)
  ·intro ρ' τ pool rs hl hd hout hk
   obtain ⟨_, e2, b23, of24, vsb23, rfl, hc25, hrepb23⟩ := hd 2 rfl
   have hrepb23 := hrepb23
   obtain rfl := hrepb23
   refine o_loadI (v := .int .u8 q21) rfl rfl rfl z_sc5 e2 (hc25 0 _ rfl) ?_
   exact st_addNil (hk _ _ (Sto.Le.refl _) rfl)
  ·intro ρ' τ pool rs hl hd hout hk
   obtain ⟨_, e5, rfl⟩ := hd 5 rfl
   refine o_index rfl rfl rfl z_slT22 rfl e5 (hs20.up hl) rfl hf27 (fun b28 of29 vsb28 hc30 hrepb28 => ?_)
   exact st_addNil (hk _ _ (Sto.Le.refl _) ⟨b28, of29, _, rfl, hc30, hrepb28⟩)
  ·intro ρ' τ pool rs hl hd hout hk
   obtain ⟨_, e6, b28, of29, vsb28, rfl, hc30, hrepb28⟩ := hd 6 rfl
   have hrepb28 := hrepb28
   obtain rfl := hrepb28
   refine o_loadI (v := .int .u8 q26) rfl rfl rfl z_sc5 e6 (hc30 0 _ rfl) ?_
   exact st_addNil (hk _ _ (Sto.Le.refl _) rfl)
  ·intro ρ' τ pool rs hl hd hout hk
   obtain ⟨_, e11, rfl⟩ := hd 11 rfl
   refine o_index rfl rfl rfl z_slT22 rfl e11 (hs20.up hl) rfl hf32 (fun b33 of34 vsb33 hc35 hrepb33 => ?_)
   exact st_addNil (hk _ _ (Sto.Le.refl _) ⟨b33, of34, _, rfl, hc35, hrepb33⟩)
  ·intro ρ' τ pool rs hl hd hout hk
   obtain ⟨_, e12, b33, of34, vsb33, rfl, hc35, hrepb33⟩ := hd 12 rfl
   have hrepb33 := hrepb33
   obtain rfl := hrepb33
   refine o_loadI (v := .int .u8 q31) rfl rfl rfl z_sc5 e12 (hc35 0 _ rfl) ?_
   exact st_addNil (hk _ _ (Sto.Le.refl _) rfl)
  ·intro ρ' τ pool rs hl hd hout hk
   obtain ⟨_, e17, rfl⟩ := hd 17 rfl
   refine o_index rfl rfl rfl z_slT22 rfl e17 (hs20.up hl) rfl hf37 (fun b38 of39 vsb38 hc40 hrepb38 => ?_)
   exact st_addNil (hk _ _ (Sto.Le.refl _) ⟨b38, of39, _, rfl, hc40, hrepb38⟩)
  ·intro ρ' τ pool rs hl hd hout hk
   obtain ⟨_, e18, b38, of39, vsb38, rfl, hc40, hrepb38⟩ := hd 18 rfl
   have hrepb38 := hrepb38
   obtain rfl := hrepb38
   refine o_loadI (v := .int .u8 q36) rfl rfl rfl z_sc5 e18 (hc40 0 _ rfl) ?_
   exact st_addNil (hk _ _ (Sto.Le.refl _) rfl)
  intro ρ' τ41 vals hl41 hv hout
  refine st_ord [] _ rfl ?_
  refine st_env (ρ' := [(37, .int .u32 (ixor .u32 s18.1 (ior .u32 (ior .u32 (ior .u32 (IntKind.u32.wrap q21) (ishl .u32 (IntKind.u32.wrap q26) 8)) (ishl .u32 (IntKind.u32.wrap q31) 16)) (ishl .u32 (IntKind.u32.wrap q36) 24)))), (0, .pointer (some ⟨bi1, 0, none⟩)), (2, v19), (6, .int .u32 0)]) ⟨(lv1 hv 23 rfl rfl), (hout 0 rfl).trans rfl, (hout 2 rfl).trans rfl, (hout 6 rfl).trans rfl, trivial⟩ ?_
  refine Z 3 rfl ?_
  obtain ⟨hf42, hf43, hf44, hf45, hf46, hf47, hf48, hf49, h⟩ := h
  refine st_draw 37 (dl [.v (.pointer (some ⟨bi1, 0, none⟩)), .v (.int .u32 (ixor .u32 s18.1 (ior .u32 (ior .u32 (ior .u32 (IntKind.u32.wrap q21) (ishl .u32 (IntKind.u32.wrap q26) 8)) (ishl .u32 (IntKind.u32.wrap q31) 16)) (ishl .u32 (IntKind.u32.wrap q36) 24)))), .v (.int .u32 (iand .u32 (ixor .u32 s18.1 (ior .u32 (ior .u32 (ior .u32 (IntKind.u32.wrap q21) (ishl .u32 (IntKind.u32.wrap q26) 8)) (ishl .u32 (IntKind.u32.wrap q31) 16)) (ishl .u32 (IntKind.u32.wrap q36) 24))) 255)), .v (.pointer (some ⟨bi1, 0, none⟩)), .v (.pointer (some ⟨bi1, 0 + 0, none⟩)), .v (.pointer (some ⟨bi1, 0 + 0 + (3 : Int).toNat * 256, none⟩)), .v (.pointer (some ⟨bi1, 0 + 0 + (3 : Int).toNat * 256 + (iand .u32 (ixor .u32 s18.1 (ior .u32 (ior .u32 (ior .u32 (IntKind.u32.wrap q21) (ishl .u32 (IntKind.u32.wrap q26) 8)) (ishl .u32 (IntKind.u32.wrap q31) 16)) (ishl .u32 (IntKind.u32.wrap q36) 24))) 255).toNat * 1, none⟩)), .v (.int .u32 (a0.getD (768 + (iand .u32 (ixor .u32 s18.1 (ior .u32 (ior .u32 (ior .u32 (IntKind.u32.wrap q21) (ishl .u32 (IntKind.u32.wrap q26) 8)) (ishl .u32 (IntKind.u32.wrap q31) 16)) (ishl .u32 (IntKind.u32.wrap q36) 24))) 255).toNat) 0)), .v (.pointer (some ⟨bi1, 0, none⟩)), .v (.int .u32 (ixor .u32 s18.1 (ior .u32 (ior .u32 (ior .u32 (IntKind.u32.wrap q21) (ishl .u32 (IntKind.u32.wrap q26) 8)) (ishl .u32 (IntKind.u32.wrap q31) 16)) (ishl .u32 (IntKind.u32.wrap q36) 24)))), .v (.int .u32 (ishr .u32 (ixor .u32 s18.1 (ior .u32 (ior .u32 (ior .u32 (IntKind.u32.wrap q21) (ishl .u32 (IntKind.u32.wrap q26) 8)) (ishl .u32 (IntKind.u32.wrap q31) 16)) (ishl .u32 (IntKind.u32.wrap q36) 24))) 8)), .v (.int .u32 (iand .u32 (ishr .u32 (ixor .u32 s18.1 (ior .u32 (ior .u32 (ior .u32 (IntKind.u32.wrap q21) (ishl .u32 (IntKind.u32.wrap q26) 8)) (ishl .u32 (IntKind.u32.wrap q31) 16)) (ishl .u32 (IntKind.u32.wrap q36) 24))) 8) 255)), .v (.pointer (some ⟨bi1, 0, none⟩)), .v (.pointer (some ⟨bi1, 0 + 0, none⟩)), .v (.pointer (some ⟨bi1, 0 + 0 + (2 : Int).toNat * 256, none⟩)), .v (.pointer (some ⟨bi1, 0 + 0 + (2 : Int).toNat * 256 + (iand .u32 (ishr .u32 (ixor .u32 s18.1 (ior .u32 (ior .u32 (ior .u32 (IntKind.u32.wrap q21) (ishl .u32 (IntKind.u32.wrap q26) 8)) (ishl .u32 (IntKind.u32.wrap q31) 16)) (ishl .u32 (IntKind.u32.wrap q36) 24))) 8) 255).toNat * 1, none⟩)), .v (.int .u32 (a0.getD (512 + (iand .u32 (ishr .u32 (ixor .u32 s18.1 (ior .u32 (ior .u32 (ior .u32 (IntKind.u32.wrap q21) (ishl .u32 (IntKind.u32.wrap q26) 8)) (ishl .u32 (IntKind.u32.wrap q31) 16)) (ishl .u32 (IntKind.u32.wrap q36) 24))) 8) 255).toNat) 0)), .v (.int .u32 (ixor .u32 (a0.getD (768 + (iand .u32 (ixor .u32 s18.1 (ior .u32 (ior .u32 (ior .u32 (IntKind.u32.wrap q21) (ishl .u32 (IntKind.u32.wrap q26) 8)) (ishl .u32 (IntKind.u32.wrap q31) 16)) (ishl .u32 (IntKind.u32.wrap q36) 24))) 255).toNat) 0) (a0.getD (512 + (iand .u32 (ishr .u32 (ixor .u32 s18.1 (ior .u32 (ior .u32 (ior .u32 (IntKind.u32.wrap q21) (ishl .u32 (IntKind.u32.wrap q26) 8)) (ishl .u32 (IntKind.u32.wrap q31) 16)) (ishl .u32 (IntKind.u32.wrap q36) 24))) 8) 255).toNat) 0))), .v (.pointer (some ⟨bi1, 0, none⟩)), .v (.int .u32 (ixor .u32 s18.1 (ior .u32 (ior .u32 (ior .u32 (IntKind.u32.wrap q21) (ishl .u32 (IntKind.u32.wrap q26) 8)) (ishl .u32 (IntKind.u32.wrap q31) 16)) (ishl .u32 (IntKind.u32.wrap q36) 24)))), .v (.int .u32 (ishr .u32 (ixor .u32 s18.1 (ior .u32 (ior .u32 (ior .u32 (IntKind.u32.wrap q21) (ishl .u32 (IntKind.u32.wrap q26) 8)) (ishl .u32 (IntKind.u32.wrap q31) 16)) (ishl .u32 (IntKind.u32.wrap q36) 24))) 16)), .v (.int .u32 (iand .u32 (ishr .u32 (ixor .u32 s18.1 (ior .u32 (ior .u32 (ior .u32 (IntKind.u32.wrap q21) (ishl .u32 (IntKind.u32.wrap q26) 8)) (ishl .u32 (IntKind.u32.wrap q31) 16)) (ishl .u32 (IntKind.u32.wrap q36) 24))) 16) 255)), .v (.pointer (some ⟨bi1, 0, none⟩)), .v (.pointer (some ⟨bi1, 0 + 0, none⟩)), .v (.pointer (some ⟨bi1, 0 + 0 + (1 : Int).toNat * 256, none⟩)), .v (.pointer (some ⟨bi1, 0 + 0 + (1 : Int).toNat * 256 + (iand .u32 (ishr .u32 (ixor .u32 s18.1 (ior .u32 (ior .u32 (ior .u32 (IntKind.u32.wrap q21) (ishl .u32 (IntKind.u32.wrap q26) 8)) (ishl .u32 (IntKind.u32.wrap q31) 16)) (ishl .u32 (IntKind.u32.wrap q36) 24))) 16) 255).toNat * 1, none⟩)), .v (.int .u32 (a0.getD (256 + (iand .u32 (ishr .u32 (ixor .u32 s18.1 (ior .u32 (ior .u32 (ior .u32 (IntKind.u32.wrap q21) (ishl .u32 (IntKind.u32.wrap q26) 8)) (ishl .u32 (IntKind.u32.wrap q31) 16)) (ishl .u32 (IntKind.u32.wrap q36) 24))) 16) 255).toNat) 0)), .v (.int .u32 (ixor .u32 (ixor .u32 (a0.getD (768 + (iand .u32 (ixor .u32 s18.1 (ior .u32 (ior .u32 (ior .u32 (IntKind.u32.wrap q21) (ishl .u32 (IntKind.u32.wrap q26) 8)) (ishl .u32 (IntKind.u32.wrap q31) 16)) (ishl .u32 (IntKind.u32.wrap q36) 24))) 255).toNat) 0) (a0.getD (512 + (iand .u32 (ishr .u32 (ixor .u32 s18.1 (ior .u32 (ior .u32 (ior .u32 (IntKind.u32.wrap q21) (ishl .u32 (IntKind.u32.wrap q26) 8)) (ishl .u32 (IntKind.u32.wrap q31) 16)) (ishl .u32 (IntKind.u32.wrap q36) 24))) 8) 255).toNat) 0)) (a0.getD (256 + (iand .u32 (ishr .u32 (ixor .u32 s18.1 (ior .u32 (ior .u32 (ior .u32 (IntKind.u32.wrap q21) (ishl .u32 (IntKind.u32.wrap q26) 8)) (ishl .u32 (IntKind.u32.wrap q31) 16)) (ishl .u32 (IntKind.u32.wrap q36) 24))) 16) 255).toNat) 0))), .v (.pointer (some ⟨bi1, 0, none⟩)), .v (.int .u32 (ixor .u32 s18.1 (ior .u32 (ior .u32 (ior .u32 (IntKind.u32.wrap q21) (ishl .u32 (IntKind.u32.wrap q26) 8)) (ishl .u32 (IntKind.u32.wrap q31) 16)) (ishl .u32 (IntKind.u32.wrap q36) 24)))), .v (.int .u32 (ishr .u32 (ixor .u32 s18.1 (ior .u32 (ior .u32 (ior .u32 (IntKind.u32.wrap q21) (ishl .u32 (IntKind.u32.wrap q26) 8)) (ishl .u32 (IntKind.u32.wrap q31) 16)) (ishl .u32 (IntKind.u32.wrap q36) 24))) 24)), .v (.pointer (some ⟨bi1, 0, none⟩)), .v (.pointer (some ⟨bi1, 0 + 0, none⟩)), .v (.pointer (some ⟨bi1, 0 + 0 + (0 : Int).toNat * 256, none⟩)), .v (.pointer (some ⟨bi1, 0 + 0 + (0 : Int).toNat * 256 + (ishr .u32 (ixor .u32 s18.1 (ior .u32 (ior .u32 (ior .u32 (IntKind.u32.wrap q21) (ishl .u32 (IntKind.u32.wrap q26) 8)) (ishl .u32 (IntKind.u32.wrap q31) 16)) (ishl .u32 (IntKind.u32.wrap q36) 24))) 24).toNat * 1, none⟩)), .v (.int .u32 (a0.getD ((ishr .u32 (ixor .u32 s18.1 (ior .u32 (ior .u32 (ior .u32 (IntKind.u32.wrap q21) (ishl .u32 (IntKind.u32.wrap q26) 8)) (ishl .u32 (IntKind.u32.wrap q31) 16)) (ishl .u32 (IntKind.u32.wrap q36) 24))) 24).toNat) 0)), .v (.int .u32 (ixor .u32 (ixor .u32 (ixor .u32 (a0.getD (768 + (iand .u32 (ixor .u32 s18.1 (ior .u32 (ior .u32 (ior .u32 (IntKind.u32.wrap q21) (ishl .u32 (IntKind.u32.wrap q26) 8)) (ishl .u32 (IntKind.u32.wrap q31) 16)) (ishl .u32 (IntKind.u32.wrap q36) 24))) 255).toNat) 0) (a0.getD (512 + (iand .u32 (ishr .u32 (ixor .u32 s18.1 (ior .u32 (ior .u32 (ior .u32 (IntKind.u32.wrap q21) (ishl .u32 (IntKind.u32.wrap q26) 8)) (ishl .u32 (IntKind.u32.wrap q31) 16)) (ishl .u32 (IntKind.u32.wrap q36) 24))) 8) 255).toNat) 0)) (a0.getD (256 + (iand .u32 (ishr .u32 (ixor .u32 s18.1 (ior .u32 (ior .u32 (ior .u32 (IntKind.u32.wrap q21) (ishl .u32 (IntKind.u32.wrap q26) 8)) (ishl .u32 (IntKind.u32.wrap q31) 16)) (ishl .u32 (IntKind.u32.wrap q36) 24))) 16) 255).toNat) 0)) (a0.getD ((ishr .u32 (ixor .u32 s18.1 (ior .u32 (ior .u32 (ior .u32 (IntKind.u32.wrap q21) (ishl .u32 (IntKind.u32.wrap q26) 8)) (ishl .u32 (IntKind.u32.wrap q31) 16)) (ishl .u32 (IntKind.u32.wrap q36) 24))) 24).toNat) 0)))]) (fun _ _ => []) z_mix rfl (dl_mono (by exact trivial)) (allB_cons (allB_cons (allB_cons (allB_cons (allB_cons (allB_cons (allB_cons (allB_cons (allB_cons (allB_cons (allB_cons (allB_cons (allB_cons (allB_cons (allB_cons (allB_cons (allB_cons (allB_cons (allB_cons (allB_cons (allB_cons (allB_cons (allB_cons (allB_cons (allB_cons (allB_cons (allB_cons (allB_cons (allB_cons (allB_cons (allB_cons (allB_cons (allB_cons (allB_cons (allB_cons (allB_cons (allB_cons allB_nil (p1 dA)) (p1 dA)) (p1 dA)) (p1 dA)) (p1 dA)) ?_) ?_) ?_) (p1 dA)) (p1 dA)) (p1 dA)) (p1 dA)) (p1 dA)) (p1 dA)) ?_) ?_) ?_) (p1 dA)) (p1 dA)) (p1 dA)) (p1 dA)) (p1 dA)) (p1 dA)) (p1 dA)) ?_) ?_) ?_) (p1 dA)) (p1 dA)) (p1 dA)) (p1 dA)) (p1 dA)) (p1 dA)) ?_) ?_) ?_) (p1 dA)) ?_
  ·intro ρ' τ pool rs hl hd hout hk
   obtain ⟨_, e4, rfl⟩ := hd 4 rfl
   refine o_indexA rfl rfl rfl z_arr176 e4 rfl (by decide) (by decide) ?_
   exact st_addNil (hk _ _ (Sto.Le.refl _) rfl)
  ·intro ρ' τ pool rs hl hd hout hk
   obtain ⟨_, e2, rfl⟩ := hd 2 rfl
   obtain ⟨_, e5, rfl⟩ := hd 5 rfl
   refine o_indexA rfl rfl rfl z_arr175 e5 e2 hf42 hf43 ?_
   exact st_addNil (hk _ _ (Sto.Le.refl _) rfl)
  ·intro ρ' τ pool rs hl hd hout hk
   obtain ⟨_, e6, rfl⟩ := hd 6 rfl
   refine o_loadI (v := .int .u32 (a0.getD (768 + (iand .u32 (ixor .u32 s18.1 (ior .u32 (ior .u32 (ior .u32 (IntKind.u32.wrap q21) (ishl .u32 (IntKind.u32.wrap q26) 8)) (ishl .u32 (IntKind.u32.wrap q31) 16)) (ishl .u32 (IntKind.u32.wrap q36) 24))) 255).toNat) 0)) rfl rfl rfl z_sc36 e6 (cel_big (q := (768 + (iand .u32 (ixor .u32 s18.1 (ior .u32 (ior .u32 (ior .u32 (IntKind.u32.wrap q21) (ishl .u32 (IntKind.u32.wrap q26) 8)) (ishl .u32 (IntKind.u32.wrap q31) 16)) (ishl .u32 (IntKind.u32.wrap q36) 24))) 255).toNat)) (hc2.up ((hl18.trans hl41).trans hl)) (by omega) (by omega)) ?_
   exact st_addNil (hk _ _ (Sto.Le.refl _) rfl)
  ·intro ρ' τ pool rs hl hd hout hk
   obtain ⟨_, e13, rfl⟩ := hd 13 rfl
   refine o_indexA rfl rfl rfl z_arr176 e13 rfl (by decide) (by decide) ?_
   exact st_addNil (hk _ _ (Sto.Le.refl _) rfl)
  ·intro ρ' τ pool rs hl hd hout hk
   obtain ⟨_, e11, rfl⟩ := hd 11 rfl
   obtain ⟨_, e14, rfl⟩ := hd 14 rfl
   refine o_indexA rfl rfl rfl z_arr175 e14 e11 hf44 hf45 ?_
   exact st_addNil (hk _ _ (Sto.Le.refl _) rfl)
  ·intro ρ' τ pool rs hl hd hout hk
   obtain ⟨_, e15, rfl⟩ := hd 15 rfl
   refine o_loadI (v := .int .u32 (a0.getD (512 + (iand .u32 (ishr .u32 (ixor .u32 s18.1 (ior .u32 (ior .u32 (ior .u32 (IntKind.u32.wrap q21) (ishl .u32 (IntKind.u32.wrap q26) 8)) (ishl .u32 (IntKind.u32.wrap q31) 16)) (ishl .u32 (IntKind.u32.wrap q36) 24))) 8) 255).toNat) 0)) rfl rfl rfl z_sc36 e15 (cel_big (q := (512 + (iand .u32 (ishr .u32 (ixor .u32 s18.1 (ior .u32 (ior .u32 (ior .u32 (IntKind.u32.wrap q21) (ishl .u32 (IntKind.u32.wrap q26) 8)) (ishl .u32 (IntKind.u32.wrap q31) 16)) (ishl .u32 (IntKind.u32.wrap q36) 24))) 8) 255).toNat)) (hc2.up ((hl18.trans hl41).trans hl)) (by omega) (by omega)) ?_
   exact st_addNil (hk _ _ (Sto.Le.refl _) rfl)
  ·intro ρ' τ pool rs hl hd hout hk
   obtain ⟨_, e23, rfl⟩ := hd 23 rfl
   refine o_indexA rfl rfl rfl z_arr176 e23 rfl (by decide) (by decide) ?_
   exact st_addNil (hk _ _ (Sto.Le.refl _) rfl)
  ·intro ρ' τ pool rs hl hd hout hk
   obtain ⟨_, e21, rfl⟩ := hd 21 rfl
   obtain ⟨_, e24, rfl⟩ := hd 24 rfl
   refine o_indexA rfl rfl rfl z_arr175 e24 e21 hf46 hf47 ?_
   exact st_addNil (hk _ _ (Sto.Le.refl _) rfl)
  ·intro ρ' τ pool rs hl hd hout hk
   obtain ⟨_, e25, rfl⟩ := hd 25 rfl
   refine o_loadI (v := .int .u32 (a0.getD (256 + (iand .u32 (ishr .u32 (ixor .u32 s18.1 (ior .u32 (ior .u32 (ior .u32 (IntKind.u32.wrap q21) (ishl .u32 (IntKind.u32.wrap q26) 8)) (ishl .u32 (IntKind.u32.wrap q31) 16)) (ishl .u32 (IntKind.u32.wrap q36) 24))) 16) 255).toNat) 0)) rfl rfl rfl z_sc36 e25 (cel_big (q := (256 + (iand .u32 (ishr .u32 (ixor .u32 s18.1 (ior .u32 (ior .u32 (ior .u32 (IntKind.u32.wrap q21) (ishl .u32 (IntKind.u32.wrap q26) 8)) (ishl .u32 (IntKind.u32.wrap q31) 16)) (ishl .u32 (IntKind.u32.wrap q36) 24))) 16) 255).toNat)) (hc2.up ((hl18.trans hl41).trans hl)) (by omega) (by omega)) ?_
   exact st_addNil (hk _ _ (Sto.Le.refl _) rfl)
  ·intro ρ' τ pool rs hl hd hout hk
   obtain ⟨_, e32, rfl⟩ := hd 32 rfl
   refine o_indexA rfl rfl rfl z_arr176 e32 rfl (by decide) (by decide) ?_
   exact st_addNil (hk _ _ (Sto.Le.refl _) rfl)
  ·intro ρ' τ pool rs hl hd hout hk
   obtain ⟨_, e30, rfl⟩ := hd 30 rfl
   obtain ⟨_, e33, rfl⟩ := hd 33 rfl
   refine o_indexA rfl rfl rfl z_arr175 e33 e30 hf48 hf49 ?_
   exact st_addNil (hk _ _ (Sto.Le.refl _) rfl)
  ·intro ρ' τ pool rs hl hd hout hk
   obtain ⟨_, e34, rfl⟩ := hd 34 rfl
   refine o_loadI (v := .int .u32 (a0.getD ((ishr .u32 (ixor .u32 s18.1 (ior .u32 (ior .u32 (ior .u32 (IntKind.u32.wrap q21) (ishl .u32 (IntKind.u32.wrap q26) 8)) (ishl .u32 (IntKind.u32.wrap q31) 16)) (ishl .u32 (IntKind.u32.wrap q36) 24))) 24).toNat) 0)) rfl rfl rfl z_sc36 e34 (cel_big (q := (ishr .u32 (ixor .u32 s18.1 (ior .u32 (ior .u32 (ior .u32 (IntKind.u32.wrap q21) (ishl .u32 (IntKind.u32.wrap q26) 8)) (ishl .u32 (IntKind.u32.wrap q31) 16)) (ishl .u32 (IntKind.u32.wrap q36) 24))) 24).toNat) (hc2.up ((hl18.trans hl41).trans hl)) (by omega) (by omega)) ?_
   exact st_addNil (hk _ _ (Sto.Le.refl _) rfl)
  intro ρ' τ50 vals hl50 hv hout
  refine st_ord [] _ rfl ?_
  refine st_env (ρ' := [(74, .int .u32 (ixor .u32 (ixor .u32 (ixor .u32 (a0.getD (768 + (iand .u32 (ixor .u32 s18.1 (ior .u32 (ior .u32 (ior .u32 (IntKind.u32.wrap q21) (ishl .u32 (IntKind.u32.wrap q26) 8)) (ishl .u32 (IntKind.u32.wrap q31) 16)) (ishl .u32 (IntKind.u32.wrap q36) 24))) 255).toNat) 0) (a0.getD (512 + (iand .u32 (ishr .u32 (ixor .u32 s18.1 (ior .u32 (ior .u32 (ior .u32 (IntKind.u32.wrap q21) (ishl .u32 (IntKind.u32.wrap q26) 8)) (ishl .u32 (IntKind.u32.wrap q31) 16)) (ishl .u32 (IntKind.u32.wrap q36) 24))) 8) 255).toNat) 0)) (a0.getD (256 + (iand .u32 (ishr .u32 (ixor .u32 s18.1 (ior .u32 (ior .u32 (ior .u32 (IntKind.u32.wrap q21) (ishl .u32 (IntKind.u32.wrap q26) 8)) (ishl .u32 (IntKind.u32.wrap q31) 16)) (ishl .u32 (IntKind.u32.wrap q36) 24))) 16) 255).toNat) 0)) (a0.getD ((ishr .u32 (ixor .u32 s18.1 (ior .u32 (ior .u32 (ior .u32 (IntKind.u32.wrap q21) (ishl .u32 (IntKind.u32.wrap q26) 8)) (ishl .u32 (IntKind.u32.wrap q31) 16)) (ishl .u32 (IntKind.u32.wrap q36) 24))) 24).toNat) 0))), (0, .pointer (some ⟨bi1, 0, none⟩)), (2, v19), (6, .int .u32 0)]) ⟨(lv1 hv 36 rfl rfl), (hout 0 rfl).trans rfl, (hout 2 rfl).trans rfl, (hout 6 rfl).trans rfl, trivial⟩ ?_
  refine Z 4 rfl ?_
  obtain ⟨hf51, hf52, h⟩ := h
  refine o_slice (L := 4) (H := (s18.2.length : Int)) rfl rfl rfl z_slT22 rfl rfl (hs20.up (hl41.trans hl50)) ⟨_, rfl⟩ rfl (by decide) hf51 hf52 trivial (by simp) (fun v53 hs54 => ?_)
  refine Z 3 rfl ?_
  exact hn18 _ _ _ _ h ⟨((hl18.trans hl41).trans hl50), _, rfl, rfl, hs54⟩
theorem crc_Table_End_ok {a0 : List Int} {a1 : Int} {bi1 : Nat} {r : Int} (h : crc_Table_End a0 a1 r) (σ : Sto) (hc2 : CelN σ ⟨bi1, 0, none⟩ (cellsN (Value.int .u32) 0 1024 a0)) :
    Does Tryd.prog 155 [.pointer (some ⟨bi1, 0, none⟩), .int .u32 a1] σ [] (fun v τ gs => gs = [] ∧ .int .u32 r = v) := by
 refine call_of Tryd.func155 Tryd.ntmps155 rfl rfl (fun cs fs => ?_)
 refine Z 18 rfl ?_
 obtain rfl := Eq.symm h
 exact st_ret (gs' := []) Tryd.func155 rfl (List.Sublist.refl _) (Sto.Le.refl _) ⟨rfl, rfl⟩
theorem crc_Table_Sum_ok {a0 : List Int} {a1 : List (List Int)} {bi1 : Nat} {v3 : Value} {r : Int} (h : crc_Table_Sum a0 a1 r) (σ : Sto) (hc2 : CelN σ ⟨bi1, 0, none⟩ (cellsN (Value.int .u32) 0 1024 a0)) (hs4 : Sl (kSl (kI .u8)) σ v3 a1) :
    Does Tryd.prog 135 [.pointer (some ⟨bi1, 0, none⟩), v3] σ [] (fun v τ gs => gs = [] ∧ .int .u32 r = v) := by
 refine call_of Tryd.func135 Tryd.ntmps135 rfl rfl (fun cs fs => ?_)
 refine Z 7 rfl ?_
 obtain ⟨r5, hr6, h⟩ := h
 refine st_call (foot := []) rfl rfl rfl rfl rfl rfl (callV_fn z_en153 (crc_Table_Begin_ok hr6 σ hc2)) ?_
 rintro vτ7 τ7 gsτ7 hl8 ⟨rfl, rfl⟩
 refine Z 3 rfl ?_
 refine st_cut (fun ρ τ9 gs => ∃ (s9 : Int), crc_Table_Sum_j1 a0 s9 r ∧ τ7.Le τ9 ∧ ESub ρ [(0, .pointer (some ⟨bi1, 0, none⟩)), (4, .int .u32 0), (5, .int .u32 s9)] ∧ gs = []) ?_ (fun hk9 => ?_)
 ·rintro ρ9 τ9 gs9 ⟨s9, h, hl9, hρ, rfl⟩
  refine st_es hρ ?_
  refine Z 4 rfl ?_
  obtain ⟨r10, hr11, h⟩ := h
  refine st_call (foot := []) rfl rfl rfl rfl rfl rfl (callV_fn z_en155 (crc_Table_End_ok hr11 τ9 (hc2.up (hl8.trans hl9)))) ?_
  rintro vτ12 τ12 gsτ12 hl13 ⟨rfl, rfl⟩
  refine Z 2 rfl ?_
  obtain rfl := Eq.symm h
  exact st_ret (gs' := []) Tryd.func135 rfl (List.Sublist.refl _) ((hl8.trans hl9).trans hl13) ⟨rfl, rfl⟩
 refine Z 3 rfl ?_
 refine o_lenI rfl rfl rfl z_slT48 rfl (hs4.up hl8) ?_
 refine Z 2 rfl ?_
 obtain ⟨e14, hL14, hA14⟩ := h
 refine st_loop hL14 (fun (s14 : Int × Int) ρ τ14 gs => τ7.Le τ14 ∧ ESub ρ [(0, .pointer (some ⟨bi1, 0, none⟩)), (4, .int .u32 0), (5, .int .u32 s14.1), (10, v3), (11, .int .i64 (a1.length : Int)), (12, .int .i64 s14.2)] ∧ gs = []) ⟨Sto.Le.refl _, rfl, rfl⟩ ?_
 rintro s14 o14 h he14 ρ14 τ14 gs14 ⟨hl14, hρ, rfl⟩ hn14
 refine st_es hρ ?_
 refine Z 5 rfl ?_
 refine st_if rfl h (fun h => ?_) (fun h => ?_)
 ·refine Z 5 rfl ?_
  obtain ⟨q15, hf16, h⟩ := h
  refine o_index rfl rfl rfl z_slT48 rfl rfl (hs4.up (hl8.trans hl14)) rfl hf16 (fun b17 of18 vs hc20 hrep => ?_)
  obtain ⟨v19, rfl, hs21⟩ := hrep
  refine o_loadI (v := v19) rfl rfl rfl z_sc22 rfl (hc20 0 _ rfl) ?_
  refine Z 6 rfl ?_
  obtain ⟨r22, hr23, h⟩ := h
  refine st_call (foot := []) rfl rfl rfl rfl rfl rfl (callV_fn z_en154 (crc_Table_Add_ok hr23 τ14 (hc2.up (hl8.trans hl14)) hs21)) ?_
  rintro vτ24 τ24 gsτ24 hl25 ⟨rfl, rfl⟩
  refine Z 7 rfl ?_
  exact hn14 _ _ _ _ h ⟨(hl14.trans hl25), rfl, rfl⟩
 ·refine st_exit rfl ?_
  obtain rfl := he14 _ h
  replace h := hA14
  exact hk9 _ _ _ ⟨s14.1, h, hl14, rfl, rfl⟩
theorem crc_bytes_ok {a0 : Int} {r : List Int} (h : crc_bytes a0 r) (σ : Sto)  :
    Does Tryd.prog 134 [.int .u32 a0] σ [] (fun v τ gs => gs = [] ∧ .agg [.int .u8 (r.getD 0 0), .int .u8 (r.getD 1 0), .int .u8 (r.getD 2 0), .int .u8 (r.getD 3 0)].toArray = v) := by
 refine call_of Tryd.func134 Tryd.ntmps134 rfl rfl (fun cs fs => ?_)
 refine Z 2 rfl ?_
 refine o_alloc rfl rfl rfl z_zero180 (fun b1 => ?_)
 refine Z 14 rfl ?_
 refine o_buildA (ps := [(0, [.int .u8 (IntKind.u8.wrap a0)]), (1, [.int .u8 (IntKind.u8.wrap (ishr .u32 a0 8))]), (2, [.int .u8 (IntKind.u8.wrap (ishr .u32 a0 16))]), (3, [.int .u8 (IntKind.u8.wrap (ishr .u32 a0 24))])]) (cs := [.int .u8 (IntKind.u8.wrap a0), .int .u8 (IntKind.u8.wrap (ishr .u32 a0 8)), .int .u8 (IntKind.u8.wrap (ishr .u32 a0 16)), .int .u8 (IntKind.u8.wrap (ishr .u32 a0 24))]) rfl rfl rfl z_arrz180 ⟨rfl, ⟨_, rfl, rfl⟩, ⟨rfl, ⟨_, rfl, rfl⟩, ⟨rfl, ⟨_, rfl, rfl⟩, ⟨rfl, ⟨_, rfl, rfl⟩, trivial⟩⟩⟩⟩ (fill_all [.int .u8 (IntKind.u8.wrap a0), .int .u8 (IntKind.u8.wrap (ishr .u32 a0 8)), .int .u8 (IntKind.u8.wrap (ishr .u32 a0 16)), .int .u8 (IntKind.u8.wrap (ishr .u32 a0 24))] _ rfl) ?_
 refine ZZ 2 [0] rfl rfl ?_
 obtain rfl := Eq.symm h
 exact st_retC (gs' := []) [.agg #[.int .u8 (IntKind.u8.wrap a0), .int .u8 (IntKind.u8.wrap (ishr .u32 a0 8)), .int .u8 (IntKind.u8.wrap (ishr .u32 a0 16)), .int .u8 (IntKind.u8.wrap (ishr .u32 a0 24))]] Tryd.func134 ⟨⟨_, _, _, _, rfl, mem_flat 0 rfl, fun w hw => cellOfN (vs := [.int .u8 (IntKind.u8.wrap a0), .int .u8 (IntKind.u8.wrap (ishr .u32 a0 8)), .int .u8 (IntKind.u8.wrap (ishr .u32 a0 16)), .int .u8 (IntKind.u8.wrap (ishr .u32 a0 24))]) z_agg180 rfl w hw⟩, trivial⟩ (by simp) (Sto.Le.refl _) ⟨rfl, rfl⟩
theorem crc_Open_ok {a0 : List Int} {a1 : List Int} {bi1 : Nat} {v3 : Value} {r : List Int × Int} (h : crc_Open a0 a1 r) (σ : Sto) (hc2 : CelN σ ⟨bi1, 0, none⟩ (cellsN (Value.int .u32) 0 1024 a0)) (hs4 : Sl (kI .u8) σ v3 a1) :
    Does Tryd.prog 116 [.pointer (some ⟨bi1, 0, none⟩), v3] σ [] (fun v τ gs => ∃ (v49 : Value), gs = [] ∧ .tuple [v49, .int .i64 r.2].toArray = v ∧ Sl (kI .u8) τ v49 r.1) := by
 refine call_of Tryd.func116 Tryd.ntmps116 rfl rfl (fun cs fs => ?_)
 refine Z 8 rfl ?_
 refine o_lenI rfl rfl rfl z_slT22 rfl hs4 ?_
 refine Z 18 rfl ?_
 refine st_if rfl h (fun h => ?_) (fun h => ?_)
 ·refine Z 5 rfl ?_
  obtain rfl := Eq.symm h
  exact st_ret (gs' := []) Tryd.func116 rfl (List.Sublist.refl _) (Sto.Le.refl _) ⟨_, rfl, rfl, Sl.nil⟩
 ·refine Z 7 rfl ?_
  obtain ⟨hf5, hf6, hf7, hf8, h⟩ := h
  refine o_slice (L := 0) (H := (IntKind.i64.wrap ((a1.length : Int) - 4))) rfl rfl rfl z_slT22 rfl rfl hs4 rfl ⟨_, rfl⟩ (by decide) hf5 hf6 ⟨_, _, rfl, hf7, hf8⟩ (by simp) (fun v9 hs10 => ?_)
  refine Z 4 rfl ?_
  obtain ⟨r18, hr19, r22, hr23, hf26, hf27, hf28, hf31, h⟩ := h
  refine st_draw 11 (dl [.v (.pointer (some ⟨bi1, 0, none⟩)), .v (v9), .t fun τ v => ∃ (v11 : Value), (v11 : Value) = v ∧ Sl (kSl (kI .u8)) τ v11 [((a1.drop (0 : Int).toNat).take (((IntKind.i64.wrap ((a1.length : Int) - 4)) : Int) - 0).toNat)], .v (.int .u32 r18), .v (.agg #[.int .u8 (r22.getD 0 0), .int .u8 (r22.getD 1 0), .int .u8 (r22.getD 2 0), .int .u8 (r22.getD 3 0)]), .v (v3), .v (.int .i64 (IntKind.i64.wrap ((a1.length : Int) - 4))), .t fun τ v => ∃ (v29 : Value), (v29 : Value) = v ∧ Sl (kI .u8) τ v29 ((a1.drop (IntKind.i64.wrap ((a1.length : Int) - 4)).toNat).take (((a1.length : Int) : Int) - (IntKind.i64.wrap ((a1.length : Int) - 4))).toNat), .t fun τ v => ∃ (b32 : Nat) (of33 : Nat) (vsb32 : List Value), (.pointer (some ⟨b32, of33, none⟩) : Value) = v ∧ CelN τ ⟨b32, of33, none⟩ vsb32 ∧ (kA .u8 4).rep τ vsb32 ((a1.drop (IntKind.i64.wrap ((a1.length : Int) - 4)).toNat).take (((a1.length : Int) : Int) - (IntKind.i64.wrap ((a1.length : Int) - 4))).toNat), .v (.agg #[.int .u8 (((a1.drop (IntKind.i64.wrap ((a1.length : Int) - 4)).toNat).take (((a1.length : Int) : Int) - (IntKind.i64.wrap ((a1.length : Int) - 4))).toNat).getD 0 0), .int .u8 (((a1.drop (IntKind.i64.wrap ((a1.length : Int) - 4)).toNat).take (((a1.length : Int) : Int) - (IntKind.i64.wrap ((a1.length : Int) - 4))).toNat).getD 1 0), .int .u8 (((a1.drop (IntKind.i64.wrap ((a1.length : Int) - 4)).toNat).take (((a1.length : Int) : Int) - (IntKind.i64.wrap ((a1.length : Int) - 4))).toNat).getD 2 0), .int .u8 (((a1.drop (IntKind.i64.wrap ((a1.length : Int) - 4)).toNat).take (((a1.length : Int) : Int) - (IntKind.i64.wrap ((a1.length : Int) - 4))).toNat).getD 3 0)]), .v (.bool (!(eqN 4 0 r22 ((a1.drop (IntKind.i64.wrap ((a1.length : Int) - 4)).toNat).take (((a1.length : Int) : Int) - (IntKind.i64.wrap ((a1.length : Int) - 4))).toNat))))]) (fun _ _ => []) z_mix rfl (dl_mono ⟨fun _ _ _ hl ⟨v11, hv, hs17⟩ => ⟨v11, hv, hs17.up hl⟩, ⟨fun _ _ _ hl ⟨v29, hv, hs30⟩ => ⟨v29, hv, hs30.up hl⟩, ⟨fun _ _ _ hl ⟨b32, of33, vsb32, hv, hc34, hrepb32⟩ => ⟨b32, of33, vsb32, hv, hc34.up hl, Kd.mono _ hl hrepb32⟩, trivial⟩⟩⟩) (allB_cons (allB_cons (allB_cons (allB_cons (allB_cons (allB_cons (allB_cons (allB_cons (allB_cons (allB_cons (allB_cons allB_nil (p1 dA)) (p1 dA)) ?_) ?_) ?_) (p1 dA)) (p1 dA)) ?_) ?_) ?_) ?_) ?_
  ·intro ρ' τ pool rs hl hd hout hk
   obtain ⟨_, e1, rfl⟩ := hd 1 rfl
   refine o_lit (dk := (kSl (kI .u8))) (xs := [((a1.drop (0 : Int).toNat).take (((IntKind.i64.wrap ((a1.length : Int) - 4)) : Int) - 0).toNat)]) (ps := [(0, [v9])]) (cs := [v9]) rfl rfl rfl z_slT48 z_zero22 ⟨rfl, ⟨_, e1, (oneL_sl (hs10.up hl))⟩, trivial⟩ rfl rfl rfl rfl (Kd.Many.cons (d := (kSl (kI .u8))) (x := ((a1.drop (0 : Int).toNat).take (((IntKind.i64.wrap ((a1.length : Int) - 4)) : Int) - 0).toNat)) (a := [v9]) ⟨_, rfl, (hs10.up hl)⟩ Kd.Many.nil) (fun v11 g12 ho13 => ?_)
   refine st_freeze (fun τ14 hl15 hg16 => ?_)
   have hs17 := ho13.freeze hl15 hg16
   exact st_addNil (hk _ _ hl15 ⟨v11, rfl, hs17⟩)
  ·intro ρ' τ pool rs hl hd hout hk
   obtain ⟨_, e0, rfl⟩ := hd 0 rfl
   obtain ⟨_, e2, v11, rfl, hs17⟩ := hd 2 rfl
   refine st_call (foot := []) rfl rfl rfl rfl (evs_cons e0 (evs_cons e2 rfl)) rfl (callV_fn z_en135 (crc_Table_Sum_ok hr19 τ (hc2.up hl) hs17)) ?_
   rintro vτ20 τ20 gsτ20 hl21 ⟨rfl, rfl⟩
   exact st_addNil (hk _ _ hl21 rfl)
  ·intro ρ' τ pool rs hl hd hout hk
   obtain ⟨_, e3, rfl⟩ := hd 3 rfl
   refine st_call (foot := []) rfl rfl rfl rfl (evs_cons e3 rfl) rfl (callV_fn z_en134 (crc_bytes_ok hr23 τ)) ?_
   rintro vτ24 τ24 gsτ24 hl25 ⟨rfl, rfl⟩
   exact st_addNil (hk _ _ hl25 rfl)
  ·intro ρ' τ pool rs hl hd hout hk
   obtain ⟨_, e5, rfl⟩ := hd 5 rfl
   obtain ⟨_, e6, rfl⟩ := hd 6 rfl
   refine o_slice (L := (IntKind.i64.wrap ((a1.length : Int) - 4))) (H := (a1.length : Int)) rfl rfl rfl z_slT22 rfl e5 (hs4.up hl) ⟨_, e6⟩ rfl hf26 hf27 hf28 trivial (by simp) (fun v29 hs30 => ?_)
   exact st_addNil (hk _ _ (Sto.Le.refl _) ⟨v29, rfl, hs30⟩)
  ·intro ρ' τ pool rs hl hd hout hk
   obtain ⟨_, e7, v29, rfl, hs30⟩ := hd 7 rfl
   refine o_toArr (dk := (kI .u8)) rfl rfl rfl z_arr180 e7 hs30 rfl hf31 (fun b32 of33 csb32 hcsb32 hmb32 => ?_)
   obtain ⟨vsb32, hc34, hrepb32⟩ : ∃ vs, CelN τ ⟨b32, of33, none⟩ vs ∧ Kd.rep (kA .u8 4) τ vs ((a1.drop (IntKind.i64.wrap ((a1.length : Int) - 4)).toNat).take (((a1.length : Int) : Int) - (IntKind.i64.wrap ((a1.length : Int) - 4))).toNat) := ⟨_, celn_arr hcsb32 hmb32 hf31, rfl⟩
   exact st_addNil (hk _ _ (Sto.Le.refl _) ⟨b32, of33, _, rfl, hc34, hrepb32⟩)
  ·intro ρ' τ pool rs hl hd hout hk
   obtain ⟨_, e8, b32, of33, vsb32, rfl, hc34, hrepb32⟩ := hd 8 rfl
   have hrepb32 := hrepb32
   obtain rfl := hrepb32
   refine o_loadIN (vs := [.int .u8 (((a1.drop (IntKind.i64.wrap ((a1.length : Int) - 4)).toNat).take (((a1.length : Int) : Int) - (IntKind.i64.wrap ((a1.length : Int) - 4))).toNat).getD 0 0), .int .u8 (((a1.drop (IntKind.i64.wrap ((a1.length : Int) - 4)).toNat).take (((a1.length : Int) : Int) - (IntKind.i64.wrap ((a1.length : Int) - 4))).toNat).getD 1 0), .int .u8 (((a1.drop (IntKind.i64.wrap ((a1.length : Int) - 4)).toNat).take (((a1.length : Int) : Int) - (IntKind.i64.wrap ((a1.length : Int) - 4))).toNat).getD 2 0), .int .u8 (((a1.drop (IntKind.i64.wrap ((a1.length : Int) - 4)).toNat).take (((a1.length : Int) : Int) - (IntKind.i64.wrap ((a1.length : Int) - 4))).toNat).getD 3 0)]) rfl rfl rfl z_agg180 e8 rfl (celn_part 0 rfl hc34) ?_
   exact st_addNil (hk _ _ (Sto.Le.refl _) rfl)
  ·intro ρ' τ pool rs hl hd hout hk
   obtain ⟨_, e4, rfl⟩ := hd 4 rfl
   obtain ⟨_, e9, rfl⟩ := hd 9 rfl
   refine o_aggEq (b := (eqN 4 0 r22 ((a1.drop (IntKind.i64.wrap ((a1.length : Int) - 4)).toNat).take (((a1.length : Int) : Int) - (IntKind.i64.wrap ((a1.length : Int) - 4))).toNat))) (e := (!(eqN 4 0 r22 ((a1.drop (IntKind.i64.wrap ((a1.length : Int) - 4)).toNat).take (((a1.length : Int) : Int) - (IntKind.i64.wrap ((a1.length : Int) - 4))).toNat)))) rfl rfl rfl z_eqg180 e4 e9 (fun w => by exact eq_arr (xs := r22) (ys := ((a1.drop (IntKind.i64.wrap ((a1.length : Int) - 4)).toNat).take (((a1.length : Int) : Int) - (IntKind.i64.wrap ((a1.length : Int) - 4))).toNat)) Tryd.underlying180 Tryd.underlying5 z_info5 z_cell5) rfl ?_
   exact st_addNil (hk _ _ (Sto.Le.refl _) rfl)
  intro ρ' τ35 vals hl35 hv hout
  refine st_ord [] _ rfl ?_
  refine st_env (ρ' := [(31, .bool (!(eqN 4 0 r22 ((a1.drop (IntKind.i64.wrap ((a1.length : Int) - 4)).toNat).take (((a1.length : Int) : Int) - (IntKind.i64.wrap ((a1.length : Int) - 4))).toNat)))), (4, .slice none 0 0), (5, .int .i64 0), (7, v9)]) ⟨(lv1 hv 10 rfl rfl), (hout 4 rfl).trans rfl, (hout 5 rfl).trans rfl, (hout 7 rfl).trans rfl, trivial⟩ ?_
  refine st_end ?_
  refine st_if rfl h (fun h => ?_) (fun h => ?_)
  ·refine Z 5 rfl ?_
   obtain rfl := Eq.symm h
   exact st_ret (gs' := []) Tryd.func116 rfl (List.Sublist.refl _) hl35 ⟨_, rfl, rfl, Sl.nil⟩
  ·refine Z 3 rfl ?_
   refine o_lit (dk := (kI .u8)) (xs := ([] : List Int)) (ps := []) (cs := []) rfl rfl rfl z_slT22 z_zero5 trivial rfl rfl rfl rfl Kd.Many.nil (fun v36 g37 ho38 => ?_)
   refine o_move rfl rfl rfl rfl ?_
   obtain ⟨hf42, hf43, h⟩ := h
   refine o_append (dk := (kI .u8)) (xs := ([] : List Int)) (ys := ((a1.drop (0 : Int).toNat).take (((IntKind.i64.wrap ((a1.length : Int) - 4)) : Int) - 0).toNat)) rfl rfl rfl rfl z_slT22 rfl ho38 rfl (Sl.src (hs10.up hl35)) hf42 hf43 (fun v39 g40 ho41 => ?_)
   refine Z 3 rfl ?_
   refine st_freeze (fun τ44 hl45 hg46 => ?_)
   have hs47 := ho41.freeze hl45 hg46
   obtain rfl := Eq.symm h
   exact st_ret (gs' := []) Tryd.func116 rfl (List.Sublist.refl _) (hl35.trans hl45) ⟨_, rfl, rfl, hs47⟩
theorem lens_New_ok {a0 : List Int} {v1 : Value} {r : (List Int × Int × Int)} (h : lens_New a0 r) (σ : Sto) (hs2 : Sl (kI .u8) σ v1 a0) :
    Does Tryd.prog 136 [v1] σ [] (fun v τ gs => ∃ (b15 : Nat) (v16 : Value), gs = [[(b15, .cells [v16, .int .i64 r.2.1, .int .i64 r.2.2].toArray 208 (0, 0))]] ∧ .pointer (some ⟨b15, 0, none⟩) = v ∧ Sl (kI .u8) τ v16 r.1) := by
 refine call_of Tryd.func136 Tryd.ntmps136 rfl rfl (fun cs fs => ?_)
 refine Z 7 rfl ?_
 obtain ⟨hf6, hf7, h⟩ := h
 refine st_addNil ?_
 refine o_append (dk := (kI .u8)) (xs := ([] : List Int)) (ys := a0) rfl rfl rfl rfl z_slT22 rfl Ow.nil rfl (Sl.src hs2) hf6 hf7 (fun v3 g4 ho5 => ?_)
 refine o_build (ps := [(0, [v3])]) (cs := [v3, .int .i64 0, .int .i64 0]) rfl rfl rfl z_struct208 ⟨rfl, ⟨_, rfl, (oneL_ow ho5)⟩, trivial⟩ rfl ?_
 refine o_box (cs := [v3, .int .i64 0, .int .i64 0]) rfl rfl rfl rfl rfl (fun b8 => ?_)
 refine Z 2 rfl ?_
 refine st_ord [1, 0] _ rfl ?_
 refine st_freeze (fun τ9 hl10 hg11 => ?_)
 have hs12 := ho5.freeze hl10 hg11
 obtain rfl := Eq.symm h
 exact st_ret (gs' := [[(b8, .cells #[v3, .int .i64 0, .int .i64 0] 208 (0, 0))]]) Tryd.func136 rfl (List.Sublist.refl _) hl10 ⟨_, _, rfl, rfl, hs12⟩
theorem lens_Lens_left_ok {a0 : List Int × Int × Int} {ba0 : Nat} {v1 : Value} {r : List Int} (h : lens_Lens_left a0 r) (σ : Sto) (hs2 : Sl (kI .u8) σ v1 a0.1) :
    Does Tryd.prog 170 [.pointer (some ⟨ba0, 0, none⟩)] σ [[(ba0, .cells [v1, .int .i64 a0.2.1, .int .i64 a0.2.2].toArray 208 (0, 0))]] (fun v τ gs => ∃ (v11 : Value), gs = [[(ba0, .cells [v1, .int .i64 a0.2.1, .int .i64 a0.2.2].toArray 208 (0, 0))]] ∧ v11 = v ∧ Sl (kI .u8) τ v11 r) := by
 refine call_of Tryd.func170 Tryd.ntmps170 rfl rfl (fun cs fs => ?_)
 refine Z 5 rfl ?_
 obtain ⟨hf3, hf4, hf5, hf6, hf7, h⟩ := h
 refine st_draw 19 (dl [.v (.pointer (some ⟨ba0, 0, none⟩)), .v (.pointer (some ⟨ba0, 0, none⟩)), .v (.pointer (some ⟨ba0, 0, none⟩)), .v (v1), .v (.pointer (some ⟨ba0, 0, none⟩)), .v (.pointer (some ⟨ba0, 0, none⟩)), .v (.pointer (some ⟨ba0, 1, none⟩)), .v (.int .i64 a0.2.1), .v (.pointer (some ⟨ba0, 0, none⟩)), .v (.pointer (some ⟨ba0, 0, none⟩)), .v (.pointer (some ⟨ba0, 0, none⟩)), .v (v1), .v (.int .i64 (a0.1.length : Int)), .v (.pointer (some ⟨ba0, 0, none⟩)), .v (.pointer (some ⟨ba0, 0, none⟩)), .v (.pointer (some ⟨ba0, 0, none⟩)), .v (v1), .v (.int .i64 (a0.1.length : Int)), .t fun τ v => ∃ (v8 : Value), (v8 : Value) = v ∧ Sl (kI .u8) τ v8 ((a0.1.drop a0.2.1.toNat).take (((a0.1.length : Int) : Int) - a0.2.1).toNat)]) (fun _ _ => []) z_mix rfl (dl_mono ⟨fun _ _ _ hl ⟨v8, hv, hs9⟩ => ⟨v8, hv, hs9.up hl⟩, trivial⟩) (allB_cons (allB_cons (allB_cons (allB_cons (allB_cons (allB_cons (allB_cons (allB_cons (allB_cons (allB_cons (allB_cons (allB_cons (allB_cons (allB_cons (allB_cons (allB_cons (allB_cons (allB_cons (allB_cons allB_nil (p1 dA)) (p1 dA)) (p1 dA)) ?_) (p1 dA)) (p1 dA)) (p1 dA)) ?_) (p1 dA)) (p1 dA)) (p1 dA)) ?_) ?_) (p1 dA)) (p1 dA)) (p1 dA)) ?_) ?_) ?_) ?_
 ·intro ρ' τ pool rs hl hd hout hk
  obtain ⟨_, e2, rfl⟩ := hd 2 rfl
  refine o_load (j := 0) (v := v1) rfl rfl rfl z_sc22 e2 rfl rfl ?_
  exact st_addNil (hk _ _ (Sto.Le.refl _) rfl)
 ·intro ρ' τ pool rs hl hd hout hk
  obtain ⟨_, e6, rfl⟩ := hd 6 rfl
  refine o_load (j := 0) (v := .int .i64 a0.2.1) rfl rfl rfl z_sc3 e6 rfl rfl ?_
  exact st_addNil (hk _ _ (Sto.Le.refl _) rfl)
 ·intro ρ' τ pool rs hl hd hout hk
  obtain ⟨_, e10, rfl⟩ := hd 10 rfl
  refine o_load (j := 0) (v := v1) rfl rfl rfl z_sc22 e10 rfl rfl ?_
  exact st_addNil (hk _ _ (Sto.Le.refl _) rfl)
 ·intro ρ' τ pool rs hl hd hout hk
  obtain ⟨_, e11, rfl⟩ := hd 11 rfl
  refine o_lenI rfl rfl rfl z_slT22 e11 (hs2.up hl) ?_
  exact st_addNil (hk _ _ (Sto.Le.refl _) rfl)
 ·intro ρ' τ pool rs hl hd hout hk
  obtain ⟨_, e15, rfl⟩ := hd 15 rfl
  refine o_load (j := 0) (v := v1) rfl rfl rfl z_sc22 e15 rfl rfl ?_
  exact st_addNil (hk _ _ (Sto.Le.refl _) rfl)
 ·intro ρ' τ pool rs hl hd hout hk
  obtain ⟨_, e16, rfl⟩ := hd 16 rfl
  refine o_lenI rfl rfl rfl z_slT22 e16 (hs2.up hl) ?_
  exact st_addNil (hk _ _ (Sto.Le.refl _) rfl)
 ·intro ρ' τ pool rs hl hd hout hk
  obtain ⟨_, e3, rfl⟩ := hd 3 rfl
  obtain ⟨_, e7, rfl⟩ := hd 7 rfl
  obtain ⟨_, e12, rfl⟩ := hd 12 rfl
  obtain ⟨_, e17, rfl⟩ := hd 17 rfl
  refine o_slice (L := a0.2.1) (H := (a0.1.length : Int)) rfl rfl rfl z_slT22 rfl e3 (hs2.up hl) ⟨_, e7⟩ ⟨_, e12⟩ hf3 hf4 hf5 ⟨_, _, e17, hf6, hf7⟩ (by simp) (fun v8 hs9 => ?_)
  exact st_addNil (hk _ _ (Sto.Le.refl _) ⟨v8, rfl, hs9⟩)
 intro ρ' τ10 vals hl10 hv hout
 obtain ⟨l18, v8, t18, hs9⟩ := hv 18 (by decide)
 replace l18 : Eng.look ρ' 21 = some (v8) := l18.trans (congrArg some (Eq.symm t18))
 refine st_ord [0] _ rfl ?_
 refine st_env (ρ' := [(21, v8), (2, .slice none 0 0)]) ⟨l18, (hout 2 rfl).trans rfl, trivial⟩ ?_
 refine Z 2 rfl ?_
 obtain rfl := Eq.symm h
 exact st_ret (gs' := [[(ba0, .cells #[v1, .int .i64 a0.2.1, .int .i64 a0.2.2] 208 (0, 0))]]) Tryd.func170 rfl (List.Sublist.refl _) hl10 ⟨_, rfl, rfl, hs9⟩
theorem slices_Backward_byte_byte_1_ok {c0 : List Int} {bc0 : Nat} {v1 : Value} {σ0 : Sto} (hc0_0 : Cel σ0 ⟨bc0, 0, none⟩ (v1)) (hs2 : Sl (kI .u8) σ0 v1 c0) :
    IterV Tryd.prog (fun _ x vx => vx = [.int .i64 x.1, .int .u8 x.2]) (.func (.func 174) #[] [.pointer (some ⟨bc0, 0, none⟩)].toArray) σ0 [] (fun (_ : Unit) _ f => f = []) (slices_Backward_byte_byte_1 c0) := by
 intro S Y I y hyc hyo hIm hY s s' o hR σ g hle hIg
 obtain ⟨r, hr0⟩ : ∃ r, r = (s', o) := ⟨_, rfl⟩
 rw [← hr0] at hR
 have h := hR
 refine callV_of (caps := [.pointer (some ⟨bc0, 0, none⟩)]) z_en174 ?_
 refine call_of Tryd.func174 Tryd.ntmps174 rfl rfl (fun cs fs => ?_)
 refine st_ord [0] _ rfl ?_
 refine Z 2 rfl ?_
 refine o_loadI (v := v1) rfl rfl rfl z_sc22 rfl (Cel.up hc0_0 hle) ?_
 refine o_lenI rfl rfl rfl z_slT22 rfl (hs2.up hle) ?_
 refine Z 3 rfl ?_
 obtain ⟨e3, hL3, hA3⟩ := h
 refine st_loop hL3 (fun (s3 : S × Int) ρ τ3 gs => σ.Le τ3 ∧ ∃ (g4 : Grp), ESub ρ [(0, y), (1, .pointer (some ⟨bc0, 0, none⟩)), (3, .int .i64 s3.2)] ∧ gs = [g4] ∧ I s3.1 τ3 g4) ⟨Sto.Le.refl _, g, rfl, rfl, hIg⟩ ?_
 rintro s3 o3 h he3 ρ3 τ3 gs3 ⟨hl3, g4, hρ, rfl, hI5⟩ hn3
 refine st_es hρ ?_
 refine Z 6 rfl ?_
 refine st_if rfl h (fun h => ?_) (fun h => ?_)
 ·refine Z 7 rfl ?_
  refine o_loadI (v := v1) rfl rfl rfl z_sc22 rfl (Cel.up hc0_0 (hle.trans hl3)) ?_
  refine o_move rfl rfl rfl rfl ?_
  obtain ⟨q6, hf7, h⟩ := h
  refine o_index rfl rfl rfl z_slT22 rfl rfl (hs2.up (hle.trans hl3)) rfl hf7 (fun b8 of9 vs hc10 hrep => ?_)
  obtain rfl := hrep
  refine o_loadI (v := .int .u8 q6) rfl rfl rfl z_sc5 rfl (hc10 0 _ rfl) ?_
  obtain ⟨y11, u12, hy13, h⟩ := h
  refine st_call (foot := [g4]) rfl rfl rfl rfl rfl rfl (hY (s3.2, q6) s3.1 _ _ _ _ _ (hle.trans hl3) hy13 rfl hI5) ?_
  rintro vτ14 τ14 gsτ14 hl15 ⟨rfl, g16, rfl, hI17⟩
  refine Z 2 rfl ?_
  refine st_if rfl h (fun h => ?_) (fun h => ?_)
  ·obtain rfl := he3 _ h
   replace h := hA3
   obtain rfl := Eq.symm h
   cases hr0
   exact st_ret (gs' := [g16, []]) Tryd.func174 rfl (by simp) (hl3.trans hl15) ⟨g16, _, rfl, hI17, rfl⟩
  ·refine Z 7 rfl ?_
   exact hn3 _ _ _ _ h ⟨(hl3.trans hl15), g16, rfl, rfl, hI17⟩
 ·refine st_exit rfl ?_
  obtain rfl := he3 _ h
  replace h := hA3
  obtain rfl := Eq.symm h
  cases hr0
  exact st_fin (gs' := [g4, []]) Tryd.func174 rfl (by simp) hl3 ⟨g4, _, rfl, hI5, rfl⟩
theorem slices_Backward_byte_byte_ok {a0 : List Int} {v1 : Value} {r : (((S : Type) → ((Int × Int) → S → Bool × S → Prop) → S → S × Unit → Prop))} (h : slices_Backward_byte_byte a0 r) (σ : Sto) (hs2 : Sl (kI .u8) σ v1 a0) :
    Does Tryd.prog 169 [v1] σ [] (fun v τ gs => ∃ (f7 : Nat) (q8 : Array Value), gs = [] ∧ .func (.func f7) #[] q8 = v ∧ IterV Tryd.prog (fun _ x vx => vx = [.int .i64 x.1, .int .u8 x.2]) (.func (.func f7) #[] q8) τ [] (fun (_ : Unit) _ f => f = []) r) := by
 refine call_of Tryd.func169 Tryd.ntmps169 rfl rfl (fun cs fs => ?_)
 refine Z 2 rfl ?_
 refine o_box (cs := [v1]) rfl rfl rfl rfl (oneL_sl hs2) (fun b3 => ?_)
 refine Z 4 rfl ?_
 refine st_freeze (fun τ4 hl5 hg6 => ?_)
 refine Z 3 rfl ?_
 obtain rfl := Eq.symm h
 exact st_ret (gs' := []) Tryd.func169 rfl (List.Sublist.refl _) hl5 ⟨_, _, rfl, rfl, (slices_Backward_byte_byte_1_ok (cel_of hg6 rfl) (hs2.up hl5))⟩
theorem lens_Lens_word_1_ok {a0 : List Int} {c0 : Int} {c1 : Int} {v1 : Value} {bc0 : Nat} {bc1 : Nat} {r : Int × Int × Int} (h : lens_Lens_word_1 a0 c0 c1 r) (σ : Sto) (hs2 : Sl (kI .u8) σ v1 a0) :
    Does Tryd.prog 168 [v1, .pointer (some ⟨bc0, 0, none⟩), .pointer (some ⟨bc1, 0, none⟩)] σ [[(bc0, .cells [.int .i64 c0].toArray 3 (0, 0))], [(bc1, .cells [.int .u32 c1].toArray 36 (0, 0))]] (fun v τ gs => gs = [[(bc0, .cells [.int .i64 c0].toArray 3 (0, 0))], [(bc1, .cells [.int .u32 r.2.2].toArray 36 (0, 0))]] ∧ .tuple [.int .i64 r.1, .int .i64 r.2.1].toArray = v) := by
 refine call_of Tryd.func168 Tryd.ntmps168 rfl rfl (fun cs fs => ?_)
 refine Z 9 rfl ?_
 refine o_lenI rfl rfl rfl z_slT22 rfl hs2 ?_
 refine ZZ 3 [0] rfl rfl ?_
 refine st_if rfl h (fun h => ?_) (fun h => ?_)
 ·refine Z 5 rfl ?_
  obtain rfl := Eq.symm h
  exact st_ret (gs' := [[(bc0, .cells #[.int .i64 c0] 3 (0, 0))], [(bc1, .cells #[.int .u32 c1] 36 (0, 0))]]) Tryd.func168 rfl (List.Sublist.refl _) (Sto.Le.refl _) ⟨rfl, rfl⟩
 ·refine ZZ 6 [0] rfl rfl ?_
  obtain ⟨hf3, hf4, h⟩ := h
  refine o_slice (L := 0) (H := c0) rfl rfl rfl z_slT22 rfl rfl hs2 rfl ⟨_, rfl⟩ (by decide) hf3 hf4 trivial (by simp) (fun v5 hs6 => ?_)
  obtain ⟨r7, hr8, h⟩ := h
  refine st_call (foot := []) rfl rfl rfl rfl rfl rfl (callV_fn z_en169 (slices_Backward_byte_byte_ok hr8 σ hs6)) ?_
  rintro vτ9 τ9 gsτ9 hl10 ⟨f11, q12, rfl, rfl, hit13⟩
  refine Z 2 rfl ?_
  obtain ⟨t14, w14, hR14, hA14⟩ := h
  refine st_env (ρ' := [(1, .pointer (some ⟨bc0, 0, none⟩)), (2, .pointer (some ⟨bc1, 0, none⟩)), (4, .int .i64 0), (5, .int .i64 0), (15, .func (.func f11) #[] q12)]) ⟨rfl, rfl, rfl, rfl, rfl, trivial⟩ ?_
  refine st_addNil ?_
  refine st_range (B := lens_Lens_word_1_l1) (s0 := c1) ranges_fctx rfl hit13 (Sto.Le.refl _) hR14 rfl (fun _ _ _ h => by cases h; rfl) (fun (s14 : Int) τ14 gs => τ9.Le τ14 ∧ gs = [[(bc0, .cells #[.int .i64 c0] 3 (0, 0))], [(bc1, .cells #[.int .u32 s14] 36 (0, 0))]]) (fun _ _ _ _ => False) (fun _ _ _ _ hl ⟨hb, hg⟩ => ⟨hb.trans hl, hg⟩) (fun _ _ _ _ _ _ h => h.elim) ⟨Sto.Le.refl _, rfl⟩ ?_ ?_ ?_
  ·rintro x14 s14 o14 τ14 gs14 vx14 hl14 h rfl ⟨hb14, rfl⟩ l14 rc14 caller14 cs14 fs14
   refine Z 3 rfl ?_
   refine st_begin ?_
   refine ZZ 10 [1, 1] rfl rfl ?_
   exact st_rend (List.Sublist.refl _) (Sto.Le.refl _) ⟨_, h, hl14, rfl⟩
  ·rintro p15 τ16 gs14 f14 ht hl17 ⟨hb, rfl⟩ rfl
   subst ht
   replace h := hA14
   refine st_ord [1, 1] _ rfl ?_
   refine ZZ 7 [0] rfl rfl ?_
   obtain rfl := Eq.symm h
   exact st_ret (gs' := [[(bc0, .cells #[.int .i64 c0] 3 (0, 0))], [(bc1, .cells #[.int .u32 p15] 36 (0, 0))]]) Tryd.func168 rfl (List.Sublist.refl _) (hl10.trans hl17) ⟨rfl, rfl⟩
  ·exact fun _ _ _ _ _ _ _ h => h.elim
theorem lens_Lens_read__lens_Lens_word_1_ok {a0 : List Int × Int × Int} {a1_0 : Int} {a1_1 : Int} {ba0 : Nat} {v1 : Value} {ba1_0 : Nat} {ba1_1 : Nat} {r : Bool × (List Int × Int × Int) × Int} (h : lens_Lens_read__lens_Lens_word_1 a0 a1_0 a1_1 r) (σ : Sto) (hs2 : Sl (kI .u8) σ v1 a0.1) :
    Does Tryd.prog 167 [.pointer (some ⟨ba0, 0, none⟩), .func (.func 168) #[] [.pointer (some ⟨ba1_0, 0, none⟩), .pointer (some ⟨ba1_1, 0, none⟩)].toArray] σ [[(ba0, .cells [v1, .int .i64 a0.2.1, .int .i64 a0.2.2].toArray 208 (0, 0))], [(ba1_0, .cells [.int .i64 a1_0].toArray 3 (0, 0))], [(ba1_1, .cells [.int .u32 a1_1].toArray 36 (0, 0))]] (fun v τ gs => ∃ (v13 : Value), gs = [[(ba0, .cells [v13, .int .i64 r.2.1.2.1, .int .i64 r.2.1.2.2].toArray 208 (0, 0))], [(ba1_0, .cells [.int .i64 a1_0].toArray 3 (0, 0))], [(ba1_1, .cells [.int .u32 r.2.2].toArray 36 (0, 0))]] ∧ .bool r.1 = v ∧ Sl (kI .u8) τ v13 r.2.1.1) := by
 refine call_of Tryd.func167 Tryd.ntmps167 rfl rfl (fun cs fs => ?_)
 refine ZZ 17 [0] rfl rfl ?_
 refine st_if rfl h (fun h => ?_) (fun h => ?_)
 ·refine Z 4 rfl ?_
  obtain rfl := Eq.symm h
  exact st_ret (gs' := [[(ba0, .cells #[v1, .int .i64 a0.2.1, .int .i64 a0.2.2] 208 (0, 0))], [(ba1_0, .cells #[.int .i64 a1_0] 3 (0, 0))], [(ba1_1, .cells #[.int .u32 a1_1] 36 (0, 0))]]) Tryd.func167 rfl (List.Sublist.refl _) (Sto.Le.refl _) ⟨_, rfl, rfl, hs2⟩
 ·refine Z 5 rfl ?_
  obtain ⟨r3, hr4, h⟩ := h
  refine st_call (foot := [[(ba0, .cells #[v1, .int .i64 a0.2.1, .int .i64 a0.2.2] 208 (0, 0))]]) rfl rfl rfl rfl rfl rfl (callV_fn z_en170 (lens_Lens_left_ok hr4 σ hs2)) ?_
  rintro vτ5 τ5 gsτ5 hl6 ⟨v7, rfl, rfl, hs8⟩
  obtain ⟨r9, hr10, h⟩ := h
  refine st_ord [1, 1, 0] _ rfl ?_
  refine st_call (foot := [[(ba1_0, .cells #[.int .i64 a1_0] 3 (0, 0))], [(ba1_1, .cells #[.int .u32 a1_1] 36 (0, 0))]]) rfl rfl rfl rfl rfl rfl (callV_of2 (caps := [.pointer (some ⟨ba1_0, 0, none⟩), .pointer (some ⟨ba1_1, 0, none⟩)]) z_en168 (lens_Lens_word_1_ok hr10 τ5 hs8) rfl) ?_
  rintro vτ11 τ11 gsτ11 hl12 ⟨rfl, rfl⟩
  refine Z 12 rfl ?_
  refine st_if rfl h (fun h => ?_) (fun h => ?_)
  ·refine ZZ 12 [2] rfl rfl ?_
   refine st_ord [2, 0, 0] _ rfl ?_
   obtain rfl := Eq.symm h
   exact st_ret (gs' := [[(ba0, .cells #[v1, .int .i64 a0.2.1, .int .i64 r9.2.1] 208 (0, 0))], [(ba1_0, .cells #[.int .i64 a1_0] 3 (0, 0))], [(ba1_1, .cells #[.int .u32 r9.2.2] 36 (0, 0))]]) Tryd.func167 rfl (List.Sublist.refl _) (hl6.trans hl12) ⟨_, rfl, rfl, (hs2.up (hl6.trans hl12))⟩
  ·refine ZZ 17 [2, 2] rfl rfl ?_
   refine st_ord [2, 0, 0] _ rfl ?_
   obtain rfl := Eq.symm h
   exact st_ret (gs' := [[(ba0, .cells #[v1, .int .i64 (IntKind.i64.wrap (a0.2.1 + r9.1)), .int .i64 a0.2.2] 208 (0, 0))], [(ba1_0, .cells #[.int .i64 a1_0] 3 (0, 0))], [(ba1_1, .cells #[.int .u32 r9.2.2] 36 (0, 0))]]) Tryd.func167 rfl (List.Sublist.refl _) (hl6.trans hl12) ⟨_, rfl, rfl, (hs2.up (hl6.trans hl12))⟩
theorem lens_Lens_word_ok {a0 : List Int × Int × Int} {a1 : Int} {ba0 : Nat} {v1 : Value} {r : Int × (List Int × Int × Int)} (h : lens_Lens_word a0 a1 r) (σ : Sto) (hs2 : Sl (kI .u8) σ v1 a0.1) :
    Does Tryd.prog 156 [.pointer (some ⟨ba0, 0, none⟩), .int .i64 a1] σ [[(ba0, .cells [v1, .int .i64 a0.2.1, .int .i64 a0.2.2].toArray 208 (0, 0))]] (fun v τ gs => ∃ (v11 : Value), gs = [[(ba0, .cells [v11, .int .i64 r.2.2.1, .int .i64 r.2.2.2].toArray 208 (0, 0))]] ∧ .int .u32 r.1 = v ∧ Sl (kI .u8) τ v11 r.2.1) := by
 refine call_of Tryd.func156 Tryd.ntmps156 rfl rfl (fun cs fs => ?_)
 refine Z 2 rfl ?_
 refine o_boxC rfl rfl rfl rfl rfl rfl (fun b3 => ?_)
 refine Z 4 rfl ?_
 refine o_alloc rfl rfl rfl z_zero36 (fun b4 => ?_)
 refine ZZ 6 [0] rfl rfl ?_
 obtain ⟨r5, hr6, h⟩ := h
 refine st_ord [2, 1, 0] _ rfl ?_
 refine st_call (foot := [[(ba0, .cells #[v1, .int .i64 a0.2.1, .int .i64 a0.2.2] 208 (0, 0))], [(b3, .cells #[.int .i64 a1] 3 (0, 0))], [(b4, .cells #[.int .u32 0] 36 (0, 0))]]) rfl rfl rfl rfl rfl rfl (callV_fn z_en167 (lens_Lens_read__lens_Lens_word_1_ok hr6 σ hs2)) ?_
 rintro vτ7 τ7 gsτ7 hl8 ⟨v9, rfl, rfl, hs10⟩
 refine ZZ 6 [2] rfl rfl ?_
 refine st_ord [0] _ rfl ?_
 obtain rfl := Eq.symm h
 exact st_ret (gs' := [[(ba0, .cells #[v9, .int .i64 r5.2.1.2.1, .int .i64 r5.2.1.2.2] 208 (0, 0))]]) Tryd.func156 rfl (List.Sublist.refl _) hl8 ⟨_, rfl, rfl, hs10⟩
theorem lens_Lens_U8_ok {a0 : List Int × Int × Int} {ba0 : Nat} {v1 : Value} {r : Int × (List Int × Int × Int)} (h : lens_Lens_U8 a0 r) (σ : Sto) (hs2 : Sl (kI .u8) σ v1 a0.1) :
    Does Tryd.prog 137 [.pointer (some ⟨ba0, 0, none⟩)] σ [[(ba0, .cells [v1, .int .i64 a0.2.1, .int .i64 a0.2.2].toArray 208 (0, 0))]] (fun v τ gs => ∃ (v9 : Value), gs = [[(ba0, .cells [v9, .int .i64 r.2.2.1, .int .i64 r.2.2.2].toArray 208 (0, 0))]] ∧ .int .u8 r.1 = v ∧ Sl (kI .u8) τ v9 r.2.1) := by
 refine call_of Tryd.func137 Tryd.ntmps137 rfl rfl (fun cs fs => ?_)
 refine Z 7 rfl ?_
 obtain ⟨r3, hr4, h⟩ := h
 refine st_call (foot := [[(ba0, .cells #[v1, .int .i64 a0.2.1, .int .i64 a0.2.2] 208 (0, 0))]]) rfl rfl rfl rfl rfl rfl (callV_fn z_en156 (lens_Lens_word_ok hr4 σ hs2)) ?_
 rintro vτ5 τ5 gsτ5 hl6 ⟨v7, rfl, rfl, hs8⟩
 refine Z 3 rfl ?_
 obtain rfl := Eq.symm h
 exact st_ret (gs' := [[(ba0, .cells #[v7, .int .i64 r3.2.2.1, .int .i64 r3.2.2.2] 208 (0, 0))]]) Tryd.func137 rfl (List.Sublist.refl _) hl6 ⟨_, rfl, rfl, hs8⟩
theorem lens_Lens_U32_ok {a0 : List Int × Int × Int} {ba0 : Nat} {v1 : Value} {r : Int × (List Int × Int × Int)} (h : lens_Lens_U32 a0 r) (σ : Sto) (hs2 : Sl (kI .u8) σ v1 a0.1) :
    Does Tryd.prog 138 [.pointer (some ⟨ba0, 0, none⟩)] σ [[(ba0, .cells [v1, .int .i64 a0.2.1, .int .i64 a0.2.2].toArray 208 (0, 0))]] (fun v τ gs => ∃ (v9 : Value), gs = [[(ba0, .cells [v9, .int .i64 r.2.2.1, .int .i64 r.2.2.2].toArray 208 (0, 0))]] ∧ .int .u32 r.1 = v ∧ Sl (kI .u8) τ v9 r.2.1) := by
 refine call_of Tryd.func138 Tryd.ntmps138 rfl rfl (fun cs fs => ?_)
 refine Z 7 rfl ?_
 obtain ⟨r3, hr4, h⟩ := h
 refine st_call (foot := [[(ba0, .cells #[v1, .int .i64 a0.2.1, .int .i64 a0.2.2] 208 (0, 0))]]) rfl rfl rfl rfl rfl rfl (callV_fn z_en156 (lens_Lens_word_ok hr4 σ hs2)) ?_
 rintro vτ5 τ5 gsτ5 hl6 ⟨v7, rfl, rfl, hs8⟩
 refine Z 2 rfl ?_
 obtain rfl := Eq.symm h
 exact st_ret (gs' := [[(ba0, .cells #[v7, .int .i64 r3.2.2.1, .int .i64 r3.2.2.2] 208 (0, 0))]]) Tryd.func138 rfl (List.Sublist.refl _) hl6 ⟨_, rfl, rfl, hs8⟩
theorem lens_Lens_Err_ok {a0 : List Int × Int × Int} {ba0 : Nat} {v1 : Value} {r : Int} (h : lens_Lens_Err a0 r) (σ : Sto) (hs2 : Sl (kI .u8) σ v1 a0.1) :
    Does Tryd.prog 157 [.pointer (some ⟨ba0, 0, none⟩)] σ [[(ba0, .cells [v1, .int .i64 a0.2.1, .int .i64 a0.2.2].toArray 208 (0, 0))]] (fun v τ gs => gs = [[(ba0, .cells [v1, .int .i64 a0.2.1, .int .i64 a0.2.2].toArray 208 (0, 0))]] ∧ .int .i64 r = v) := by
 refine call_of Tryd.func157 Tryd.ntmps157 rfl rfl (fun cs fs => ?_)
 refine ZZ 20 [0] rfl rfl ?_
 obtain rfl := Eq.symm h
 exact st_ret (gs' := [[(ba0, .cells #[v1, .int .i64 a0.2.1, .int .i64 a0.2.2] 208 (0, 0))]]) Tryd.func157 rfl (List.Sublist.refl _) (Sto.Le.refl _) ⟨rfl, rfl⟩
theorem lens_Lens_Left_ok {a0 : List Int × Int × Int} {ba0 : Nat} {v1 : Value} {r : Int} (h : lens_Lens_Left a0 r) (σ : Sto) (hs2 : Sl (kI .u8) σ v1 a0.1) :
    Does Tryd.prog 158 [.pointer (some ⟨ba0, 0, none⟩)] σ [[(ba0, .cells [v1, .int .i64 a0.2.1, .int .i64 a0.2.2].toArray 208 (0, 0))]] (fun v τ gs => gs = [[(ba0, .cells [v1, .int .i64 a0.2.1, .int .i64 a0.2.2].toArray 208 (0, 0))]] ∧ .int .i64 r = v) := by
 refine call_of Tryd.func158 Tryd.ntmps158 rfl rfl (fun cs fs => ?_)
 refine Z 15 rfl ?_
 obtain ⟨r3, hr4, h⟩ := h
 refine st_call (foot := [[(ba0, .cells #[v1, .int .i64 a0.2.1, .int .i64 a0.2.2] 208 (0, 0))]]) rfl rfl rfl rfl rfl rfl (callV_fn z_en170 (lens_Lens_left_ok hr4 σ hs2)) ?_
 rintro vτ5 τ5 gsτ5 hl6 ⟨v7, rfl, rfl, hs8⟩
 refine o_lenI rfl rfl rfl z_slT22 rfl hs8 ?_
 refine Z 2 rfl ?_
 obtain rfl := Eq.symm h
 exact st_ret (gs' := [[(ba0, .cells #[v1, .int .i64 a0.2.1, .int .i64 a0.2.2] 208 (0, 0))]]) Tryd.func158 rfl (List.Sublist.refl _) hl6 ⟨rfl, rfl⟩
theorem lens_Lens_End_ok {a0 : List Int × Int × Int} {ba0 : Nat} {v1 : Value} {r : Int} (h : lens_Lens_End a0 r) (σ : Sto) (hs2 : Sl (kI .u8) σ v1 a0.1) :
    Does Tryd.prog 139 [.pointer (some ⟨ba0, 0, none⟩)] σ [[(ba0, .cells [v1, .int .i64 a0.2.1, .int .i64 a0.2.2].toArray 208 (0, 0))]] (fun v τ gs => gs = [[(ba0, .cells [v1, .int .i64 a0.2.1, .int .i64 a0.2.2].toArray 208 (0, 0))]] ∧ .int .i64 r = v) := by
 refine call_of Tryd.func139 Tryd.ntmps139 rfl rfl (fun cs fs => ?_)
 refine Z 8 rfl ?_
 obtain ⟨r3, hr4, h⟩ := h
 refine st_call (foot := [[(ba0, .cells #[v1, .int .i64 a0.2.1, .int .i64 a0.2.2] 208 (0, 0))]]) rfl rfl rfl rfl rfl rfl (callV_fn z_en157 (lens_Lens_Err_ok hr4 σ hs2)) ?_
 rintro vτ5 τ5 gsτ5 hl6 ⟨rfl, rfl⟩
 refine Z 3 rfl ?_
 refine st_cut (fun ρ τ7 gs => ∃ (s7 : Bool), lens_Lens_End_j1 r3 s7 r ∧ τ5.Le τ7 ∧ ESub ρ [(2, .int .i64 0), (3, .int .i64 r3), (12, .bool s7)] ∧ gs = [[(ba0, .cells #[v1, .int .i64 a0.2.1, .int .i64 a0.2.2] 208 (0, 0))]]) ?_ (fun hk7 => ?_)
 ·rintro ρ7 τ7 gs7 ⟨s7, h, hl7, hρ, rfl⟩
  refine st_es hρ ?_
  refine st_if rfl h (fun h => ?_) (fun h => ?_)
  ·refine Z 5 rfl ?_
   obtain rfl := Eq.symm h
   exact st_ret (gs' := [[(ba0, .cells #[v1, .int .i64 a0.2.1, .int .i64 a0.2.2] 208 (0, 0))]]) Tryd.func139 rfl (List.Sublist.refl _) (hl6.trans hl7) ⟨rfl, rfl⟩
  ·refine Z 5 rfl ?_
   obtain rfl := Eq.symm h
   exact st_ret (gs' := [[(ba0, .cells #[v1, .int .i64 a0.2.1, .int .i64 a0.2.2] 208 (0, 0))]]) Tryd.func139 rfl (List.Sublist.refl _) (hl6.trans hl7) ⟨rfl, rfl⟩
 refine Z 3 rfl ?_
 refine o_mif rfl rfl rfl rfl h (fun h => ?_) (fun h => ?_)
 ·refine Z 5 rfl ?_
  exact hk7 _ _ _ ⟨true, h, (Sto.Le.refl _), rfl, rfl⟩
 ·refine o_move rfl rfl rfl rfl ?_
  obtain ⟨r8, hr9, h⟩ := h
  refine st_call (foot := [[(ba0, .cells #[v1, .int .i64 a0.2.1, .int .i64 a0.2.2] 208 (0, 0))]]) rfl rfl rfl rfl rfl rfl (callV_fn z_en158 (lens_Lens_Left_ok hr9 τ5 (hs2.up hl6))) ?_
  rintro vτ10 τ10 gsτ10 hl11 ⟨rfl, rfl⟩
  refine Z 3 rfl ?_
  exact hk7 _ _ _ ⟨(decide (r8 = 0)), h, hl11, rfl, rfl⟩
theorem head_wrong_1_ok {c0 : Int × Int × Int × Int × Int} {bc0 : Nat} {σ0 : Sto} (hc0_0 : Cel σ0 ⟨bc0, 0, none⟩ (.int .i64 c0.1)) (hc0_1 : Cel σ0 ⟨bc0, 1, none⟩ (.int .i64 c0.2.1)) (hc0_2 : Cel σ0 ⟨bc0, 2, none⟩ (.int .u32 c0.2.2.1)) (hc0_3 : Cel σ0 ⟨bc0, 3, none⟩ (.int .i64 c0.2.2.2.1)) (hc0_4 : Cel σ0 ⟨bc0, 4, none⟩ (.int .i64 c0.2.2.2.2)) :
    IterV Tryd.prog (fun _ x vx => vx = [.int .i64 x.1, .bool x.2]) (.func (.func 171) #[] [.pointer (some ⟨bc0, 0, none⟩)].toArray) σ0 [] (fun (_ : Unit) _ f => f = []) (head_wrong_1 c0) := by
 intro S Y I y hyc hyo hIm hY s s' o hR σ g hle hIg
 obtain ⟨r, hr0⟩ : ∃ r, r = (s', o) := ⟨_, rfl⟩
 rw [← hr0] at hR
 have h := hR
 refine callV_of (caps := [.pointer (some ⟨bc0, 0, none⟩)]) z_en171 ?_
 refine call_of Tryd.func171 Tryd.ntmps171 rfl rfl (fun cs fs => ?_)
 refine st_ord [0] _ rfl ?_
 refine Z 3 rfl ?_
 refine o_loadI (v := .int .i64 c0.1) rfl rfl rfl z_sc3 rfl (Cel.up hc0_0 hle) ?_
 refine o_ibin (v := .bool (decide (c0.1 < 1))) rfl rfl rfl rfl rfl rfl ?_
 refine o_mif rfl rfl rfl rfl h (fun h => ?_) (fun h => ?_)
 ·refine Z 4 rfl ?_
  obtain ⟨y1, u2, hy3, h⟩ := h
  refine st_call (foot := [g]) rfl rfl rfl rfl rfl rfl (hY (10, true) s _ _ _ _ _ (hle.trans (Sto.Le.refl _)) hy3 rfl hIg) ?_
  rintro vτ4 τ4 gsτ4 hl5 ⟨rfl, g6, rfl, hI7⟩
  refine o_mif rfl rfl rfl rfl h (fun h => ?_) (fun h => ?_)
  ·refine Z 2 rfl ?_
   refine o_loadI (v := .int .i64 c0.2.1) rfl rfl rfl z_sc3 rfl (Cel.up hc0_1 (hle.trans hl5)) ?_
   refine o_ibin (v := .bool (decide (c0.2.1 < 1))) rfl rfl rfl rfl rfl rfl ?_
   refine o_mif rfl rfl rfl rfl h (fun h => ?_) (fun h => ?_)
   ·refine Z 4 rfl ?_
    obtain ⟨y8, u9, hy10, h⟩ := h
    refine st_call (foot := [g6]) rfl rfl rfl rfl rfl rfl (hY (9, true) u2 _ _ _ _ _ (hle.trans hl5) hy10 rfl hI7) ?_
    rintro vτ11 τ11 gsτ11 hl12 ⟨rfl, g13, rfl, hI14⟩
    refine o_pick rfl rfl rfl rfl rfl ?_
    refine o_mif rfl rfl rfl rfl h (fun h => ?_) (fun h => ?_)
    ·refine Z 2 rfl ?_
     refine o_loadI (v := .int .i64 c0.2.2.2.2) rfl rfl rfl z_sc3 rfl (Cel.up hc0_4 ((hle.trans hl5).trans hl12)) ?_
     refine o_ibin (v := .bool (decide (c0.2.2.2.2 < 1))) rfl rfl rfl rfl rfl rfl ?_
     refine o_mif rfl rfl rfl rfl h (fun h => ?_) (fun h => ?_)
     ·refine Z 16 rfl ?_
      obtain ⟨y15, u16, hy17, h⟩ := h
      refine st_call (foot := [g13]) rfl rfl rfl rfl rfl rfl (hY (3, true) u9 _ _ _ _ _ (hle.trans (hl5.trans hl12)) hy17 rfl hI14) ?_
      rintro vτ18 τ18 gsτ18 hl19 ⟨rfl, g20, rfl, hI21⟩
      refine Z 2 rfl ?_
      obtain rfl := Eq.symm h
      cases hr0
      exact st_fin (gs' := [g20, []]) Tryd.func171 rfl (by simp) ((hl5.trans hl12).trans hl19) ⟨g20, _, rfl, hI21, rfl⟩
     ·refine o_fieldAddr rfl rfl rfl z_field138_4 rfl ?_
      refine o_loadI (v := .int .i64 c0.2.2.2.2) rfl rfl rfl z_sc3 rfl (Cel.up hc0_4 ((hle.trans hl5).trans hl12)) ?_
      refine Z 2 rfl ?_
      refine o_mif rfl rfl rfl rfl h (fun h => ?_) (fun h => ?_)
      ·refine Z 11 rfl ?_
       obtain ⟨y22, u23, hy24, h⟩ := h
       refine st_call (foot := [g13]) rfl rfl rfl rfl rfl rfl (hY (3, true) u9 _ _ _ _ _ (hle.trans (hl5.trans hl12)) hy24 rfl hI14) ?_
       rintro vτ25 τ25 gsτ25 hl26 ⟨rfl, g27, rfl, hI28⟩
       refine Z 2 rfl ?_
       obtain rfl := Eq.symm h
       cases hr0
       exact st_fin (gs' := [g27, []]) Tryd.func171 rfl (by simp) ((hl5.trans hl12).trans hl26) ⟨g27, _, rfl, hI28, rfl⟩
      ·refine o_fieldAddr rfl rfl rfl z_field138_3 rfl ?_
       refine o_loadI (v := .int .i64 c0.2.2.2.1) rfl rfl rfl z_sc3 rfl (Cel.up hc0_3 ((hle.trans hl5).trans hl12)) ?_
       refine Z 2 rfl ?_
       refine o_mif rfl rfl rfl rfl h (fun h => ?_) (fun h => ?_)
       ·refine Z 6 rfl ?_
        obtain ⟨y29, u30, hy31, h⟩ := h
        refine st_call (foot := [g13]) rfl rfl rfl rfl rfl rfl (hY (3, true) u9 _ _ _ _ _ (hle.trans (hl5.trans hl12)) hy31 rfl hI14) ?_
        rintro vτ32 τ32 gsτ32 hl33 ⟨rfl, g34, rfl, hI35⟩
        refine Z 2 rfl ?_
        obtain rfl := Eq.symm h
        cases hr0
        exact st_fin (gs' := [g34, []]) Tryd.func171 rfl (by simp) ((hl5.trans hl12).trans hl33) ⟨g34, _, rfl, hI35, rfl⟩
       ·refine o_fieldAddr rfl rfl rfl z_field138_3 rfl ?_
        refine o_loadI (v := .int .i64 c0.2.2.2.1) rfl rfl rfl z_sc3 rfl (Cel.up hc0_3 ((hle.trans hl5).trans hl12)) ?_
        refine o_fieldAddr rfl rfl rfl z_field138_4 rfl ?_
        refine o_loadI (v := .int .i64 c0.2.2.2.2) rfl rfl rfl z_sc3 rfl (Cel.up hc0_4 ((hle.trans hl5).trans hl12)) ?_
        refine Z 2 rfl ?_
        obtain ⟨y36, u37, hy38, h⟩ := h
        refine st_call (foot := [g13]) rfl rfl rfl rfl rfl rfl (hY (3, (decide (c0.2.2.2.2 ≤ c0.2.2.2.1))) u9 _ _ _ _ _ (hle.trans (hl5.trans hl12)) hy38 rfl hI14) ?_
        rintro vτ39 τ39 gsτ39 hl40 ⟨rfl, g41, rfl, hI42⟩
        refine Z 2 rfl ?_
        obtain rfl := Eq.symm h
        cases hr0
        exact st_fin (gs' := [g41, []]) Tryd.func171 rfl (by simp) ((hl5.trans hl12).trans hl40) ⟨g41, _, rfl, hI42, rfl⟩
    ·refine Z 24 rfl ?_
     obtain rfl := Eq.symm h
     cases hr0
     exact st_fin (gs' := [g13, []]) Tryd.func171 rfl (by simp) (hl5.trans hl12) ⟨g13, _, rfl, hI14, rfl⟩
   ·refine o_fieldAddr rfl rfl rfl z_field138_1 rfl ?_
    refine o_loadI (v := .int .i64 c0.2.1) rfl rfl rfl z_sc3 rfl (Cel.up hc0_1 (hle.trans hl5)) ?_
    refine Z 2 rfl ?_
    obtain ⟨y43, u44, hy45, h⟩ := h
    refine st_call (foot := [g6]) rfl rfl rfl rfl rfl rfl (hY (9, (decide (5 < c0.2.1))) u2 _ _ _ _ _ (hle.trans hl5) hy45 rfl hI7) ?_
    rintro vτ46 τ46 gsτ46 hl47 ⟨rfl, g48, rfl, hI49⟩
    refine o_pick rfl rfl rfl rfl rfl ?_
    refine o_mif rfl rfl rfl rfl h (fun h => ?_) (fun h => ?_)
    ·refine Z 2 rfl ?_
     refine o_loadI (v := .int .i64 c0.2.2.2.2) rfl rfl rfl z_sc3 rfl (Cel.up hc0_4 ((hle.trans hl5).trans hl47)) ?_
     refine o_ibin (v := .bool (decide (c0.2.2.2.2 < 1))) rfl rfl rfl rfl rfl rfl ?_
     refine o_mif rfl rfl rfl rfl h (fun h => ?_) (fun h => ?_)
     ·refine Z 16 rfl ?_
      obtain ⟨y50, u51, hy52, h⟩ := h
      refine st_call (foot := [g48]) rfl rfl rfl rfl rfl rfl (hY (3, true) u44 _ _ _ _ _ (hle.trans (hl5.trans hl47)) hy52 rfl hI49) ?_
      rintro vτ53 τ53 gsτ53 hl54 ⟨rfl, g55, rfl, hI56⟩
      refine Z 2 rfl ?_
      obtain rfl := Eq.symm h
      cases hr0
      exact st_fin (gs' := [g55, []]) Tryd.func171 rfl (by simp) ((hl5.trans hl47).trans hl54) ⟨g55, _, rfl, hI56, rfl⟩
     ·refine o_fieldAddr rfl rfl rfl z_field138_4 rfl ?_
      refine o_loadI (v := .int .i64 c0.2.2.2.2) rfl rfl rfl z_sc3 rfl (Cel.up hc0_4 ((hle.trans hl5).trans hl47)) ?_
      refine Z 2 rfl ?_
      refine o_mif rfl rfl rfl rfl h (fun h => ?_) (fun h => ?_)
      ·refine Z 11 rfl ?_
       obtain ⟨y57, u58, hy59, h⟩ := h
       refine st_call (foot := [g48]) rfl rfl rfl rfl rfl rfl (hY (3, true) u44 _ _ _ _ _ (hle.trans (hl5.trans hl47)) hy59 rfl hI49) ?_
       rintro vτ60 τ60 gsτ60 hl61 ⟨rfl, g62, rfl, hI63⟩
       refine Z 2 rfl ?_
       obtain rfl := Eq.symm h
       cases hr0
       exact st_fin (gs' := [g62, []]) Tryd.func171 rfl (by simp) ((hl5.trans hl47).trans hl61) ⟨g62, _, rfl, hI63, rfl⟩
      ·refine o_fieldAddr rfl rfl rfl z_field138_3 rfl ?_
       refine o_loadI (v := .int .i64 c0.2.2.2.1) rfl rfl rfl z_sc3 rfl (Cel.up hc0_3 ((hle.trans hl5).trans hl47)) ?_
       refine Z 2 rfl ?_
       refine o_mif rfl rfl rfl rfl h (fun h => ?_) (fun h => ?_)
       ·refine Z 6 rfl ?_
        obtain ⟨y64, u65, hy66, h⟩ := h
        refine st_call (foot := [g48]) rfl rfl rfl rfl rfl rfl (hY (3, true) u44 _ _ _ _ _ (hle.trans (hl5.trans hl47)) hy66 rfl hI49) ?_
        rintro vτ67 τ67 gsτ67 hl68 ⟨rfl, g69, rfl, hI70⟩
        refine Z 2 rfl ?_
        obtain rfl := Eq.symm h
        cases hr0
        exact st_fin (gs' := [g69, []]) Tryd.func171 rfl (by simp) ((hl5.trans hl47).trans hl68) ⟨g69, _, rfl, hI70, rfl⟩
       ·refine o_fieldAddr rfl rfl rfl z_field138_3 rfl ?_
        refine o_loadI (v := .int .i64 c0.2.2.2.1) rfl rfl rfl z_sc3 rfl (Cel.up hc0_3 ((hle.trans hl5).trans hl47)) ?_
        refine o_fieldAddr rfl rfl rfl z_field138_4 rfl ?_
        refine o_loadI (v := .int .i64 c0.2.2.2.2) rfl rfl rfl z_sc3 rfl (Cel.up hc0_4 ((hle.trans hl5).trans hl47)) ?_
        refine Z 2 rfl ?_
        obtain ⟨y71, u72, hy73, h⟩ := h
        refine st_call (foot := [g48]) rfl rfl rfl rfl rfl rfl (hY (3, (decide (c0.2.2.2.2 ≤ c0.2.2.2.1))) u44 _ _ _ _ _ (hle.trans (hl5.trans hl47)) hy73 rfl hI49) ?_
        rintro vτ74 τ74 gsτ74 hl75 ⟨rfl, g76, rfl, hI77⟩
        refine Z 2 rfl ?_
        obtain rfl := Eq.symm h
        cases hr0
        exact st_fin (gs' := [g76, []]) Tryd.func171 rfl (by simp) ((hl5.trans hl47).trans hl75) ⟨g76, _, rfl, hI77, rfl⟩
    ·refine Z 24 rfl ?_
     obtain rfl := Eq.symm h
     cases hr0
     exact st_fin (gs' := [g48, []]) Tryd.func171 rfl (by simp) (hl5.trans hl47) ⟨g48, _, rfl, hI49, rfl⟩
  ·refine Z 36 rfl ?_
   obtain rfl := Eq.symm h
   cases hr0
   exact st_fin (gs' := [g6, []]) Tryd.func171 rfl (by simp) hl5 ⟨g6, _, rfl, hI7, rfl⟩
 ·refine o_fieldAddr rfl rfl rfl z_field138_0 rfl ?_
  refine o_loadI (v := .int .i64 c0.1) rfl rfl rfl z_sc3 rfl (Cel.up hc0_0 hle) ?_
  refine Z 2 rfl ?_
  obtain ⟨y78, u79, hy80, h⟩ := h
  refine st_call (foot := [g]) rfl rfl rfl rfl rfl rfl (hY (10, (decide (2 < c0.1))) s _ _ _ _ _ (hle.trans (Sto.Le.refl _)) hy80 rfl hIg) ?_
  rintro vτ81 τ81 gsτ81 hl82 ⟨rfl, g83, rfl, hI84⟩
  refine o_mif rfl rfl rfl rfl h (fun h => ?_) (fun h => ?_)
  ·refine Z 2 rfl ?_
   refine o_loadI (v := .int .i64 c0.2.1) rfl rfl rfl z_sc3 rfl (Cel.up hc0_1 (hle.trans hl82)) ?_
   refine o_ibin (v := .bool (decide (c0.2.1 < 1))) rfl rfl rfl rfl rfl rfl ?_
   refine o_mif rfl rfl rfl rfl h (fun h => ?_) (fun h => ?_)
   ·refine Z 4 rfl ?_
    obtain ⟨y85, u86, hy87, h⟩ := h
    refine st_call (foot := [g83]) rfl rfl rfl rfl rfl rfl (hY (9, true) u79 _ _ _ _ _ (hle.trans hl82) hy87 rfl hI84) ?_
    rintro vτ88 τ88 gsτ88 hl89 ⟨rfl, g90, rfl, hI91⟩
    refine o_pick rfl rfl rfl rfl rfl ?_
    refine o_mif rfl rfl rfl rfl h (fun h => ?_) (fun h => ?_)
    ·refine Z 2 rfl ?_
     refine o_loadI (v := .int .i64 c0.2.2.2.2) rfl rfl rfl z_sc3 rfl (Cel.up hc0_4 ((hle.trans hl82).trans hl89)) ?_
     refine o_ibin (v := .bool (decide (c0.2.2.2.2 < 1))) rfl rfl rfl rfl rfl rfl ?_
     refine o_mif rfl rfl rfl rfl h (fun h => ?_) (fun h => ?_)
     ·refine Z 16 rfl ?_
      obtain ⟨y92, u93, hy94, h⟩ := h
      refine st_call (foot := [g90]) rfl rfl rfl rfl rfl rfl (hY (3, true) u86 _ _ _ _ _ (hle.trans (hl82.trans hl89)) hy94 rfl hI91) ?_
      rintro vτ95 τ95 gsτ95 hl96 ⟨rfl, g97, rfl, hI98⟩
      refine Z 2 rfl ?_
      obtain rfl := Eq.symm h
      cases hr0
      exact st_fin (gs' := [g97, []]) Tryd.func171 rfl (by simp) ((hl82.trans hl89).trans hl96) ⟨g97, _, rfl, hI98, rfl⟩
     ·refine o_fieldAddr rfl rfl rfl z_field138_4 rfl ?_
      refine o_loadI (v := .int .i64 c0.2.2.2.2) rfl rfl rfl z_sc3 rfl (Cel.up hc0_4 ((hle.trans hl82).trans hl89)) ?_
      refine Z 2 rfl ?_
      refine o_mif rfl rfl rfl rfl h (fun h => ?_) (fun h => ?_)
      ·refine Z 11 rfl ?_
       obtain ⟨y99, u100, hy101, h⟩ := h
       refine st_call (foot := [g90]) rfl rfl rfl rfl rfl rfl (hY (3, true) u86 _ _ _ _ _ (hle.trans (hl82.trans hl89)) hy101 rfl hI91) ?_
       rintro vτ102 τ102 gsτ102 hl103 ⟨rfl, g104, rfl, hI105⟩
       refine Z 2 rfl ?_
       obtain rfl := Eq.symm h
       cases hr0
       exact st_fin (gs' := [g104, []]) Tryd.func171 rfl (by simp) ((hl82.trans hl89).trans hl103) ⟨g104, _, rfl, hI105, rfl⟩
      ·refine o_fieldAddr rfl rfl rfl z_field138_3 rfl ?_
       refine o_loadI (v := .int .i64 c0.2.2.2.1) rfl rfl rfl z_sc3 rfl (Cel.up hc0_3 ((hle.trans hl82).trans hl89)) ?_
       refine Z 2 rfl ?_
       refine o_mif rfl rfl rfl rfl h (fun h => ?_) (fun h => ?_)
       ·refine Z 6 rfl ?_
        obtain ⟨y106, u107, hy108, h⟩ := h
        refine st_call (foot := [g90]) rfl rfl rfl rfl rfl rfl (hY (3, true) u86 _ _ _ _ _ (hle.trans (hl82.trans hl89)) hy108 rfl hI91) ?_
        rintro vτ109 τ109 gsτ109 hl110 ⟨rfl, g111, rfl, hI112⟩
        refine Z 2 rfl ?_
        obtain rfl := Eq.symm h
        cases hr0
        exact st_fin (gs' := [g111, []]) Tryd.func171 rfl (by simp) ((hl82.trans hl89).trans hl110) ⟨g111, _, rfl, hI112, rfl⟩
       ·refine o_fieldAddr rfl rfl rfl z_field138_3 rfl ?_
        refine o_loadI (v := .int .i64 c0.2.2.2.1) rfl rfl rfl z_sc3 rfl (Cel.up hc0_3 ((hle.trans hl82).trans hl89)) ?_
        refine o_fieldAddr rfl rfl rfl z_field138_4 rfl ?_
        refine o_loadI (v := .int .i64 c0.2.2.2.2) rfl rfl rfl z_sc3 rfl (Cel.up hc0_4 ((hle.trans hl82).trans hl89)) ?_
        refine Z 2 rfl ?_
        obtain ⟨y113, u114, hy115, h⟩ := h
        refine st_call (foot := [g90]) rfl rfl rfl rfl rfl rfl (hY (3, (decide (c0.2.2.2.2 ≤ c0.2.2.2.1))) u86 _ _ _ _ _ (hle.trans (hl82.trans hl89)) hy115 rfl hI91) ?_
        rintro vτ116 τ116 gsτ116 hl117 ⟨rfl, g118, rfl, hI119⟩
        refine Z 2 rfl ?_
        obtain rfl := Eq.symm h
        cases hr0
        exact st_fin (gs' := [g118, []]) Tryd.func171 rfl (by simp) ((hl82.trans hl89).trans hl117) ⟨g118, _, rfl, hI119, rfl⟩
    ·refine Z 24 rfl ?_
     obtain rfl := Eq.symm h
     cases hr0
     exact st_fin (gs' := [g90, []]) Tryd.func171 rfl (by simp) (hl82.trans hl89) ⟨g90, _, rfl, hI91, rfl⟩
   ·refine o_fieldAddr rfl rfl rfl z_field138_1 rfl ?_
    refine o_loadI (v := .int .i64 c0.2.1) rfl rfl rfl z_sc3 rfl (Cel.up hc0_1 (hle.trans hl82)) ?_
    refine Z 2 rfl ?_
    obtain ⟨y120, u121, hy122, h⟩ := h
    refine st_call (foot := [g83]) rfl rfl rfl rfl rfl rfl (hY (9, (decide (5 < c0.2.1))) u79 _ _ _ _ _ (hle.trans hl82) hy122 rfl hI84) ?_
    rintro vτ123 τ123 gsτ123 hl124 ⟨rfl, g125, rfl, hI126⟩
    refine o_pick rfl rfl rfl rfl rfl ?_
    refine o_mif rfl rfl rfl rfl h (fun h => ?_) (fun h => ?_)
    ·refine Z 2 rfl ?_
     refine o_loadI (v := .int .i64 c0.2.2.2.2) rfl rfl rfl z_sc3 rfl (Cel.up hc0_4 ((hle.trans hl82).trans hl124)) ?_
     refine o_ibin (v := .bool (decide (c0.2.2.2.2 < 1))) rfl rfl rfl rfl rfl rfl ?_
     refine o_mif rfl rfl rfl rfl h (fun h => ?_) (fun h => ?_)
     ·refine Z 16 rfl ?_
      obtain ⟨y127, u128, hy129, h⟩ := h
      refine st_call (foot := [g125]) rfl rfl rfl rfl rfl rfl (hY (3, true) u121 _ _ _ _ _ (hle.trans (hl82.trans hl124)) hy129 rfl hI126) ?_
      rintro vτ130 τ130 gsτ130 hl131 ⟨rfl, g132, rfl, hI133⟩
      refine Z 2 rfl ?_
      obtain rfl := Eq.symm h
      cases hr0
      exact st_fin (gs' := [g132, []]) Tryd.func171 rfl (by simp) ((hl82.trans hl124).trans hl131) ⟨g132, _, rfl, hI133, rfl⟩
     ·refine o_fieldAddr rfl rfl rfl z_field138_4 rfl ?_
      refine o_loadI (v := .int .i64 c0.2.2.2.2) rfl rfl rfl z_sc3 rfl (Cel.up hc0_4 ((hle.trans hl82).trans hl124)) ?_
      refine Z 2 rfl ?_
      refine o_mif rfl rfl rfl rfl h (fun h => ?_) (fun h => ?_)
      ·refine Z 11 rfl ?_
       obtain ⟨y134, u135, hy136, h⟩ := h
       refine st_call (foot := [g125]) rfl rfl rfl rfl rfl rfl (hY (3, true) u121 _ _ _ _ _ (hle.trans (hl82.trans hl124)) hy136 rfl hI126) ?_
       rintro vτ137 τ137 gsτ137 hl138 ⟨rfl, g139, rfl, hI140⟩
       refine Z 2 rfl ?_
       obtain rfl := Eq.symm h
       cases hr0
       exact st_fin (gs' := [g139, []]) Tryd.func171 rfl (by simp) ((hl82.trans hl124).trans hl138) ⟨g139, _, rfl, hI140, rfl⟩
      ·refine o_fieldAddr rfl rfl rfl z_field138_3 rfl ?_
       refine o_loadI (v := .int .i64 c0.2.2.2.1) rfl rfl rfl z_sc3 rfl (Cel.up hc0_3 ((hle.trans hl82).trans hl124)) ?_
       refine Z 2 rfl ?_
       refine o_mif rfl rfl rfl rfl h (fun h => ?_) (fun h => ?_)
       ·refine Z 6 rfl ?_
        obtain ⟨y141, u142, hy143, h⟩ := h
        refine st_call (foot := [g125]) rfl rfl rfl rfl rfl rfl (hY (3, true) u121 _ _ _ _ _ (hle.trans (hl82.trans hl124)) hy143 rfl hI126) ?_
        rintro vτ144 τ144 gsτ144 hl145 ⟨rfl, g146, rfl, hI147⟩
        refine Z 2 rfl ?_
        obtain rfl := Eq.symm h
        cases hr0
        exact st_fin (gs' := [g146, []]) Tryd.func171 rfl (by simp) ((hl82.trans hl124).trans hl145) ⟨g146, _, rfl, hI147, rfl⟩
       ·refine o_fieldAddr rfl rfl rfl z_field138_3 rfl ?_
        refine o_loadI (v := .int .i64 c0.2.2.2.1) rfl rfl rfl z_sc3 rfl (Cel.up hc0_3 ((hle.trans hl82).trans hl124)) ?_
        refine o_fieldAddr rfl rfl rfl z_field138_4 rfl ?_
        refine o_loadI (v := .int .i64 c0.2.2.2.2) rfl rfl rfl z_sc3 rfl (Cel.up hc0_4 ((hle.trans hl82).trans hl124)) ?_
        refine Z 2 rfl ?_
        obtain ⟨y148, u149, hy150, h⟩ := h
        refine st_call (foot := [g125]) rfl rfl rfl rfl rfl rfl (hY (3, (decide (c0.2.2.2.2 ≤ c0.2.2.2.1))) u121 _ _ _ _ _ (hle.trans (hl82.trans hl124)) hy150 rfl hI126) ?_
        rintro vτ151 τ151 gsτ151 hl152 ⟨rfl, g153, rfl, hI154⟩
        refine Z 2 rfl ?_
        obtain rfl := Eq.symm h
        cases hr0
        exact st_fin (gs' := [g153, []]) Tryd.func171 rfl (by simp) ((hl82.trans hl124).trans hl152) ⟨g153, _, rfl, hI154, rfl⟩
    ·refine Z 24 rfl ?_
     obtain rfl := Eq.symm h
     cases hr0
     exact st_fin (gs' := [g125, []]) Tryd.func171 rfl (by simp) (hl82.trans hl124) ⟨g125, _, rfl, hI126, rfl⟩
  ·refine Z 36 rfl ?_
   obtain rfl := Eq.symm h
   cases hr0
   exact st_fin (gs' := [g83, []]) Tryd.func171 rfl (by simp) hl82 ⟨g83, _, rfl, hI84, rfl⟩
theorem head_wrong_ok {a0 : Int × Int × Int × Int × Int} {r : (((S : Type) → ((Int × Bool) → S → Bool × S → Prop) → S → S × Unit → Prop))} (h : head_wrong a0 r) (σ : Sto)  :
    Does Tryd.prog 159 [.agg [.int .i64 a0.1, .int .i64 a0.2.1, .int .u32 a0.2.2.1, .int .i64 a0.2.2.2.1, .int .i64 a0.2.2.2.2].toArray] σ [] (fun v τ gs => ∃ (f5 : Nat) (q6 : Array Value), gs = [] ∧ .func (.func f5) #[] q6 = v ∧ IterV Tryd.prog (fun _ x vx => vx = [.int .i64 x.1, .bool x.2]) (.func (.func f5) #[] q6) τ [] (fun (_ : Unit) _ f => f = []) r) := by
 refine call_of Tryd.func159 Tryd.ntmps159 rfl rfl (fun cs fs => ?_)
 refine Z 2 rfl ?_
 refine o_boxC rfl rfl rfl rfl rfl rfl (fun b1 => ?_)
 refine Z 4 rfl ?_
 refine st_freeze (fun τ2 hl3 hg4 => ?_)
 refine Z 3 rfl ?_
 obtain rfl := Eq.symm h
 exact st_ret (gs' := []) Tryd.func159 rfl (List.Sublist.refl _) hl3 ⟨_, _, rfl, rfl, (head_wrong_1_ok (cel_of hg4 rfl) (cel_of hg4 rfl) (cel_of hg4 rfl) (cel_of hg4 rfl) (cel_of hg4 rfl))⟩
theorem head_Check_ok {a0 : Int × Int × Int × Int × Int} {r : Int} (h : head_Check a0 r) (σ : Sto)  :
    Does Tryd.prog 140 [.agg [.int .i64 a0.1, .int .i64 a0.2.1, .int .u32 a0.2.2.1, .int .i64 a0.2.2.2.1, .int .i64 a0.2.2.2.2].toArray] σ [] (fun v τ gs => gs = [] ∧ .int .i64 r = v) := by
 refine call_of Tryd.func140 Tryd.ntmps140 rfl rfl (fun cs fs => ?_)
 refine Z 2 rfl ?_
 refine o_boxC rfl rfl rfl rfl rfl rfl (fun b1 => ?_)
 refine Z 5 rfl ?_
 refine o_alloc rfl rfl rfl z_zero24 (fun b2 => ?_)
 refine ZZ 5 [0] rfl rfl ?_
 refine st_cut (fun ρ τ3 gs => ∃ (s3 : Int), head_Check_j1 s3 r ∧ σ.Le τ3 ∧ ESub ρ [(2, .int .i64 0), (3, .pointer (some ⟨b2, 0, none⟩))] ∧ gs = [[(b2, .cells #[.int .i64 s3] 24 (0, 0))]]) ?_ (fun hk3 => ?_)
 ·rintro ρ3 τ3 gs3 ⟨s3, h, hl3, hρ, rfl⟩
  refine st_es hρ ?_
  refine ZZ 5 [0] rfl rfl ?_
  refine st_ord [] _ rfl ?_
  obtain rfl := Eq.symm h
  exact st_ret (gs' := []) Tryd.func140 rfl (List.Sublist.refl _) hl3 ⟨rfl, rfl⟩
 refine ZZ 3 [1] rfl rfl ?_
 obtain ⟨r4, hr5, h⟩ := h
 refine st_call (foot := []) rfl rfl rfl rfl rfl rfl (callV_fn z_en159 (head_wrong_ok hr5 σ)) ?_
 rintro vτ6 τ6 gsτ6 hl7 ⟨f8, q9, rfl, rfl, hit10⟩
 refine Z 2 rfl ?_
 obtain ⟨t11, w11, hR11, hA11⟩ := h
 refine st_env (ρ' := [(2, .int .i64 0), (3, .pointer (some ⟨b2, 0, none⟩)), (7, .func (.func f8) #[] q9)]) ⟨rfl, rfl, rfl, trivial⟩ ?_
 refine st_ord [0] _ rfl ?_
 refine st_addNil ?_
 refine st_range (B := head_Check_l2) (s0 := ()) ranges_fctx rfl hit10 (Sto.Le.refl _) hR11 rfl (fun _ _ _ h => by cases h; rfl) (fun (s11 : Unit) τ11 gs => τ6.Le τ11 ∧ gs = [[(b2, .cells #[.int .i64 0] 24 (0, 0))]]) (fun (p12 : Int) cd τ13 gs => cd = .exit 0 ∧ τ6.Le τ13 ∧ gs = [[(b2, .cells #[.int .i64 p12] 24 (0, 0))]]) (fun _ _ _ _ hl ⟨hb, hg⟩ => ⟨hb.trans hl, hg⟩) (fun _ _ _ _ _ hl ⟨hc, hb, hg⟩ => ⟨hc, hb.trans hl, hg⟩) ⟨Sto.Le.refl _, rfl⟩ ?_ ?_ ?_
 ·rintro x11 s11 o11 τ11 gs11 vx11 hl11 h rfl ⟨hb11, rfl⟩ l11 rc11 caller11 cs11 fs11
  refine Z 7 rfl ?_
  refine st_begin ?_
  refine Z 5 rfl ?_
  refine st_if rfl h (fun h => ?_) (fun h => ?_)
  ·refine ZZ 5 [0] rfl rfl ?_
   exact st_rexit rfl (List.Sublist.refl _) (Sto.Le.refl _) ⟨_, h, rfl, hl11, rfl⟩
  ·refine Z 2 rfl ?_
   exact st_rend (List.Sublist.refl _) (Sto.Le.refl _) ⟨_, h, hl11, rfl⟩
 ·rintro p15 τ16 gs11 f11 ht hl17 ⟨hb, rfl⟩ rfl
  subst ht
  replace h := hA11
  refine st_ord [1] _ rfl ?_
  refine st_inBlock ?_
  exact hk3 _ _ _ ⟨0, h, (hl7.trans hl17), rfl, rfl⟩
 ·rintro p12 cd11 τ13 gs11 f11 ht hl14 ⟨rfl, hb, rfl⟩ rfl
  subst ht
  replace h := hA11
  refine st_ord [1] _ rfl ?_
  refine st_exit rfl ?_
  exact hk3 _ _ _ ⟨p12, h, (hl7.trans hl14), rfl, rfl⟩
theorem head_Parse_ok {a0 : List Int} {v1 : Value} {r : (Int × Int × Int × Int × Int) × Int} (h : head_Parse a0 r) (σ : Sto) (hs2 : Sl (kI .u8) σ v1 a0) :
    Does Tryd.prog 117 [v1] σ [] (fun v τ gs => gs = [] ∧ .tuple [.agg [.int .i64 r.1.1, .int .i64 r.1.2.1, .int .u32 r.1.2.2.1, .int .i64 r.1.2.2.2.1, .int .i64 r.1.2.2.2.2].toArray, .int .i64 r.2].toArray = v) := by
 refine call_of Tryd.func117 Tryd.ntmps117 rfl rfl (fun cs fs => ?_)
 refine Z 2 rfl ?_
 refine o_alloc rfl rfl rfl z_zero138 (fun b3 => ?_)
 refine Z 6 rfl ?_
 refine o_lenI rfl rfl rfl z_slT22 rfl hs2 ?_
 refine Z 2 rfl ?_
 refine st_if rfl h (fun h => ?_) (fun h => ?_)
 ·refine ZZ 6 [0] rfl rfl ?_
  obtain rfl := Eq.symm h
  exact st_retC (gs' := []) [.agg #[.int .i64 0, .int .i64 0, .int .u32 0, .int .i64 0, .int .i64 0], .int .i64 13] Tryd.func117 ⟨⟨_, _, _, _, rfl, mem_flat 0 rfl, fun w hw => cellOfN (vs := [.int .i64 0, .int .i64 0, .int .u32 0, .int .i64 0, .int .i64 0]) z_agg138 rfl w hw⟩, rfl, trivial⟩ (by simp) (Sto.Le.refl _) ⟨rfl, rfl⟩
 ·refine Z 4 rfl ?_
  obtain ⟨r4, hr5, h⟩ := h
  refine st_call (foot := []) rfl rfl rfl rfl rfl rfl (callV_fn z_en136 (lens_New_ok hr5 σ hs2)) ?_
  rintro vτ6 τ6 gsτ6 hl7 ⟨b8, v9, rfl, rfl, hs10⟩
  refine Z 5 rfl ?_
  obtain ⟨r11, hr12, h⟩ := h
  refine st_call (foot := [[(b8, .cells #[v9, .int .i64 r4.2.1, .int .i64 r4.2.2] 208 (0, 0))]]) rfl rfl rfl rfl rfl rfl (callV_fn z_en137 (lens_Lens_U8_ok hr12 τ6 hs10)) ?_
  rintro vτ13 τ13 gsτ13 hl14 ⟨v15, rfl, rfl, hs16⟩
  refine Z 2 rfl ?_
  obtain ⟨r17, hr18, h⟩ := h
  refine st_call (foot := [[(b8, .cells #[v15, .int .i64 r11.2.2.1, .int .i64 r11.2.2.2] 208 (0, 0))]]) rfl rfl rfl rfl rfl rfl (callV_fn z_en137 (lens_Lens_U8_ok hr18 τ13 hs16)) ?_
  rintro vτ19 τ19 gsτ19 hl20 ⟨v21, rfl, rfl, hs22⟩
  refine Z 2 rfl ?_
  obtain ⟨r23, hr24, h⟩ := h
  refine st_call (foot := [[(b8, .cells #[v21, .int .i64 r17.2.2.1, .int .i64 r17.2.2.2] 208 (0, 0))]]) rfl rfl rfl rfl rfl rfl (callV_fn z_en138 (lens_Lens_U32_ok hr24 τ19 hs22)) ?_
  rintro vτ25 τ25 gsτ25 hl26 ⟨v27, rfl, rfl, hs28⟩
  refine o_move rfl rfl rfl rfl ?_
  obtain ⟨r29, hr30, h⟩ := h
  refine st_call (foot := [[(b8, .cells #[v27, .int .i64 r23.2.2.1, .int .i64 r23.2.2.2] 208 (0, 0))]]) rfl rfl rfl rfl rfl rfl (callV_fn z_en137 (lens_Lens_U8_ok hr30 τ25 hs28)) ?_
  rintro vτ31 τ31 gsτ31 hl32 ⟨v33, rfl, rfl, hs34⟩
  refine Z 2 rfl ?_
  obtain ⟨r35, hr36, h⟩ := h
  refine st_call (foot := [[(b8, .cells #[v33, .int .i64 r29.2.2.1, .int .i64 r29.2.2.2] 208 (0, 0))]]) rfl rfl rfl rfl rfl rfl (callV_fn z_en137 (lens_Lens_U8_ok hr36 τ31 hs34)) ?_
  rintro vτ37 τ37 gsτ37 hl38 ⟨v39, rfl, rfl, hs40⟩
  refine ZZ 2 [] rfl rfl ?_
  refine o_alloc rfl rfl rfl z_zero138 (fun b41 => ?_)
  refine ZZ 5 [0] rfl rfl ?_
  obtain ⟨r42, hr43, h⟩ := h
  refine st_ord [1, 0, 0] _ rfl ?_
  refine st_call (foot := [[(b8, .cells #[v39, .int .i64 r35.2.2.1, .int .i64 r35.2.2.2] 208 (0, 0))]]) rfl rfl rfl rfl rfl rfl (callV_fn z_en139 (lens_Lens_End_ok hr43 τ37 hs40)) ?_
  rintro vτ44 τ44 gsτ44 hl45 ⟨rfl, rfl⟩
  refine Z 3 rfl ?_
  refine st_cut (fun ρ τ46 gs => ∃ (s46 : Int), head_Parse_j1 r11 r17 r23 r29 r35 s46 r ∧ τ44.Le τ46 ∧ ESub ρ [(2, .pointer (some ⟨b3, 0, none⟩)), (3, .int .i64 0), (5, .pointer (some ⟨b41, 0, none⟩)), (6, .int .i64 s46)] ∧ gs = [[(b3, .cells #[.int .i64 0, .int .i64 0, .int .u32 0, .int .i64 0, .int .i64 0] 138 (0, 0))], [(b41, .cells #[.int .i64 (IntKind.i64.wrap r11.1), .int .i64 (IntKind.i64.wrap r17.1), .int .u32 r23.1, .int .i64 (IntKind.i64.wrap r29.1), .int .i64 (IntKind.i64.wrap r35.1)] 138 (0, 0))]]) ?_ (fun hk46 => ?_)
  ·rintro ρ46 τ46 gs46 ⟨s46, h, hl46, hρ, rfl⟩
   refine st_es hρ ?_
   refine Z 6 rfl ?_
   refine st_if rfl h (fun h => ?_) (fun h => ?_)
   ·refine ZZ 7 [0] rfl rfl ?_
    obtain rfl := Eq.symm h
    exact st_retC (gs' := []) [.agg #[.int .i64 0, .int .i64 0, .int .u32 0, .int .i64 0, .int .i64 0], .int .i64 s46] Tryd.func117 ⟨⟨_, _, _, _, rfl, mem_flat 0 rfl, fun w hw => cellOfN (vs := [.int .i64 0, .int .i64 0, .int .u32 0, .int .i64 0, .int .i64 0]) z_agg138 rfl w hw⟩, rfl, trivial⟩ (by simp) (((((((hl7.trans hl14).trans hl20).trans hl26).trans hl32).trans hl38).trans hl45).trans hl46) ⟨rfl, rfl⟩
   ·refine ZZ 7 [1, 0] rfl rfl ?_
    obtain rfl := Eq.symm h
    exact st_retC (gs' := []) [.agg #[.int .i64 (IntKind.i64.wrap r11.1), .int .i64 (IntKind.i64.wrap r17.1), .int .u32 r23.1, .int .i64 (IntKind.i64.wrap r29.1), .int .i64 (IntKind.i64.wrap r35.1)], .int .i64 0] Tryd.func117 ⟨⟨_, _, _, _, rfl, mem_flat 0 rfl, fun w hw => cellOfN (vs := [.int .i64 (IntKind.i64.wrap r11.1), .int .i64 (IntKind.i64.wrap r17.1), .int .u32 r23.1, .int .i64 (IntKind.i64.wrap r29.1), .int .i64 (IntKind.i64.wrap r35.1)]) z_agg138 rfl w hw⟩, rfl, trivial⟩ (by simp) (((((((hl7.trans hl14).trans hl20).trans hl26).trans hl32).trans hl38).trans hl45).trans hl46) ⟨rfl, rfl⟩
  refine Z 5 rfl ?_
  refine st_if rfl h (fun h => ?_) (fun h => ?_)
  ·refine ZZ 2 [1] rfl rfl ?_
   obtain ⟨r47, hr48, h⟩ := h
   refine st_call (foot := []) rfl rfl rfl rfl rfl rfl (callV_fn z_en140 (head_Check_ok hr48 τ44)) ?_
   rintro vτ49 τ49 gsτ49 hl50 ⟨rfl, rfl⟩
   refine Z 2 rfl ?_
   refine st_ord [2, 1] _ rfl ?_
   exact hk46 _ _ _ ⟨r47, h, hl50, rfl, rfl⟩
  ·refine st_skip ?_
   refine st_ord [2, 1] _ rfl ?_
   exact hk46 _ _ _ ⟨r42, h, (Sto.Le.refl _), rfl, rfl⟩
theorem frame_Codec_Unpack_ok {a0 : List Int} {a1 : List Int} {bi3 : Nat} {bi1 : Nat} {v5 : Value} {r : ((Int × Int × Int × Int × Int) × List Int) × Int} (h : frame_Codec_Unpack a0 a1 r) (σ : Sto) (hc4 : CelN σ ⟨bi3, 0, none⟩ (cellsN (Value.int .u32) 0 1024 a0)) (hc2 : CelN σ ⟨bi1, 0, none⟩ [.pointer (some ⟨bi3, 0, none⟩)]) (hs6 : Sl (kI .u8) σ v5 a1) :
    Does Tryd.prog 94 [.pointer (some ⟨bi1, 0, none⟩), v5] σ [] (fun v τ gs => ∃ (v33 : Value), gs = [] ∧ .tuple [.agg [.int .i64 r.1.1.1, .int .i64 r.1.1.2.1, .int .u32 r.1.1.2.2.1, .int .i64 r.1.1.2.2.2.1, .int .i64 r.1.1.2.2.2.2, v33].toArray, .int .i64 r.2].toArray = v ∧ Sl (kI .u8) τ v33 r.1.2) := by
 refine call_of Tryd.func94 Tryd.ntmps94 rfl rfl (fun cs fs => ?_)
 refine Z 2 rfl ?_
 refine o_alloc rfl rfl rfl z_zero140 (fun b7 => ?_)
 refine Z 14 rfl ?_
 refine o_lenI rfl rfl rfl z_slT22 rfl hs6 ?_
 refine Z 3 rfl ?_
 refine st_if rfl h (fun h => ?_) (fun h => ?_)
 ·refine ZZ 6 [0] rfl rfl ?_
  obtain rfl := Eq.symm h
  exact st_retC (gs' := []) [.agg #[.int .i64 0, .int .i64 0, .int .u32 0, .int .i64 0, .int .i64 0, .slice none 0 0], .int .i64 2] Tryd.func94 ⟨⟨_, _, _, _, rfl, mem_flat 0 rfl, fun w hw => cellOfN (vs := [.int .i64 0, .int .i64 0, .int .u32 0, .int .i64 0, .int .i64 0, .slice none 0 0]) z_agg140 rfl w hw⟩, rfl, trivial⟩ (by simp) (Sto.Le.refl _) ⟨_, rfl, rfl, Sl.nil⟩
 ·refine Z 5 rfl ?_
  obtain ⟨r8, hr9, h⟩ := h
  refine st_call (foot := []) rfl rfl rfl rfl rfl rfl (callV_fn z_en115 (cobs_Decode_ok hr9 σ hs6)) ?_
  rintro vτ10 τ10 gsτ10 hl11 ⟨v12, rfl, rfl, hs13⟩
  refine Z 14 rfl ?_
  refine st_if rfl h (fun h => ?_) (fun h => ?_)
  ·refine ZZ 7 [0] rfl rfl ?_
   obtain rfl := Eq.symm h
   exact st_retC (gs' := []) [.agg #[.int .i64 0, .int .i64 0, .int .u32 0, .int .i64 0, .int .i64 0, .slice none 0 0], .int .i64 r8.2] Tryd.func94 ⟨⟨_, _, _, _, rfl, mem_flat 0 rfl, fun w hw => cellOfN (vs := [.int .i64 0, .int .i64 0, .int .u32 0, .int .i64 0, .int .i64 0, .slice none 0 0]) z_agg140 rfl w hw⟩, rfl, trivial⟩ (by simp) hl11 ⟨_, rfl, rfl, Sl.nil⟩
  ·refine Z 3 rfl ?_
   refine o_lenI rfl rfl rfl z_slT22 rfl hs13 ?_
   refine Z 3 rfl ?_
   refine st_if rfl h (fun h => ?_) (fun h => ?_)
   ·refine ZZ 6 [0] rfl rfl ?_
    obtain rfl := Eq.symm h
    exact st_retC (gs' := []) [.agg #[.int .i64 0, .int .i64 0, .int .u32 0, .int .i64 0, .int .i64 0, .slice none 0 0], .int .i64 13] Tryd.func94 ⟨⟨_, _, _, _, rfl, mem_flat 0 rfl, fun w hw => cellOfN (vs := [.int .i64 0, .int .i64 0, .int .u32 0, .int .i64 0, .int .i64 0, .slice none 0 0]) z_agg140 rfl w hw⟩, rfl, trivial⟩ (by simp) hl11 ⟨_, rfl, rfl, Sl.nil⟩
   ·refine Z 8 rfl ?_
    refine o_loadI (v := .pointer (some ⟨bi3, 0, none⟩)) rfl rfl rfl z_sc156 rfl ((hc2.up hl11) 0 _ rfl) ?_
    refine o_move rfl rfl rfl rfl ?_
    obtain ⟨r14, hr15, h⟩ := h
    refine st_call (foot := []) rfl rfl rfl rfl rfl rfl (callV_fn z_en116 (crc_Open_ok hr15 τ10 (hc4.up hl11) hs13)) ?_
    rintro vτ16 τ16 gsτ16 hl17 ⟨v18, rfl, rfl, hs19⟩
    refine Z 11 rfl ?_
    refine st_if rfl h (fun h => ?_) (fun h => ?_)
    ·refine ZZ 7 [0] rfl rfl ?_
     obtain rfl := Eq.symm h
     exact st_retC (gs' := []) [.agg #[.int .i64 0, .int .i64 0, .int .u32 0, .int .i64 0, .int .i64 0, .slice none 0 0], .int .i64 r14.2] Tryd.func94 ⟨⟨_, _, _, _, rfl, mem_flat 0 rfl, fun w hw => cellOfN (vs := [.int .i64 0, .int .i64 0, .int .u32 0, .int .i64 0, .int .i64 0, .slice none 0 0]) z_agg140 rfl w hw⟩, rfl, trivial⟩ (by simp) (hl11.trans hl17) ⟨_, rfl, rfl, Sl.nil⟩
    ·refine Z 4 rfl ?_
     obtain ⟨hf20, h⟩ := h
     refine o_slice (L := 0) (H := 8) rfl rfl rfl z_slT22 rfl rfl hs19 rfl ⟨_, rfl⟩ (by decide) (by decide) hf20 trivial (by simp) (fun v21 hs22 => ?_)
     obtain ⟨r23, hr24, h⟩ := h
     refine st_call (foot := []) rfl rfl rfl rfl rfl rfl (callV_fn z_en117 (head_Parse_ok hr24 τ16 hs22)) ?_
     rintro vτ25 τ25 gsτ25 hl26 ⟨rfl, rfl⟩
     refine Z 3 rfl ?_
     refine o_alloc rfl rfl rfl z_zero138 (fun b27 => ?_)
     refine ZZ 9 [0] rfl rfl ?_
     refine st_if rfl h (fun h => ?_) (fun h => ?_)
     ·refine ZZ 7 [1] rfl rfl ?_
      obtain rfl := Eq.symm h
      exact st_retC (gs' := []) [.agg #[.int .i64 0, .int .i64 0, .int .u32 0, .int .i64 0, .int .i64 0, .slice none 0 0], .int .i64 r23.2] Tryd.func94 ⟨⟨_, _, _, _, rfl, mem_flat 1 rfl, fun w hw => cellOfN (vs := [.int .i64 0, .int .i64 0, .int .u32 0, .int .i64 0, .int .i64 0, .slice none 0 0]) z_agg140 rfl w hw⟩, rfl, trivial⟩ (by simp) ((hl11.trans hl17).trans hl26) ⟨_, rfl, rfl, Sl.nil⟩
     ·refine Z 2 rfl ?_
      obtain ⟨hf28, hf29, h⟩ := h
      refine st_draw 4 (dl [.v (.agg #[.int .i64 r23.1.1, .int .i64 r23.1.2.1, .int .u32 r23.1.2.2.1, .int .i64 r23.1.2.2.2.1, .int .i64 r23.1.2.2.2.2]), .v (v18), .t fun τ v => ∃ (v30 : Value), (v30 : Value) = v ∧ Sl (kI .u8) τ v30 ((r14.1.drop (8 : Int).toNat).take (((r14.1.length : Int) : Int) - 8).toNat), .t fun τ v => ∃ (v30 : Value), (.agg #[.int .i64 r23.1.1, .int .i64 r23.1.2.1, .int .u32 r23.1.2.2.1, .int .i64 r23.1.2.2.2.1, .int .i64 r23.1.2.2.2.2, v30] : Value) = v ∧ Sl (kI .u8) τ v30 ((r14.1.drop (8 : Int).toNat).take (((r14.1.length : Int) : Int) - 8).toNat)]) (fun _ _ => []) z_mix rfl (dl_mono ⟨fun _ _ _ hl ⟨v30, hv, hs31⟩ => ⟨v30, hv, hs31.up hl⟩, ⟨fun _ _ _ hl ⟨v30, hv, hs31⟩ => ⟨v30, hv, hs31.up hl⟩, trivial⟩⟩) (allB_cons (allB_cons (allB_cons (allB_cons allB_nil ?_) (p1 dA)) ?_) ?_) ?_
      ·intro ρ' τ pool rs hl hd hout hk
       refine o_loadN (j := 0) (vs := [.int .i64 r23.1.1, .int .i64 r23.1.2.1, .int .u32 r23.1.2.2.1, .int .i64 r23.1.2.2.2.1, .int .i64 r23.1.2.2.2.2]) rfl rfl rfl z_agg138 ((hout 8 rfl).trans rfl) rfl rfl ?_
       exact st_addNil (hk _ _ (Sto.Le.refl _) rfl)
      ·intro ρ' τ pool rs hl hd hout hk
       obtain ⟨_, e1, rfl⟩ := hd 1 rfl
       refine o_slice (L := 8) (H := (r14.1.length : Int)) rfl rfl rfl z_slT22 rfl e1 (hs19.up (hl26.trans hl)) ⟨_, rfl⟩ rfl (by decide) hf28 hf29 trivial (by simp) (fun v30 hs31 => ?_)
       exact st_addNil (hk _ _ (Sto.Le.refl _) ⟨v30, rfl, hs31⟩)
      ·intro ρ' τ pool rs hl hd hout hk
       obtain ⟨_, e0, rfl⟩ := hd 0 rfl
       obtain ⟨_, e2, v30, rfl, hs31⟩ := hd 2 rfl
       refine o_build (ps := [(0, [.int .i64 r23.1.1, .int .i64 r23.1.2.1, .int .u32 r23.1.2.2.1, .int .i64 r23.1.2.2.2.1, .int .i64 r23.1.2.2.2.2]), (1, [v30])]) (cs := [.int .i64 r23.1.1, .int .i64 r23.1.2.1, .int .u32 r23.1.2.2.1, .int .i64 r23.1.2.2.2.1, .int .i64 r23.1.2.2.2.2, v30]) rfl rfl rfl z_struct140 ⟨rfl, ⟨_, e0, rfl⟩, ⟨rfl, ⟨_, e2, (oneL_sl hs31)⟩, trivial⟩⟩ rfl ?_
       exact st_addNil (hk _ _ (Sto.Le.refl _) ⟨v30, rfl, hs31⟩)
      intro ρ' τ32 vals hl32 hv hout
      obtain ⟨l3, v30, t3, hs31⟩ := hv 3 (by decide)
      replace l3 : Eng.look ρ' 59 = some (.agg #[.int .i64 r23.1.1, .int .i64 r23.1.2.1, .int .u32 r23.1.2.2.1, .int .i64 r23.1.2.2.2.1, .int .i64 r23.1.2.2.2.2, v30]) := l3.trans (congrArg some (Eq.symm t3))
      refine st_ord [0, 0] _ rfl ?_
      refine st_env (ρ' := [(59, .agg #[.int .i64 r23.1.1, .int .i64 r23.1.2.1, .int .u32 r23.1.2.2.1, .int .i64 r23.1.2.2.2.1, .int .i64 r23.1.2.2.2.2, v30]), (4, .pointer (some ⟨b7, 0, none⟩)), (5, .int .i64 0)]) ⟨l3, (hout 4 rfl).trans rfl, (hout 5 rfl).trans rfl, trivial⟩ ?_
      refine o_store (j := 1) (vs := [.int .i64 r23.1.1, .int .i64 r23.1.2.1, .int .u32 r23.1.2.2.1, .int .i64 r23.1.2.2.2.1, .int .i64 r23.1.2.2.2.2, v30]) (cs' := [.int .i64 r23.1.1, .int .i64 r23.1.2.1, .int .u32 r23.1.2.2.1, .int .i64 r23.1.2.2.2.1, .int .i64 r23.1.2.2.2.2, v30]) rfl rfl rfl z_size140 rfl rfl rfl (ones_cons rfl (ones_cons rfl (ones_cons rfl (ones_cons rfl (ones_cons rfl (ones_cons hs31.one' ones_nil)))))) rfl rfl rfl ?_
      refine st_gs [[(b27, .cells #[.int .i64 r23.1.1, .int .i64 r23.1.2.1, .int .u32 r23.1.2.2.1, .int .i64 r23.1.2.2.2.1, .int .i64 r23.1.2.2.2.2] 138 (0, 0))], [(b7, .cells #[.int .i64 r23.1.1, .int .i64 r23.1.2.1, .int .u32 r23.1.2.2.1, .int .i64 r23.1.2.2.2.1, .int .i64 r23.1.2.2.2.2, v30] 140 (0, 0))]] rfl ?_
      refine Z 2 rfl ?_
      obtain rfl := Eq.symm h
      exact st_retC (gs' := []) [.agg #[.int .i64 r23.1.1, .int .i64 r23.1.2.1, .int .u32 r23.1.2.2.1, .int .i64 r23.1.2.2.2.1, .int .i64 r23.1.2.2.2.2, v30], .int .i64 0] Tryd.func94 ⟨⟨_, _, _, _, rfl, mem_flat 1 rfl, fun w hw => cellOfN (vs := [.int .i64 r23.1.1, .int .i64 r23.1.2.1, .int .u32 r23.1.2.2.1, .int .i64 r23.1.2.2.2.1, .int .i64 r23.1.2.2.2.2, v30]) z_agg140 rfl w hw⟩, rfl, trivial⟩ (by simp) (((hl11.trans hl17).trans hl26).trans hl32) ⟨_, rfl, rfl, hs31⟩
theorem event_Word_ok {a0 : Int} {r : ByteArray} (h : event_Word a0 r) (σ : Sto)  :
    Does Tryd.prog 95 [.int .i64 a0] σ [] (fun v τ gs => gs = [] ∧ .string r = v) := by
 refine call_of Tryd.func95 Tryd.ntmps95 rfl rfl (fun cs fs => ?_)
 refine Z 2 rfl ?_
 refine o_assign rfl rfl rfl (ev_str z_str0) ?_
 refine Z 12 rfl ?_
 refine st_if rfl h (fun h => ?_) (fun h => ?_)
 ·refine Z 2 rfl ?_
  refine o_assign rfl rfl rfl (ev_str z_str5) ?_
  refine st_end ?_
  obtain rfl := Eq.symm h
  exact st_ret (gs' := []) Tryd.func95 rfl (List.Sublist.refl _) (Sto.Le.refl _) ⟨rfl, rfl⟩
 ·refine Z 5 rfl ?_
  refine st_if rfl h (fun h => ?_) (fun h => ?_)
  ·refine Z 2 rfl ?_
   refine o_assign rfl rfl rfl (ev_str z_str6) ?_
   refine st_end ?_
   obtain rfl := Eq.symm h
   exact st_ret (gs' := []) Tryd.func95 rfl (List.Sublist.refl _) (Sto.Le.refl _) ⟨rfl, rfl⟩
  ·refine Z 5 rfl ?_
   refine st_if rfl h (fun h => ?_) (fun h => ?_)
   ·refine Z 2 rfl ?_
    refine o_assign rfl rfl rfl (ev_str z_str7) ?_
    refine st_end ?_
    obtain rfl := Eq.symm h
    exact st_ret (gs' := []) Tryd.func95 rfl (List.Sublist.refl _) (Sto.Le.refl _) ⟨rfl, rfl⟩
   ·refine Z 5 rfl ?_
    refine st_if rfl h (fun h => ?_) (fun h => ?_)
    ·refine Z 2 rfl ?_
     refine o_assign rfl rfl rfl (ev_str z_str8) ?_
     refine st_end ?_
     obtain rfl := Eq.symm h
     exact st_ret (gs' := []) Tryd.func95 rfl (List.Sublist.refl _) (Sto.Le.refl _) ⟨rfl, rfl⟩
    ·refine Z 5 rfl ?_
     refine st_if rfl h (fun h => ?_) (fun h => ?_)
     ·refine Z 2 rfl ?_
      refine o_assign rfl rfl rfl (ev_str z_str9) ?_
      refine st_end ?_
      obtain rfl := Eq.symm h
      exact st_ret (gs' := []) Tryd.func95 rfl (List.Sublist.refl _) (Sto.Le.refl _) ⟨rfl, rfl⟩
     ·refine Z 5 rfl ?_
      refine st_if rfl h (fun h => ?_) (fun h => ?_)
      ·refine Z 2 rfl ?_
       refine o_assign rfl rfl rfl (ev_str z_str10) ?_
       refine st_end ?_
       obtain rfl := Eq.symm h
       exact st_ret (gs' := []) Tryd.func95 rfl (List.Sublist.refl _) (Sto.Le.refl _) ⟨rfl, rfl⟩
      ·refine Z 5 rfl ?_
       refine st_if rfl h (fun h => ?_) (fun h => ?_)
       ·refine Z 2 rfl ?_
        refine o_assign rfl rfl rfl (ev_str z_str11) ?_
        refine st_end ?_
        obtain rfl := Eq.symm h
        exact st_ret (gs' := []) Tryd.func95 rfl (List.Sublist.refl _) (Sto.Le.refl _) ⟨rfl, rfl⟩
       ·refine Z 5 rfl ?_
        refine st_if rfl h (fun h => ?_) (fun h => ?_)
        ·refine Z 2 rfl ?_
         refine o_assign rfl rfl rfl (ev_str z_str12) ?_
         refine st_end ?_
         obtain rfl := Eq.symm h
         exact st_ret (gs' := []) Tryd.func95 rfl (List.Sublist.refl _) (Sto.Le.refl _) ⟨rfl, rfl⟩
        ·refine Z 5 rfl ?_
         refine st_if rfl h (fun h => ?_) (fun h => ?_)
         ·refine Z 2 rfl ?_
          refine o_assign rfl rfl rfl (ev_str z_str13) ?_
          refine st_end ?_
          obtain rfl := Eq.symm h
          exact st_ret (gs' := []) Tryd.func95 rfl (List.Sublist.refl _) (Sto.Le.refl _) ⟨rfl, rfl⟩
         ·refine Z 5 rfl ?_
          refine st_if rfl h (fun h => ?_) (fun h => ?_)
          ·refine Z 2 rfl ?_
           refine o_assign rfl rfl rfl (ev_str z_str14) ?_
           refine st_end ?_
           obtain rfl := Eq.symm h
           exact st_ret (gs' := []) Tryd.func95 rfl (List.Sublist.refl _) (Sto.Le.refl _) ⟨rfl, rfl⟩
          ·refine Z 5 rfl ?_
           refine st_if rfl h (fun h => ?_) (fun h => ?_)
           ·refine Z 2 rfl ?_
            refine o_assign rfl rfl rfl (ev_str z_str15) ?_
            refine st_end ?_
            obtain rfl := Eq.symm h
            exact st_ret (gs' := []) Tryd.func95 rfl (List.Sublist.refl _) (Sto.Le.refl _) ⟨rfl, rfl⟩
           ·refine Z 5 rfl ?_
            refine st_if rfl h (fun h => ?_) (fun h => ?_)
            ·refine Z 2 rfl ?_
             refine o_assign rfl rfl rfl (ev_str z_str16) ?_
             refine st_end ?_
             obtain rfl := Eq.symm h
             exact st_ret (gs' := []) Tryd.func95 rfl (List.Sublist.refl _) (Sto.Le.refl _) ⟨rfl, rfl⟩
            ·refine Z 5 rfl ?_
             refine st_if rfl h (fun h => ?_) (fun h => ?_)
             ·refine Z 2 rfl ?_
              refine o_assign rfl rfl rfl (ev_str z_str17) ?_
              refine st_end ?_
              obtain rfl := Eq.symm h
              exact st_ret (gs' := []) Tryd.func95 rfl (List.Sublist.refl _) (Sto.Le.refl _) ⟨rfl, rfl⟩
             ·refine Z 5 rfl ?_
              refine st_if rfl h (fun h => ?_) (fun h => ?_)
              ·refine Z 2 rfl ?_
               refine o_assign rfl rfl rfl (ev_str z_str18) ?_
               refine st_end ?_
               obtain rfl := Eq.symm h
               exact st_ret (gs' := []) Tryd.func95 rfl (List.Sublist.refl _) (Sto.Le.refl _) ⟨rfl, rfl⟩
              ·refine Z 5 rfl ?_
               refine st_if rfl h (fun h => ?_) (fun h => ?_)
               ·refine Z 2 rfl ?_
                refine o_assign rfl rfl rfl (ev_str z_str19) ?_
                refine st_end ?_
                obtain rfl := Eq.symm h
                exact st_ret (gs' := []) Tryd.func95 rfl (List.Sublist.refl _) (Sto.Le.refl _) ⟨rfl, rfl⟩
               ·refine Z 5 rfl ?_
                refine st_if rfl h (fun h => ?_) (fun h => ?_)
                ·refine Z 2 rfl ?_
                 refine o_assign rfl rfl rfl (ev_str z_str20) ?_
                 refine st_end ?_
                 obtain rfl := Eq.symm h
                 exact st_ret (gs' := []) Tryd.func95 rfl (List.Sublist.refl _) (Sto.Le.refl _) ⟨rfl, rfl⟩
                ·refine Z 4 rfl ?_
                 refine o_assign rfl rfl rfl (ev_str z_str0) ?_
                 refine st_end ?_
                 obtain rfl := Eq.symm h
                 exact st_ret (gs' := []) Tryd.func95 rfl (List.Sublist.refl _) (Sto.Le.refl _) ⟨rfl, rfl⟩
theorem strconv_Itoa_ok {a0 : Int} {r : ByteArray} (h : strconv_Itoa a0 r) (σ : Sto) (hT : Tab Tryd.prog σ) :
    Does Tryd.prog 84 [.int .i64 a0] σ [] (fun v τ gs => gs = [] ∧ .string r = v) := by
 obtain ⟨hk, rfl⟩ := h
 rw [itoa_lib]
 exact does_grow fun w hw => Tryd.strconv_Itoa a0 (i64_lo hk) (i64_hi hk) w (hT w hw)
theorem internal_strconv_FormatUint_ok {a0 : Int} {a1 : Int} {r : ByteArray} (h : internal_strconv_FormatUint a0 a1 r) (σ : Sto) (hT : Tab Tryd.prog σ) :
    Does Tryd.prog 160 [.int .u64 a0, .int .i64 a1] σ [] (fun v τ gs => gs = [] ∧ .string r = v) := by
 obtain ⟨hk, rfl, rfl⟩ := h
 rw [itoa_lib]
 exact does_grow fun w hw => Tryd.FormatUint_10 a0 (u64_lo hk) (u64_hi hk) w (hT w hw)
theorem strconv_FormatUint_ok {a0 : Int} {a1 : Int} {r : ByteArray} (h : strconv_FormatUint a0 a1 r) (σ : Sto) (hT : Tab Tryd.prog σ) :
    Does Tryd.prog 141 [.int .u64 a0, .int .i64 a1] σ [] (fun v τ gs => gs = [] ∧ .string r = v) := by
 refine call_of Tryd.func141 Tryd.ntmps141 rfl rfl (fun cs fs => ?_)
 refine Z 2 rfl ?_
 refine o_assign rfl rfl rfl (ev_str z_str0) ?_
 refine Z 5 rfl ?_
 obtain ⟨r1, hr2, h⟩ := h
 refine st_call (foot := []) rfl rfl rfl rfl rfl rfl (callV_fn z_en160 (internal_strconv_FormatUint_ok hr2 σ hT)) ?_
 rintro vτ3 τ3 gsτ3 hl4 ⟨rfl, rfl⟩
 refine Z 2 rfl ?_
 obtain rfl := Eq.symm h
 exact st_ret (gs' := []) Tryd.func141 rfl (List.Sublist.refl _) hl4 ⟨rfl, rfl⟩
theorem head_Line_ok {a0 : Int × Int × Int × Int × Int} {r : ByteArray} (h : head_Line a0 r) (σ : Sto) (hT : Tab Tryd.prog σ) :
    Does Tryd.prog 118 [.agg [.int .i64 a0.1, .int .i64 a0.2.1, .int .u32 a0.2.2.1, .int .i64 a0.2.2.2.1, .int .i64 a0.2.2.2.2].toArray] σ [] (fun v τ gs => gs = [] ∧ .string r = v) := by
 refine call_of Tryd.func118 Tryd.ntmps118 rfl rfl (fun cs fs => ?_)
 refine Z 2 rfl ?_
 refine o_boxC rfl rfl rfl rfl rfl rfl (fun b1 => ?_)
 refine o_assign rfl rfl rfl (ev_str z_str0) ?_
 refine Z 2 rfl ?_
 obtain ⟨r2, hr3, hf6, hf7, r8, hr9, hf12, hf13, r14, hr15, hf18, hf19, r20, hr21, hf24, hf25, r26, hr27, hf30, h⟩ := h
 refine st_draw 25 (dl [.v (.pointer (some ⟨b1, 0, none⟩)), .v (.int .i64 a0.1), .v (.string r2), .v (.string ((bstr [118, 32]) ++ r2)), .v (.string (((bstr [118, 32]) ++ r2) ++ (bstr [32, 107, 32]))), .v (.pointer (some ⟨b1, 1, none⟩)), .v (.int .i64 a0.2.1), .v (.string r8), .v (.string ((((bstr [118, 32]) ++ r2) ++ (bstr [32, 107, 32])) ++ r8)), .v (.string (((((bstr [118, 32]) ++ r2) ++ (bstr [32, 107, 32])) ++ r8) ++ (bstr [32]))), .v (.pointer (some ⟨b1, 2, none⟩)), .v (.int .u32 a0.2.2.1), .v (.int .u64 (IntKind.u64.wrap a0.2.2.1)), .v (.string r14), .v (.string ((((((bstr [118, 32]) ++ r2) ++ (bstr [32, 107, 32])) ++ r8) ++ (bstr [32])) ++ r14)), .v (.string (((((((bstr [118, 32]) ++ r2) ++ (bstr [32, 107, 32])) ++ r8) ++ (bstr [32])) ++ r14) ++ (bstr [32]))), .v (.pointer (some ⟨b1, 3, none⟩)), .v (.int .i64 a0.2.2.2.1), .v (.string r20), .v (.string ((((((((bstr [118, 32]) ++ r2) ++ (bstr [32, 107, 32])) ++ r8) ++ (bstr [32])) ++ r14) ++ (bstr [32])) ++ r20)), .v (.string (((((((((bstr [118, 32]) ++ r2) ++ (bstr [32, 107, 32])) ++ r8) ++ (bstr [32])) ++ r14) ++ (bstr [32])) ++ r20) ++ (bstr [47]))), .v (.pointer (some ⟨b1, 4, none⟩)), .v (.int .i64 a0.2.2.2.2), .v (.string r26), .v (.string ((((((((((bstr [118, 32]) ++ r2) ++ (bstr [32, 107, 32])) ++ r8) ++ (bstr [32])) ++ r14) ++ (bstr [32])) ++ r20) ++ (bstr [47])) ++ r26))]) (fun _ _ => []) z_mix rfl (dl_mono (by exact trivial)) (allB_cons (allB_cons (allB_cons (allB_cons (allB_cons (allB_cons (allB_cons (allB_cons (allB_cons (allB_cons (allB_cons (allB_cons (allB_cons (allB_cons (allB_cons (allB_cons (allB_cons (allB_cons (allB_cons (allB_cons (allB_cons (allB_cons (allB_cons (allB_cons (allB_cons allB_nil (p1 dA)) ?_) ?_) ?_) ?_) (p1 dA)) ?_) ?_) ?_) ?_) (p1 dA)) ?_) (p1 dA)) ?_) ?_) ?_) (p1 dA)) ?_) ?_) ?_) ?_) (p1 dA)) ?_) ?_) ?_) ?_
 ·intro ρ' τ pool rs hl hd hout hk
  obtain ⟨_, e0, rfl⟩ := hd 0 rfl
  refine o_load (j := 0) (v := .int .i64 a0.1) rfl rfl rfl z_sc3 e0 rfl rfl ?_
  exact st_addNil (hk _ _ (Sto.Le.refl _) rfl)
 ·intro ρ' τ pool rs hl hd hout hk
  obtain ⟨_, e1, rfl⟩ := hd 1 rfl
  refine st_call (foot := []) rfl rfl rfl rfl (evs_cons e1 rfl) rfl (callV_fn z_en84 (strconv_Itoa_ok hr3 τ (hT.up hl))) ?_
  rintro vτ4 τ4 gsτ4 hl5 ⟨rfl, rfl⟩
  exact st_addNil (hk _ _ hl5 rfl)
 ·intro ρ' τ pool rs hl hd hout hk
  obtain ⟨_, e2, rfl⟩ := hd 2 rfl
  refine o_sadd rfl rfl rfl (ev_str z_str21) e2 hf6 ?_
  exact st_addNil (hk _ _ (Sto.Le.refl _) rfl)
 ·intro ρ' τ pool rs hl hd hout hk
  obtain ⟨_, e3, rfl⟩ := hd 3 rfl
  refine o_sadd rfl rfl rfl e3 (ev_str z_str22) hf7 ?_
  exact st_addNil (hk _ _ (Sto.Le.refl _) rfl)
 ·intro ρ' τ pool rs hl hd hout hk
  obtain ⟨_, e5, rfl⟩ := hd 5 rfl
  refine o_load (j := 0) (v := .int .i64 a0.2.1) rfl rfl rfl z_sc3 e5 rfl rfl ?_
  exact st_addNil (hk _ _ (Sto.Le.refl _) rfl)
 ·intro ρ' τ pool rs hl hd hout hk
  obtain ⟨_, e6, rfl⟩ := hd 6 rfl
  refine st_call (foot := []) rfl rfl rfl rfl (evs_cons e6 rfl) rfl (callV_fn z_en84 (strconv_Itoa_ok hr9 τ (hT.up hl))) ?_
  rintro vτ10 τ10 gsτ10 hl11 ⟨rfl, rfl⟩
  exact st_addNil (hk _ _ hl11 rfl)
 ·intro ρ' τ pool rs hl hd hout hk
  obtain ⟨_, e4, rfl⟩ := hd 4 rfl
  obtain ⟨_, e7, rfl⟩ := hd 7 rfl
  refine o_sadd rfl rfl rfl e4 e7 hf12 ?_
  exact st_addNil (hk _ _ (Sto.Le.refl _) rfl)
 ·intro ρ' τ pool rs hl hd hout hk
  obtain ⟨_, e8, rfl⟩ := hd 8 rfl
  refine o_sadd rfl rfl rfl e8 (ev_str z_str3) hf13 ?_
  exact st_addNil (hk _ _ (Sto.Le.refl _) rfl)
 ·intro ρ' τ pool rs hl hd hout hk
  obtain ⟨_, e10, rfl⟩ := hd 10 rfl
  refine o_load (j := 0) (v := .int .u32 a0.2.2.1) rfl rfl rfl z_sc36 e10 rfl rfl ?_
  exact st_addNil (hk _ _ (Sto.Le.refl _) rfl)
 ·intro ρ' τ pool rs hl hd hout hk
  obtain ⟨_, e12, rfl⟩ := hd 12 rfl
  refine st_call (foot := []) rfl rfl rfl rfl (evs_cons e12 (evs_cons rfl rfl)) rfl (callV_fn z_en141 (strconv_FormatUint_ok hr15 τ (hT.up hl))) ?_
  rintro vτ16 τ16 gsτ16 hl17 ⟨rfl, rfl⟩
  exact st_addNil (hk _ _ hl17 rfl)
 ·intro ρ' τ pool rs hl hd hout hk
  obtain ⟨_, e9, rfl⟩ := hd 9 rfl
  obtain ⟨_, e13, rfl⟩ := hd 13 rfl
  refine o_sadd rfl rfl rfl e9 e13 hf18 ?_
  exact st_addNil (hk _ _ (Sto.Le.refl _) rfl)
 ·intro ρ' τ pool rs hl hd hout hk
  obtain ⟨_, e14, rfl⟩ := hd 14 rfl
  refine o_sadd rfl rfl rfl e14 (ev_str z_str3) hf19 ?_
  exact st_addNil (hk _ _ (Sto.Le.refl _) rfl)
 ·intro ρ' τ pool rs hl hd hout hk
  obtain ⟨_, e16, rfl⟩ := hd 16 rfl
  refine o_load (j := 0) (v := .int .i64 a0.2.2.2.1) rfl rfl rfl z_sc3 e16 rfl rfl ?_
  exact st_addNil (hk _ _ (Sto.Le.refl _) rfl)
 ·intro ρ' τ pool rs hl hd hout hk
  obtain ⟨_, e17, rfl⟩ := hd 17 rfl
  refine st_call (foot := []) rfl rfl rfl rfl (evs_cons e17 rfl) rfl (callV_fn z_en84 (strconv_Itoa_ok hr21 τ (hT.up hl))) ?_
  rintro vτ22 τ22 gsτ22 hl23 ⟨rfl, rfl⟩
  exact st_addNil (hk _ _ hl23 rfl)
 ·intro ρ' τ pool rs hl hd hout hk
  obtain ⟨_, e15, rfl⟩ := hd 15 rfl
  obtain ⟨_, e18, rfl⟩ := hd 18 rfl
  refine o_sadd rfl rfl rfl e15 e18 hf24 ?_
  exact st_addNil (hk _ _ (Sto.Le.refl _) rfl)
 ·intro ρ' τ pool rs hl hd hout hk
  obtain ⟨_, e19, rfl⟩ := hd 19 rfl
  refine o_sadd rfl rfl rfl e19 (ev_str z_str23) hf25 ?_
  exact st_addNil (hk _ _ (Sto.Le.refl _) rfl)
 ·intro ρ' τ pool rs hl hd hout hk
  obtain ⟨_, e21, rfl⟩ := hd 21 rfl
  refine o_load (j := 0) (v := .int .i64 a0.2.2.2.2) rfl rfl rfl z_sc3 e21 rfl rfl ?_
  exact st_addNil (hk _ _ (Sto.Le.refl _) rfl)
 ·intro ρ' τ pool rs hl hd hout hk
  obtain ⟨_, e22, rfl⟩ := hd 22 rfl
  refine st_call (foot := []) rfl rfl rfl rfl (evs_cons e22 rfl) rfl (callV_fn z_en84 (strconv_Itoa_ok hr27 τ (hT.up hl))) ?_
  rintro vτ28 τ28 gsτ28 hl29 ⟨rfl, rfl⟩
  exact st_addNil (hk _ _ hl29 rfl)
 ·intro ρ' τ pool rs hl hd hout hk
  obtain ⟨_, e20, rfl⟩ := hd 20 rfl
  obtain ⟨_, e23, rfl⟩ := hd 23 rfl
  refine o_sadd rfl rfl rfl e20 e23 hf30 ?_
  exact st_addNil (hk _ _ (Sto.Le.refl _) rfl)
 intro ρ' τ31 vals hl31 hv hout
 refine st_ord [0] _ rfl ?_
 refine st_env (ρ' := [(27, .string ((((((((((bstr [118, 32]) ++ r2) ++ (bstr [32, 107, 32])) ++ r8) ++ (bstr [32])) ++ r14) ++ (bstr [32])) ++ r20) ++ (bstr [47])) ++ r26)), (2, .string (bstr []))]) ⟨(lv1 hv 24 rfl rfl), (hout 2 rfl).trans rfl, trivial⟩ ?_
 refine Z 2 rfl ?_
 refine st_ord [] _ rfl ?_
 obtain rfl := Eq.symm h
 exact st_ret (gs' := []) Tryd.func118 rfl (List.Sublist.refl _) hl31 ⟨rfl, rfl⟩
theorem frame_Line_ok {a0 : (Int × Int × Int × Int × Int) × List Int} {v1 : Value} {r : ByteArray} (h : frame_Line a0 r) (σ : Sto) (hs2 : Sl (kI .u8) σ v1 a0.2) (hT : Tab Tryd.prog σ) :
    Does Tryd.prog 96 [.agg [.int .i64 a0.1.1, .int .i64 a0.1.2.1, .int .u32 a0.1.2.2.1, .int .i64 a0.1.2.2.2.1, .int .i64 a0.1.2.2.2.2, v1].toArray] σ [] (fun v τ gs => gs = [] ∧ .string r = v) := by
 refine call_of Tryd.func96 Tryd.ntmps96 rfl rfl (fun cs fs => ?_)
 refine Z 2 rfl ?_
 refine o_box (cs := [.int .i64 a0.1.1, .int .i64 a0.1.2.1, .int .u32 a0.1.2.2.1, .int .i64 a0.1.2.2.2.1, .int .i64 a0.1.2.2.2.2, v1]) rfl rfl rfl rfl rfl (fun b3 => ?_)
 refine o_assign rfl rfl rfl (ev_str z_str0) ?_
 refine Z 2 rfl ?_
 obtain ⟨r4, hr5, hf8, r9, hr10, hf13, h⟩ := h
 refine st_draw 9 (dl [.v (.pointer (some ⟨b3, 0, none⟩)), .v (.agg #[.int .i64 a0.1.1, .int .i64 a0.1.2.1, .int .u32 a0.1.2.2.1, .int .i64 a0.1.2.2.2.1, .int .i64 a0.1.2.2.2.2]), .v (.string r4), .v (.string (r4 ++ (bstr [32]))), .v (.pointer (some ⟨b3, 5, none⟩)), .v (v1), .v (.int .i64 (a0.2.length : Int)), .v (.string r9), .v (.string ((r4 ++ (bstr [32])) ++ r9))]) (fun _ _ => []) z_mix rfl (dl_mono trivial) (allB_cons (allB_cons (allB_cons (allB_cons (allB_cons (allB_cons (allB_cons (allB_cons (allB_cons allB_nil (p1 dA)) ?_) ?_) ?_) (p1 dA)) ?_) ?_) ?_) ?_) ?_
 ·intro ρ' τ pool rs hl hd hout hk
  obtain ⟨_, e0, rfl⟩ := hd 0 rfl
  refine o_loadN (j := 0) (vs := [.int .i64 a0.1.1, .int .i64 a0.1.2.1, .int .u32 a0.1.2.2.1, .int .i64 a0.1.2.2.2.1, .int .i64 a0.1.2.2.2.2]) rfl rfl rfl z_agg138 e0 rfl rfl ?_
  exact st_addNil (hk _ _ (Sto.Le.refl _) rfl)
 ·intro ρ' τ pool rs hl hd hout hk
  obtain ⟨_, e1, rfl⟩ := hd 1 rfl
  refine st_call (foot := []) rfl rfl rfl rfl (evs_cons e1 rfl) rfl (callV_fn z_en118 (head_Line_ok hr5 τ (hT.up hl))) ?_
  rintro vτ6 τ6 gsτ6 hl7 ⟨rfl, rfl⟩
  exact st_addNil (hk _ _ hl7 rfl)
 ·intro ρ' τ pool rs hl hd hout hk
  obtain ⟨_, e2, rfl⟩ := hd 2 rfl
  refine o_sadd rfl rfl rfl e2 (ev_str z_str3) hf8 ?_
  exact st_addNil (hk _ _ (Sto.Le.refl _) rfl)
 ·intro ρ' τ pool rs hl hd hout hk
  obtain ⟨_, e4, rfl⟩ := hd 4 rfl
  refine o_load (j := 0) (v := v1) rfl rfl rfl z_sc22 e4 rfl rfl ?_
  exact st_addNil (hk _ _ (Sto.Le.refl _) rfl)
 ·intro ρ' τ pool rs hl hd hout hk
  obtain ⟨_, e5, rfl⟩ := hd 5 rfl
  refine o_lenI rfl rfl rfl z_slT22 e5 (hs2.up hl) ?_
  exact st_addNil (hk _ _ (Sto.Le.refl _) rfl)
 ·intro ρ' τ pool rs hl hd hout hk
  obtain ⟨_, e6, rfl⟩ := hd 6 rfl
  refine st_call (foot := []) rfl rfl rfl rfl (evs_cons e6 rfl) rfl (callV_fn z_en84 (strconv_Itoa_ok hr10 τ (hT.up hl))) ?_
  rintro vτ11 τ11 gsτ11 hl12 ⟨rfl, rfl⟩
  exact st_addNil (hk _ _ hl12 rfl)
 ·intro ρ' τ pool rs hl hd hout hk
  obtain ⟨_, e3, rfl⟩ := hd 3 rfl
  obtain ⟨_, e7, rfl⟩ := hd 7 rfl
  refine o_sadd rfl rfl rfl e3 e7 hf13 ?_
  exact st_addNil (hk _ _ (Sto.Le.refl _) rfl)
 intro ρ' τ14 vals hl14 hv hout
 refine st_ord [0] _ rfl ?_
 refine st_env (ρ' := [(11, .string ((r4 ++ (bstr [32])) ++ r9)), (2, .string (bstr []))]) ⟨(lv1 hv 8 rfl rfl), (hout 2 rfl).trans rfl, trivial⟩ ?_
 refine Z 2 rfl ?_
 refine st_ord [] _ rfl ?_
 obtain rfl := Eq.symm h
 exact st_ret (gs' := []) Tryd.func96 rfl (List.Sublist.refl _) hl14 ⟨rfl, rfl⟩
theorem say_Number_ok {a0 : Int} {r : ByteArray} (h : say_Number a0 r) (σ : Sto) (hT : Tab Tryd.prog σ) :
    Does Tryd.prog 62 [.int .i64 a0] σ [] (fun v τ gs => gs = [] ∧ .string r = v) := by
 refine call_of Tryd.func62 Tryd.ntmps62 rfl rfl (fun cs fs => ?_)
 refine Z 2 rfl ?_
 refine o_assign rfl rfl rfl (ev_str z_str0) ?_
 refine Z 4 rfl ?_
 obtain ⟨r1, hr2, h⟩ := h
 refine st_call (foot := []) rfl rfl rfl rfl rfl rfl (callV_fn z_en84 (strconv_Itoa_ok hr2 σ hT)) ?_
 rintro vτ3 τ3 gsτ3 hl4 ⟨rfl, rfl⟩
 refine Z 2 rfl ?_
 obtain rfl := Eq.symm h
 exact st_ret (gs' := []) Tryd.func62 rfl (List.Sublist.refl _) hl4 ⟨rfl, rfl⟩
theorem dump_Each_1_ok {c0 : List Int} {bc0 : Nat} {v1 : Value} {σ0 : Sto} (hc0_0 : Cel σ0 ⟨bc0, 0, none⟩ (v1)) (hs2 : Sl (kI .u8) σ0 v1 c0) (hT : Tab Tryd.prog σ0) :
    IterV Tryd.prog (fun _ x vx => vx = [.int .i64 x.1, .string x.2]) (.func (.func 91) #[] [.pointer (some ⟨bc0, 0, none⟩)].toArray) σ0 [] (fun (_ : Unit) _ f => f = []) (dump_Each_1 c0) := by
 intro S Y I y hyc hyo hIm hY s s' o hR σ g hle hIg
 obtain ⟨r, hr0⟩ : ∃ r, r = (s', o) := ⟨_, rfl⟩
 rw [← hr0] at hR
 have h := hR
 refine callV_of (caps := [.pointer (some ⟨bc0, 0, none⟩)]) z_en91 ?_
 refine call_of Tryd.func91 Tryd.ntmps91 rfl rfl (fun cs fs => ?_)
 refine st_ord [0] _ rfl ?_
 refine Z 2 rfl ?_
 refine o_box (cs := [y]) rfl rfl rfl rfl hyc (fun b3 => ?_)
 refine Z 4 rfl ?_
 obtain ⟨r4, hr5, h⟩ := h
 refine st_call (foot := []) rfl rfl rfl rfl rfl rfl (callV_fn z_en92 (frame_New_ok hr5 σ)) ?_
 rintro vτ6 τ6 gsτ6 hl7 ⟨bi10, bi8, rfl, rfl, hc11, hc9⟩
 refine o_alloc rfl rfl rfl z_zero135 (fun b12 => ?_)
 refine ZZ 6 [0] rfl rfl ?_
 refine o_loadI (v := v1) rfl rfl rfl z_sc22 rfl (Cel.up hc0_0 (hle.trans hl7)) ?_
 obtain ⟨r13, hr14, h⟩ := h
 refine st_call (foot := []) rfl rfl rfl rfl rfl rfl (callV_fn z_en93 (fence_Segments_ok hr14 τ6 (hs2.up (hle.trans hl7)))) ?_
 rintro vτ15 τ15 gsτ15 hl16 ⟨f17, q18, rfl, rfl, hit19⟩
 refine Z 2 rfl ?_
 obtain ⟨t20, w20, hR20, hA20⟩ := h
 refine st_env (ρ' := [(2, .pointer (some ⟨b3, 0, none⟩)), (3, .pointer (some ⟨b12, 0, none⟩)), (11, .func (.func f17) #[] q18)]) ⟨rfl, rfl, rfl, trivial⟩ ?_
 refine st_ord [1, 0, 0] _ rfl ?_
 refine st_addNil ?_
 refine st_range (B := dump_Each_1_l1 S Y r4) (s0 := s) ranges_fctx rfl hit19 (Sto.Le.refl _) hR20 rfl (fun _ _ _ h => by obtain ⟨_, rfl, _⟩ := h; rfl) (fun (s20 : S) τ20 gs => τ15.Le τ20 ∧ ∃ (g21 : Grp), gs = [[(b3, .cells #[y] 126 (0, 0))], [(b12, .cells #[.pointer (some ⟨bi8, 0, none⟩)] 135 (0, 0))], g21] ∧ I s20 τ20 g21) (fun (p59 : S) cd τ60 gs => cd = .exit 0 ∧ τ15.Le τ60 ∧ ∃ (g62 : Grp), gs = [[(b3, .cells #[y] 126 (0, 0))], [(b12, .cells #[.pointer (some ⟨bi8, 0, none⟩)] 135 (0, 0))], g62] ∧ I p59 τ60 g62) (fun _ _ _ _ hl ⟨hb, g21, hg, hI22⟩ => ⟨hb.trans hl, g21, hg, hIm _ _ _ _ hl hI22⟩) (fun _ _ _ _ _ hl ⟨hc, hb, g62, hg, hI63⟩ => ⟨hc, hb.trans hl, g62, hg, hIm _ _ _ _ hl hI63⟩) ⟨Sto.Le.refl _, g, rfl, (hIm _ _ _ _ (hl7.trans hl16) hIg)⟩ ?_ ?_ ?_
 ·rintro x20 s20 o20 τ20 gs20 vx20 hl20 h ⟨v23, rfl, hs24⟩ ⟨hb20, g21, rfl, hI22⟩ l20 rc20 caller20 cs20 fs20
  refine Z 7 rfl ?_
  refine st_begin ?_
  refine ZZ 5 [1] rfl rfl ?_
  obtain ⟨r25, hr26, h⟩ := h
  refine st_call (foot := []) rfl rfl rfl rfl rfl rfl (callV_fn z_en94 (frame_Codec_Unpack_ok hr26 τ20 (hc11.up (hl16.trans hl20)) (hc9.up (hl16.trans hl20)) hs24)) ?_
  rintro vτ27 τ27 gsτ27 hl28 ⟨v29, rfl, rfl, hs30⟩
  refine Z 3 rfl ?_
  refine o_alloc rfl rfl rfl z_zero140 (fun b31 => ?_)
  refine o_store (j := 0) (vs := [.int .i64 r25.1.1.1, .int .i64 r25.1.1.2.1, .int .u32 r25.1.1.2.2.1, .int .i64 r25.1.1.2.2.2.1, .int .i64 r25.1.1.2.2.2.2, v29]) (cs' := [.int .i64 r25.1.1.1, .int .i64 r25.1.1.2.1, .int .u32 r25.1.1.2.2.1, .int .i64 r25.1.1.2.2.2.1, .int .i64 r25.1.1.2.2.2.2, v29]) rfl rfl rfl z_size140 rfl rfl rfl (ones_cons rfl (ones_cons rfl (ones_cons rfl (ones_cons rfl (ones_cons rfl (ones_cons hs30.one' ones_nil)))))) rfl rfl rfl ?_
  refine st_gs [[(b31, .cells #[.int .i64 r25.1.1.1, .int .i64 r25.1.1.2.1, .int .u32 r25.1.1.2.2.1, .int .i64 r25.1.1.2.2.2.1, .int .i64 r25.1.1.2.2.2.2, v29] 140 (0, 0))], [(b3, .cells #[y] 126 (0, 0))], [(b12, .cells #[.pointer (some ⟨bi8, 0, none⟩)] 135 (0, 0))], g21] rfl ?_
  refine Z 5 rfl ?_
  obtain ⟨r32, hr33, h⟩ := h
  refine st_call (foot := []) rfl rfl rfl rfl rfl rfl (callV_fn z_en95 (event_Word_ok hr33 τ27)) ?_
  rintro vτ34 τ34 gsτ34 hl35 ⟨rfl, rfl⟩
  refine Z 3 rfl ?_
  refine st_cut (fun ρ τ36 gs => ∃ (s36 : S × ByteArray) (g37 : Grp), dump_Each_1_j2 S Y x20 s36 o20 ∧ τ34.Le τ36 ∧ ESub ρ [(2, .pointer (some ⟨b3, 0, none⟩)), (3, .pointer (some ⟨b12, 0, none⟩)), (12, .int .i64 x20.1), (13, v23), (4, .int .i64 x20.1), (5, v23), (8, .string s36.2)] ∧ gs = [[(b3, .cells #[y] 126 (0, 0))], [(b12, .cells #[.pointer (some ⟨bi8, 0, none⟩)] 135 (0, 0))], g37] ∧ I s36.1 τ36 g37) ?_ (fun hk36 => ?_)
  ·rintro ρ36 τ36 gs36 ⟨s36, g37, h, hl36, hρ, rfl, hI38⟩
   refine st_es hρ ?_
   refine st_seq ?_
   obtain ⟨r39, hr40, hf43, hf44, y45, u46, hy47, h⟩ := h
   refine st_d41 [[(b3, .cells #[y] 126 (0, 0))], [(b12, .cells #[.pointer (some ⟨bi8, 0, none⟩)] 135 (0, 0))]] [g37] 10 1 [none, none, none, none, none, none, none, none, some (0, 0), none] [none, none, none, none, none, none, none, none, none, none] [[none, some 34]] [.v (y), .v (v23), .v (.int .i64 (x20.2.length : Int)), .v (.int .i64 x20.1), .v (.string r39), .v (.string (r39 ++ (bstr [32]))), .v (.string s36.2), .v (.string ((r39 ++ (bstr [32])) ++ s36.2)), .v (.bool y45), .v (.bool (!y45))] [[fun τ u F => F = [g37], fun τ u F => ∃ (g52 : Grp), F = [g52] ∧ I u46 τ g52]] rfl z_mix rfl trivial ⟨⟨fun _ _ _ _ hl h => h, ⟨fun _ _ _ _ hl h => (let ⟨g52, hF, hI53⟩ := h; ⟨g52, hF, hIm _ _ _ _ hl hI53⟩), trivial⟩⟩, trivial⟩ rfl rfl ?_ (allB_cons (allB_cons (allB_cons (allB_cons (allB_cons (allB_cons (allB_cons (allB_cons (allB_cons (allB_cons allB_nil ?_) (p4 dA)) ?_) (p4 dA)) ?_) ?_) (p4 dA)) ?_) ?_) (p4 dA)) ?_
   ·exact rfl
   ·intro ρ' τ pool rs hl hd hout hw hk
    refine o_load (j := 0) (v := y) rfl rfl rfl z_sc126 ((hout 2 rfl).trans rfl) rfl rfl ?_
    exact hk _ _ (Sto.Le.refl _) rfl
   ·intro ρ' τ pool rs hl hd hout hw hk
    obtain ⟨_, e1, rfl⟩ := hd 1 rfl _ rfl
    refine o_lenI rfl rfl rfl z_slT22 e1 (hs24.up (((hl28.trans hl35).trans hl36).trans hl)) ?_
    exact hk _ _ (Sto.Le.refl _) rfl
   ·intro ρ' τ pool rs hl hd hout hw hk
    obtain ⟨_, e3, rfl⟩ := hd 3 rfl _ rfl
    refine st_call (foot := []) rfl rfl rfl rfl (evs_cons e3 rfl) rfl (callV_fn z_en62 (say_Number_ok hr40 τ (hT.up (((((((hle.trans hl7).trans hl16).trans hl20).trans hl28).trans hl35).trans hl36).trans hl)))) ?_
    rintro vτ41 τ41 gsτ41 hl42 ⟨rfl, rfl⟩
    exact hk _ _ hl42 rfl
   ·intro ρ' τ pool rs hl hd hout hw hk
    obtain ⟨_, e4, rfl⟩ := hd 4 rfl _ rfl
    refine o_sadd rfl rfl rfl e4 (ev_str z_str3) hf43 ?_
    exact hk _ _ (Sto.Le.refl _) rfl
   ·intro ρ' τ pool rs hl hd hout hw hk
    obtain ⟨_, e5, rfl⟩ := hd 5 rfl _ rfl
    obtain ⟨_, e6, rfl⟩ := hd 6 rfl _ rfl
    refine o_sadd rfl rfl rfl e5 e6 hf44 ?_
    exact hk _ _ (Sto.Le.refl _) rfl
   ·intro ρ' τ u Fv pool rs hl hI hu hd hout hw hk
    obtain ⟨_, e0, rfl⟩ := hd 0 rfl _ rfl
    obtain ⟨_, e2, rfl⟩ := hd 2 rfl _ rfl
    obtain ⟨_, e7, rfl⟩ := hd 7 rfl _ rfl
    have hI0 := hI
    obtain rfl := hI
    refine st_gs [[(b3, .cells #[y] 126 (0, 0))], [(b12, .cells #[.pointer (some ⟨bi8, 0, none⟩)] 135 (0, 0))], g37, pool] rfl ?_
    refine st_ord [2, 0, 0, 0] _ rfl ?_
    refine st_call (foot := [g37]) rfl rfl rfl e0 (evs_cons e2 (evs_cons e7 rfl)) rfl (hY ((x20.2.length : Int), ((r39 ++ (bstr [32])) ++ s36.2)) s36.1 _ _ _ _ _ (hle.trans ((((((hl7.trans hl16).trans hl20).trans hl28).trans hl35).trans hl36).trans hl)) hy47 rfl (hIm _ _ _ _ hl hI38)) ?_
    rintro vτ48 τ48 gsτ48 hl49 ⟨rfl, g50, rfl, hI51⟩
    refine st_ord [1, 1, 0, 0] _ rfl ?_
    exact hk _ _ [g50] hl49 rfl (by exact ⟨g50, rfl, hI51⟩)
   intro ρ' τ54 vals u Fv hl54 hI hu hv hout
   obtain ⟨g52, rfl, hI53⟩ := hI
   refine st_gs [[(b3, .cells #[y] 126 (0, 0))], [(b12, .cells #[.pointer (some ⟨bi8, 0, none⟩)] 135 (0, 0))], g52] rfl ?_
   refine st_env (ρ' := [(35, .bool (!y45)), (2, .pointer (some ⟨b3, 0, none⟩)), (3, .pointer (some ⟨b12, 0, none⟩)), (12, .int .i64 x20.1), (13, v23), (4, .int .i64 x20.1), (5, v23)]) ⟨(lv4 hv 9 rfl rfl rfl), (hout 2 rfl).trans rfl, (hout 3 rfl).trans rfl, (hout 12 rfl).trans rfl, (hout 13 rfl).trans rfl, (hout 4 rfl).trans rfl, (hout 5 rfl).trans rfl, trivial⟩ ?_
   refine st_end ?_
   refine st_if rfl h (fun h => ?_) (fun h => ?_)
   ·exact st_rexit rfl (List.Sublist.refl _) (((hl28.trans hl35).trans hl36).trans hl54) ⟨_, h, rfl, ((((hl20.trans hl28).trans hl35).trans hl36).trans hl54), g52, rfl, hI53⟩
   ·refine Z 2 rfl ?_
    exact st_rend (List.Sublist.refl _) (((hl28.trans hl35).trans hl36).trans hl54) ⟨_, h, ((((hl20.trans hl28).trans hl35).trans hl36).trans hl54), g52, rfl, hI53⟩
  refine Z 5 rfl ?_
  refine st_if rfl h (fun h => ?_) (fun h => ?_)
  ·refine ZZ 2 [0] rfl rfl ?_
   obtain ⟨r55, hr56, h⟩ := h
   refine st_call (foot := []) rfl rfl rfl rfl rfl rfl (callV_fn z_en96 (frame_Line_ok hr56 τ34 (hs30.up hl35) (hT.up (((((hle.trans hl7).trans hl16).trans hl20).trans hl28).trans hl35)))) ?_
   rintro vτ57 τ57 gsτ57 hl58 ⟨rfl, rfl⟩
   refine Z 2 rfl ?_
   refine st_ord [1, 1, 1] _ rfl ?_
   exact hk36 _ _ _ ⟨(s20, r55), g21, h, hl58, rfl, rfl, (hIm _ _ _ _ ((hl28.trans hl35).trans hl58) hI22)⟩
  ·refine st_skip ?_
   refine st_ord [1, 1, 1] _ rfl ?_
   exact hk36 _ _ _ ⟨(s20, r32), g21, h, (Sto.Le.refl _), rfl, rfl, (hIm _ _ _ _ (hl28.trans hl35) hI22)⟩
 ·rintro p64 τ65 gs20 f20 ht hl66 ⟨hb, g67, rfl, hI68⟩ rfl
  subst ht
  replace h := hA20
  refine st_ord [1, 1, 1] _ rfl ?_
  refine Z 2 rfl ?_
  refine st_ord [2] _ rfl ?_
  obtain rfl := Eq.symm h
  cases hr0
  exact st_fin (gs' := [g67, []]) Tryd.func91 rfl (by simp) ((hl7.trans hl16).trans hl66) ⟨g67, _, rfl, hI68, rfl⟩
 ·rintro p59 cd20 τ60 gs20 f20 ht hl61 ⟨rfl, hb, g62, rfl, hI63⟩ rfl
  subst ht
  replace h := hA20
  refine st_ord [1, 1, 1] _ rfl ?_
  refine Z 2 rfl ?_
  refine st_ord [2] _ rfl ?_
  obtain rfl := Eq.symm h
  cases hr0
  exact st_fin (gs' := [g62, []]) Tryd.func91 rfl (by simp) ((hl7.trans hl16).trans hl61) ⟨g62, _, rfl, hI63, rfl⟩
theorem dump_Each_ok {a0 : List Int} {v1 : Value} {r : (((S : Type) → ((Int × ByteArray) → S → Bool × S → Prop) → S → S × Unit → Prop))} (h : dump_Each a0 r) (σ : Sto) (hs2 : Sl (kI .u8) σ v1 a0) (hT : Tab Tryd.prog σ) :
    Does Tryd.prog 79 [v1] σ [] (fun v τ gs => ∃ (f7 : Nat) (q8 : Array Value), gs = [] ∧ .func (.func f7) #[] q8 = v ∧ IterV Tryd.prog (fun _ x vx => vx = [.int .i64 x.1, .string x.2]) (.func (.func f7) #[] q8) τ [] (fun (_ : Unit) _ f => f = []) r) := by
 refine call_of Tryd.func79 Tryd.ntmps79 rfl rfl (fun cs fs => ?_)
 refine Z 2 rfl ?_
 refine o_box (cs := [v1]) rfl rfl rfl rfl (oneL_sl hs2) (fun b3 => ?_)
 refine Z 4 rfl ?_
 refine st_freeze (fun τ4 hl5 hg6 => ?_)
 refine Z 3 rfl ?_
 obtain rfl := Eq.symm h
 exact st_ret (gs' := []) Tryd.func79 rfl (List.Sublist.refl _) hl5 ⟨_, _, rfl, rfl, (dump_Each_1_ok (cel_of hg6 rfl) (hs2.up hl5) (hT.up hl5))⟩
theorem dump_Describe_ok {a0 : List Int} {v1 : Value} {r : List ByteArray} (h : dump_Describe a0 r) (σ : Sto) (hs2 : Sl (kI .u8) σ v1 a0) (hT : Tab Tryd.prog σ) :
    Does Tryd.prog 55 [v1] σ [] (fun v τ gs => ∃ (v35 : Value), gs = [] ∧ v35 = v ∧ Sl kS τ v35 r) := by
 refine call_of Tryd.func55 Tryd.ntmps55 rfl rfl (fun cs fs => ?_)
 refine Z 6 rfl ?_
 refine o_alloc rfl rfl rfl z_zero98 (fun b3 => ?_)
 refine Z 5 rfl ?_
 obtain ⟨r4, hr5, h⟩ := h
 refine st_call (foot := []) rfl rfl rfl rfl rfl rfl (callV_fn z_en79 (dump_Each_ok hr5 σ hs2 hT)) ?_
 rintro vτ6 τ6 gsτ6 hl7 ⟨f8, q9, rfl, rfl, hit10⟩
 refine Z 2 rfl ?_
 obtain ⟨t11, w11, hR11, hA11⟩ := h
 refine st_env (ρ' := [(2, .slice none 0 0), (3, .pointer (some ⟨b3, 0, none⟩)), (7, .func (.func f8) #[] q9)]) ⟨rfl, rfl, rfl, trivial⟩ ?_
 refine st_addNil ?_
 refine st_ord [1, 0] _ rfl ?_
 refine st_addNil ?_
 refine st_range (B := dump_Describe_l1) (s0 := []) ranges_fctx rfl hit10 (Sto.Le.refl _) hR11 rfl (fun _ _ _ h => by cases h; rfl) (fun (s11 : List ByteArray) τ11 gs => τ6.Le τ11 ∧ ∃ (v12 : Value) (g13 : Grp), gs = [[(b3, .cells #[v12] 98 (0, 0))], g13] ∧ Ow kS 9 τ11 v12 s11 g13) (fun _ _ _ _ => False) (fun _ _ _ _ hl ⟨hb, v12, g13, hg, ho14⟩ => ⟨hb.trans hl, v12, g13, hg, ho14.up hl⟩) (fun _ _ _ _ _ _ h => h.elim) ⟨Sto.Le.refl _, _, _, rfl, Ow.nil⟩ ?_ ?_ ?_
 ·rintro x11 s11 o11 τ11 gs11 vx11 hl11 h rfl ⟨hb11, v12, g13, rfl, ho14⟩ l11 rc11 caller11 cs11 fs11
  refine Z 3 rfl ?_
  refine st_begin ?_
  refine ZZ 4 [0] rfl rfl ?_
  refine o_litE eS [x11.2] rfl rfl rfl z_slT98 z_zero9 ⟨rfl, ⟨_, rfl, rfl⟩, trivial⟩ rfl rfl rfl rfl (fun v15 g16 ho17 => ?_)
  obtain ⟨hf21, hf22, h⟩ := h
  refine st_ord [2, 0, 0] _ rfl ?_
  refine o_append (dk := kS) (xs := s11) (ys := [x11.2]) rfl rfl rfl rfl z_slT98 rfl ho14 rfl (Ow.src (j := 1) ho17 rfl) hf21 hf22 (fun v18 g19 ho20 => ?_)
  refine o_store (j := 2) (vs := [v18]) (cs' := [v18]) rfl rfl rfl z_size98 rfl rfl (oneL_ow ho20) (ones_cons ho20.one' ones_nil) rfl rfl rfl ?_
  refine st_gs [g19, g16, [(b3, .cells #[v18] 98 (0, 0))]] rfl ?_
  refine Z 2 rfl ?_
  refine st_ord [2, 0] _ rfl ?_
  exact st_rend (List.Sublist.refl _) (Sto.Le.refl _) ⟨_, h, hl11, _, _, rfl, ho20⟩
 ·rintro p23 τ24 gs11 f11 ht hl25 ⟨hb, v26, g27, rfl, ho28⟩ rfl
  subst ht
  replace h := hA11
  refine st_ord [1, 1] _ rfl ?_
  refine ZZ 6 [0] rfl rfl ?_
  refine st_ord [1, 0] _ rfl ?_
  refine st_freeze (fun τ29 hl30 hg31 => ?_)
  have hs32 := ho28.freeze hl30 hg31
  refine st_ord [] _ rfl ?_
  obtain rfl := Eq.symm h
  exact st_ret (gs' := []) Tryd.func55 rfl (List.Sublist.refl _) ((hl7.trans hl25).trans hl30) ⟨_, rfl, rfl, hs32⟩
 ·exact fun _ _ _ _ _ _ _ h => h.elim
theorem law29_known_ok  {r : Bool} (h : law29_known r) (σ : Sto) (hT : Tab Tryd.prog σ) :
    Does Tryd.prog 14 [] σ [] (fun v τ gs => gs = [] ∧ .bool r = v) := by
 refine call_of Tryd.func14 Tryd.ntmps14 rfl rfl (fun cs fs => ?_)
 refine Z 6 rfl ?_
 refine o_litE (eI .u8) [3, 3, 0] rfl rfl rfl z_slT22 z_zero5 ⟨rfl, ⟨_, rfl, rfl⟩, ⟨rfl, ⟨_, rfl, rfl⟩, ⟨rfl, ⟨_, rfl, rfl⟩, trivial⟩⟩⟩ rfl rfl rfl rfl (fun v1 g2 ho3 => ?_)
 obtain ⟨r8, hr9, h⟩ := h
 refine st_freeze (fun τ4 hl5 hg6 => ?_)
 have hs7 := ho3.freeze hl5 hg6
 refine st_call (foot := []) rfl rfl rfl rfl rfl rfl (callV_fn z_en55 (dump_Describe_ok hr9 τ4 hs7 (hT.up hl5))) ?_
 rintro vτ10 τ10 gsτ10 hl11 ⟨v12, rfl, rfl, hs13⟩
 refine Z 3 rfl ?_
 refine st_cut (fun ρ τ14 gs => ∃ (s14 : Bool), law29_known_j1 s14 r ∧ τ10.Le τ14 ∧ ESub ρ [(0, .bool s14)] ∧ gs = []) ?_ (fun hk14 => ?_)
 ·rintro ρ14 τ14 gs14 ⟨s14, h, hl14, hρ, rfl⟩
  refine st_es hρ ?_
  obtain rfl := Eq.symm h
  exact st_ret (gs' := []) Tryd.func14 rfl (List.Sublist.refl _) ((hl5.trans hl11).trans hl14) ⟨rfl, rfl⟩
 refine st_region ?_
 refine o_litE (eI .u8) [0, 255] rfl rfl rfl z_slT22 z_zero5 ⟨rfl, ⟨_, rfl, rfl⟩, ⟨rfl, ⟨_, rfl, rfl⟩, trivial⟩⟩ rfl rfl rfl rfl (fun v15 g16 ho17 => ?_)
 obtain ⟨r22, hr23, h⟩ := h
 refine st_freeze (fun τ18 hl19 hg20 => ?_)
 have hs21 := ho17.freeze hl19 hg20
 refine st_call (foot := []) rfl rfl rfl rfl rfl rfl (callV_fn z_en9 (dump_Text_ok hr23 τ18 hs21)) ?_
 rintro vτ24 τ24 gsτ24 hl25 ⟨rfl, rfl⟩
 refine o_sbin (v := .bool (decide (r22 = (bstr [48, 48, 48, 48, 48, 48, 48, 48, 32, 48, 48, 32, 102, 102, 10])))) rfl rfl rfl rfl (ev_str z_str24) rfl ?_
 refine o_mif rfl rfl rfl rfl h (fun h => ?_) (fun h => ?_)
 ·refine o_move rfl rfl rfl rfl ?_
  refine o_lenI rfl rfl rfl z_slT98 rfl (hs13.up (hl19.trans hl25)) ?_
  refine Z 2 rfl ?_
  refine o_mif rfl rfl rfl rfl h (fun h => ?_) (fun h => ?_)
  ·refine o_move rfl rfl rfl rfl ?_
   obtain ⟨q26, hf27, h⟩ := h
   refine o_index rfl rfl rfl z_slT98 rfl rfl (hs13.up (hl19.trans hl25)) rfl hf27 (fun b28 of29 vs hc30 hrep => ?_)
   obtain rfl := hrep
   refine o_loadI (v := .string q26) rfl rfl rfl z_sc9 rfl (hc30 0 _ rfl) ?_
   refine o_sbin (v := .bool (decide (q26 = (bstr [48, 32, 115, 116, 117, 102, 102])))) rfl rfl rfl rfl (ev_str z_str25) rfl ?_
   refine Z 3 rfl ?_
   exact hk14 _ _ _ ⟨(decide (q26 = (bstr [48, 32, 115, 116, 117, 102, 102]))), h, (hl19.trans hl25), rfl, rfl⟩
  ·refine Z 7 rfl ?_
   exact hk14 _ _ _ ⟨false, h, (hl19.trans hl25), rfl, rfl⟩
 ·refine Z 12 rfl ?_
  exact hk14 _ _ _ ⟨false, h, (hl19.trans hl25), rfl, rfl⟩
theorem ref20_Split_ok {a0 : ByteArray} {a1 : Int} {r : List ByteArray} (h : ref20_Split a0 a1 r) (σ : Sto)  :
    Does Tryd.prog 56 [.string a0, .int .u8 a1] σ [] (fun v τ gs => ∃ (v34 : Value), gs = [] ∧ v34 = v ∧ Sl kS τ v34 r) := by
 refine call_of Tryd.func56 Tryd.ntmps56 rfl rfl (fun cs fs => ?_)
 refine Z 13 rfl ?_
 refine st_cut (fun ρ τ1 gs => ∃ (s1 : List ByteArray) (v2 : Value) (g3 : Grp), ref20_Split_j1 s1 r ∧ σ.Le τ1 ∧ ESub ρ [(4, .slice none 0 0), (5, v2)] ∧ gs = [g3] ∧ Ow kS 9 τ1 v2 s1 g3) ?_ (fun hk1 => ?_)
 ·rintro ρ1 τ1 gs1 ⟨s1, v2, g3, h, hl1, hρ, rfl, ho4⟩
  refine st_es hρ ?_
  refine Z 5 rfl ?_
  refine st_freeze (fun τ5 hl6 hg7 => ?_)
  have hs8 := ho4.freeze hl6 hg7
  obtain rfl := Eq.symm h
  exact st_ret (gs' := []) Tryd.func56 rfl (List.Sublist.refl _) (hl1.trans hl6) ⟨_, rfl, rfl, hs8⟩
 refine Z 4 rfl ?_
 obtain ⟨e11, hL11, hA11⟩ := h
 refine st_addNil ?_
 refine st_loop hL11 (fun (s11 : List ByteArray × Int × Int) ρ τ11 gs => σ.Le τ11 ∧ ∃ (v12 : Value) (g13 : Grp), ESub ρ [(0, .string a0), (1, .int .u8 a1), (4, .slice none 0 0), (5, v12), (6, .int .i64 s11.2.1), (7, .int .i64 s11.2.2)] ∧ gs = [g13] ∧ Ow kS 9 τ11 v12 s11.1 g13) ⟨Sto.Le.refl _, _, _, rfl, rfl, Ow.nil⟩ ?_
 rintro s11 o11 h he11 ρ11 τ11 gs11 ⟨hl11, v12, g13, hρ, rfl, ho14⟩ hn11
 refine st_es hρ ?_
 refine Z 8 rfl ?_
 refine st_if rfl h (fun h => ?_) (fun h => ?_)
 ·refine Z 2 rfl ?_
  refine st_cut (fun ρ τ15 gs => ∃ (s15 : List ByteArray × Int) (v16 : Value) (g17 : Grp), ref20_Split_j3 s11 s15 o11 ∧ τ11.Le τ15 ∧ ESub ρ [(0, .string a0), (1, .int .u8 a1), (4, .slice none 0 0), (5, v16), (6, .int .i64 s15.2), (7, .int .i64 s11.2.2)] ∧ gs = [g17] ∧ Ow kS 9 τ15 v16 s15.1 g17) ?_ (fun hk15 => ?_)
  ·rintro ρ15 τ15 gs15 ⟨s15, v16, g17, h, hl15, hρ, rfl, ho18⟩
   refine st_es hρ ?_
   refine Z 5 rfl ?_
   exact hn11 _ _ _ _ h ⟨(hl11.trans hl15), _, _, rfl, rfl, ho18⟩
  refine Z 2 rfl ?_
  refine st_cut (fun ρ τ19 gs => ∃ (s19 : Bool), ref20_Split_j4 a0 s11 s19 o11 ∧ τ11.Le τ19 ∧ ESub ρ [(0, .string a0), (1, .int .u8 a1), (4, .slice none 0 0), (5, v12), (6, .int .i64 s11.2.1), (7, .int .i64 s11.2.2), (24, .bool s19)] ∧ gs = [g13]) ?_ (fun hk19 => ?_)
  ·rintro ρ19 τ19 gs19 ⟨s19, h, hl19, hρ, rfl⟩
   refine st_es hρ ?_
   refine st_if rfl h (fun h => ?_) (fun h => ?_)
   ·refine Z 6 rfl ?_
    obtain ⟨hf20, hf21, hf22, h⟩ := h
    refine o_sliceS rfl rfl rfl Tryd.underlying9 rfl rfl rfl hf20 hf21 hf22 ?_
    refine o_litE eS [(a0.extract s11.2.1.toNat s11.2.2.toNat)] rfl rfl rfl z_slT98 z_zero9 ⟨rfl, ⟨_, rfl, rfl⟩, trivial⟩ rfl rfl rfl rfl (fun v23 g24 ho25 => ?_)
    obtain ⟨hf29, hf30, h⟩ := h
    refine st_ord [1, 0] _ rfl ?_
    refine o_append (dk := kS) (xs := s11.1) (ys := [(a0.extract s11.2.1.toNat s11.2.2.toNat)]) rfl rfl rfl rfl z_slT98 rfl (ho14.up hl19) rfl (Ow.src (j := 1) ho25 rfl) hf29 hf30 (fun v26 g27 ho28 => ?_)
    refine Z 8 rfl ?_
    refine st_ord [0] _ rfl ?_
    exact hk15 _ _ _ ⟨((s11.1 ++ [(a0.extract s11.2.1.toNat s11.2.2.toNat)]), (IntKind.i64.wrap (s11.2.2 + 1))), _, _, h, hl19, rfl, rfl, ho28⟩
   ·refine Z 2 rfl ?_
    exact hk15 _ _ _ ⟨(s11.1, s11.2.1), _, _, h, hl19, rfl, rfl, (ho14.up hl19)⟩
  refine Z 5 rfl ?_
  refine o_mif rfl rfl rfl rfl h (fun h => ?_) (fun h => ?_)
  ·refine Z 7 rfl ?_
   exact hk19 _ _ _ ⟨true, h, (Sto.Le.refl _), rfl, rfl⟩
  ·refine Z 2 rfl ?_
   obtain ⟨q31, hf32, h⟩ := h
   refine o_indexS rfl rfl rfl Tryd.underlying9 rfl rfl hf32 ?_
   refine Z 4 rfl ?_
   exact hk19 _ _ _ ⟨(decide (q31 = a1)), h, (Sto.Le.refl _), rfl, rfl⟩
 ·refine st_exit rfl ?_
  obtain rfl := he11 _ h
  replace h := hA11
  exact hk1 _ _ _ ⟨s11.1, _, _, h, hl11, rfl, rfl, ho14⟩
theorem ref26_Unhex_ok {a0 : ByteArray} {r : List Int × Int} (h : ref26_Unhex a0 r) (σ : Sto)  :
    Does Tryd.prog 57 [.string a0] σ [] (fun v τ gs => ∃ (v54 : Value), gs = [] ∧ .tuple [v54, .int .i64 r.2].toArray = v ∧ Sl (kI .u8) τ v54 r.1) := by
 refine call_of Tryd.func57 Tryd.ntmps57 rfl rfl (fun cs fs => ?_)
 refine Z 9 rfl ?_
 refine o_sbin (v := .bool (decide (a0 = (bstr [45])))) rfl rfl rfl rfl (ev_str z_str4) rfl ?_
 refine st_end ?_
 refine st_if rfl h (fun h => ?_) (fun h => ?_)
 ·refine Z 5 rfl ?_
  obtain rfl := Eq.symm h
  exact st_ret (gs' := []) Tryd.func57 rfl (List.Sublist.refl _) (Sto.Le.refl _) ⟨_, rfl, rfl, Sl.nil⟩
 ·refine Z 3 rfl ?_
  refine st_cut (fun ρ τ1 gs => ∃ (s1 : Bool), ref26_Unhex_j1 a0 s1 r ∧ σ.Le τ1 ∧ ESub ρ [(0, .string a0), (2, .slice none 0 0), (3, .int .i64 0), (17, .bool s1)] ∧ gs = []) ?_ (fun hk1 => ?_)
  ·rintro ρ1 τ1 gs1 ⟨s1, h, hl1, hρ, rfl⟩
   refine st_es hρ ?_
   refine st_if rfl h (fun h => ?_) (fun h => ?_)
   ·refine Z 5 rfl ?_
    obtain rfl := Eq.symm h
    exact st_ret (gs' := []) Tryd.func57 rfl (List.Sublist.refl _) hl1 ⟨_, rfl, rfl, Sl.nil⟩
   ·refine Z 6 rfl ?_
    refine st_cut (fun ρ τ2 gs => ∃ (s2 : List Int) (v3 : Value) (g4 : Grp), ref26_Unhex_j2 s2 r ∧ τ1.Le τ2 ∧ ESub ρ [(2, .slice none 0 0), (3, .int .i64 0), (4, v3)] ∧ gs = [g4] ∧ Ow (kI .u8) 5 τ2 v3 s2 g4) ?_ (fun hk2 => ?_)
    ·rintro ρ2 τ2 gs2 ⟨s2, v3, g4, h, hl2, hρ, rfl, ho5⟩
     refine st_es hρ ?_
     refine Z 6 rfl ?_
     refine st_freeze (fun τ6 hl7 hg8 => ?_)
     have hs9 := ho5.freeze hl7 hg8
     obtain rfl := Eq.symm h
     exact st_ret (gs' := []) Tryd.func57 rfl (List.Sublist.refl _) ((hl1.trans hl2).trans hl7) ⟨_, rfl, rfl, hs9⟩
    refine Z 4 rfl ?_
    obtain ⟨e12, hL12, hA12⟩ := h
    refine st_addNil ?_
    refine st_loop hL12 (fun (s12 : List Int × Int) ρ τ12 gs => τ1.Le τ12 ∧ ∃ (v13 : Value) (g14 : Grp), ESub ρ [(0, .string a0), (2, .slice none 0 0), (3, .int .i64 0), (4, v13), (5, .int .i64 s12.2)] ∧ gs = [g14] ∧ Ow (kI .u8) 5 τ12 v13 s12.1 g14) ⟨Sto.Le.refl _, _, _, rfl, rfl, Ow.nil⟩ ?_
    rintro s12 o12 h he12 ρ12 τ12 gs12 ⟨hl12, v13, g14, hρ, rfl, ho15⟩ hn12
    refine st_es hρ ?_
    refine Z 8 rfl ?_
    refine st_if rfl h (fun h => ?_) (fun h => ?_)
    ·refine Z 8 rfl ?_
     refine st_cut (fun ρ τ16 gs => ∃ (s16 : List Int × Bool) (v17 : Value) (g18 : Grp), ref26_Unhex_j4 s12 s16 o12 ∧ τ12.Le τ16 ∧ ESub ρ [(0, .string a0), (2, .slice none 0 0), (3, .int .i64 0), (4, v17), (5, .int .i64 s12.2), (6, .bool s16.2)] ∧ gs = [g18] ∧ Ow (kI .u8) 5 τ16 v17 s16.1 g18) ?_ (fun hk16 => ?_)
     ·rintro ρ16 τ16 gs16 ⟨s16, v17, g18, h, hl16, hρ, rfl, ho19⟩
      refine st_es hρ ?_
      refine Z 5 rfl ?_
      refine st_if rfl h (fun h => ?_) (fun h => ?_)
      ·refine Z 5 rfl ?_
       refine st_ord [] _ rfl ?_
       obtain rfl := he12 _ h
       replace h := hA12
       obtain rfl := Eq.symm h
       exact st_ret (gs' := []) Tryd.func57 rfl (List.Sublist.refl _) ((hl1.trans hl12).trans hl16) ⟨_, rfl, rfl, Sl.nil⟩
      ·refine Z 7 rfl ?_
       exact hn12 _ _ _ _ h ⟨(hl12.trans hl16), _, _, rfl, rfl, ho19⟩
     refine Z 4 rfl ?_
     obtain ⟨e20, hL20, hA20⟩ := h
     refine st_loop hL20 (fun (s20 : List Int × Bool × Int) ρ τ20 gs => τ12.Le τ20 ∧ ∃ (v21 : Value) (g22 : Grp), ESub ρ [(0, .string a0), (2, .slice none 0 0), (3, .int .i64 0), (4, v21), (5, .int .i64 s12.2), (6, .bool s20.2.1), (7, .int .i64 s20.2.2)] ∧ gs = [g22] ∧ Ow (kI .u8) 5 τ20 v21 s20.1 g22) ⟨Sto.Le.refl _, _, _, rfl, rfl, ho15⟩ ?_
     rintro s20 o20 h he20 ρ20 τ20 gs20 ⟨hl20, v21, g22, hρ, rfl, ho23⟩ hn20
     refine st_es hρ ?_
     refine Z 2 rfl ?_
     refine st_cut (fun ρ τ24 gs => ∃ (s24 : Bool), ref26_Unhex_j6 a0 s12 s20 s24 o20 ∧ τ20.Le τ24 ∧ ESub ρ [(0, .string a0), (2, .slice none 0 0), (3, .int .i64 0), (4, v21), (5, .int .i64 s12.2), (6, .bool s20.2.1), (7, .int .i64 s20.2.2), (29, .bool s24)] ∧ gs = [g22]) ?_ (fun hk24 => ?_)
     ·rintro ρ24 τ24 gs24 ⟨s24, h, hl24, hρ, rfl⟩
      refine st_es hρ ?_
      refine st_if rfl h (fun h => ?_) (fun h => ?_)
      ·refine Z 2 rfl ?_
       refine st_cut (fun ρ τ25 gs => ∃ (s25 : List Int × Bool) (v26 : Value) (g27 : Grp), ref26_Unhex_j7 s20 s25 o20 ∧ τ24.Le τ25 ∧ ESub ρ [(0, .string a0), (2, .slice none 0 0), (3, .int .i64 0), (4, v26), (5, .int .i64 s12.2), (6, .bool s25.2), (7, .int .i64 s20.2.2)] ∧ gs = [g27] ∧ Ow (kI .u8) 5 τ25 v26 s25.1 g27) ?_ (fun hk25 => ?_)
       ·rintro ρ25 τ25 gs25 ⟨s25, v26, g27, h, hl25, hρ, rfl, ho28⟩
        refine st_es hρ ?_
        refine Z 5 rfl ?_
        exact hn20 _ _ _ _ h ⟨((hl20.trans hl24).trans hl25), _, _, rfl, rfl, ho28⟩
       refine Z 2 rfl ?_
       obtain ⟨r29, hr30, q33, hf34, r36, hr37, q40, hf41, h⟩ := h
       let cc35 : Prop := (decide (r29 = q33)) = true
       refine st_draw 19 (dl [.v (.int .i64 s20.2.2), .v (.int .i64 (IntKind.i64.wrap (s20.2.2.tdiv 16))), .v (.int .u8 (IntKind.u8.wrap (IntKind.i64.wrap (s20.2.2.tdiv 16)))), .v (.int .u8 r29), .v (.string a0), .v (.int .i64 s12.2), .v (.int .u8 q33), .v (.bool (decide (r29 = q33))), .v (.bool (decide (r29 = q33))), .g cc35 (.int .i64 s20.2.2), .g cc35 (.int .i64 (s20.2.2.tmod 16)), .g cc35 (.int .u8 (IntKind.u8.wrap (s20.2.2.tmod 16))), .g cc35 (.int .u8 r36), .g cc35 (.string a0), .g cc35 (.int .i64 s12.2), .g cc35 (.int .i64 (IntKind.i64.wrap (s12.2 + 1))), .g cc35 (.int .u8 q40), .g cc35 (.bool (decide (r36 = q40))), .v (.bool ((decide (r29 = q33)) && (decide (r36 = q40))))]) (fun _ _ => []) z_mix rfl (dl_mono trivial) (allB_cons (allB_cons (allB_cons (allB_cons (allB_cons (allB_cons (allB_cons (allB_cons (allB_cons (allB_cons (allB_cons (allB_cons (allB_cons (allB_cons (allB_cons (allB_cons (allB_cons (allB_cons (allB_cons allB_nil (p1 dA)) (p1 dA)) (p1 dA)) ?_) (p1 dA)) (p1 dA)) ?_) (p1 dA)) (p1 dA)) (p1 (dG []))) (p1 (dG [9]))) (p1 (dG [10]))) ?_) (p1 (dG []))) (p1 (dG []))) (p1 (dG [14]))) ?_) (p1 (dG [12, 16]))) (p1 dK)) ?_
       ·intro ρ' τ pool rs hl hd hout hk
        obtain ⟨_, e2, rfl⟩ := hd 2 rfl
        refine st_call (foot := []) rfl rfl rfl rfl (evs_cons e2 rfl) rfl (callV_fn z_en78 (ref26_digit_ok hr30 τ)) ?_
        rintro vτ31 τ31 gsτ31 hl32 ⟨rfl, rfl⟩
        exact st_addNil (hk _ _ hl32 rfl)
       ·intro ρ' τ pool rs hl hd hout hk
        obtain ⟨_, e4, rfl⟩ := hd 4 rfl
        obtain ⟨_, e5, rfl⟩ := hd 5 rfl
        refine o_indexS rfl rfl rfl Tryd.underlying9 e4 e5 hf34 ?_
        exact st_addNil (hk _ _ (Sto.Le.refl _) rfl)
       ·intro ρ' τ pool rs hl hd hout hk
        obtain ⟨_, e8, rfl⟩ := hd 8 rfl
        obtain ⟨w11, e11, t11⟩ := hd 11 rfl
        by_cases hG : (decide (r29 = q33)) = true
        ·have hC := hG
         replace hr37 := hr37 hC
         obtain ⟨rfl⟩ := t11.1 hC
         refine st_call (foot := []) rfl (wants_of rfl e8 hG) rfl rfl (evs_cons e11 rfl) rfl (callV_fn z_en78 (ref26_digit_ok hr37 τ)) ?_
         rintro vτ38 τ38 gsτ38 hl39 ⟨rfl, rfl⟩
         exact st_addNil (hk _ _ hl39 ⟨fun _ => rfl, fun hn => absurd hC hn⟩)
        ·refine st_pass rfl rfl rfl e8 (beq_off hG) rfl ?_
         exact st_addNil (hk _ _ (Sto.Le.refl _) ⟨fun h => absurd h hG, fun _ => rfl⟩)
       ·intro ρ' τ pool rs hl hd hout hk
        obtain ⟨_, e8, rfl⟩ := hd 8 rfl
        obtain ⟨w13, e13, t13⟩ := hd 13 rfl
        obtain ⟨w15, e15, t15⟩ := hd 15 rfl
        by_cases hG : (decide (r29 = q33)) = true
        ·have hC := hG
         replace hf41 := hf41 hC
         obtain ⟨rfl⟩ := t13.1 hC
         obtain ⟨rfl⟩ := t15.1 hC
         refine o_indexS rfl (wants_of rfl e8 hG) rfl Tryd.underlying9 e13 e15 hf41 ?_
         exact st_addNil (hk _ _ (Sto.Le.refl _) ⟨fun _ => rfl, fun hn => absurd hC hn⟩)
        ·refine st_pass rfl rfl rfl e8 (beq_off hG) rfl ?_
         exact st_addNil (hk _ _ (Sto.Le.refl _) ⟨fun h => absurd h hG, fun _ => rfl⟩)
       intro ρ' τ42 vals hl42 hv hout
       refine st_ord [0] _ rfl ?_
       refine st_env (ρ' := [(50, .bool ((decide (r29 = q33)) && (decide (r36 = q40)))), (0, .string a0), (2, .slice none 0 0), (3, .int .i64 0), (4, v21), (5, .int .i64 s12.2), (6, .bool s20.2.1), (7, .int .i64 s20.2.2)]) ⟨(lv1 hv 18 rfl rfl), (hout 0 rfl).trans rfl, (hout 2 rfl).trans rfl, (hout 3 rfl).trans rfl, (hout 4 rfl).trans rfl, (hout 5 rfl).trans rfl, (hout 6 rfl).trans rfl, (hout 7 rfl).trans rfl, trivial⟩ ?_
       refine st_end ?_
       refine st_if rfl h (fun h => ?_) (fun h => ?_)
       ·refine Z 5 rfl ?_
        refine o_litE (eI .u8) [(IntKind.u8.wrap s20.2.2)] rfl rfl rfl z_slT22 z_zero5 ⟨rfl, ⟨_, rfl, rfl⟩, trivial⟩ rfl rfl rfl rfl (fun v43 g44 ho45 => ?_)
        obtain ⟨hf49, hf50, h⟩ := h
        refine st_ord [1, 0] _ rfl ?_
        refine o_append (dk := (kI .u8)) (xs := s20.1) (ys := [(IntKind.u8.wrap s20.2.2)]) rfl rfl rfl rfl z_slT22 rfl (ho23.up (hl24.trans hl42)) rfl (Ow.src (j := 1) ho45 rfl) hf49 hf50 (fun v46 g47 ho48 => ?_)
        refine Z 6 rfl ?_
        refine st_ord [0] _ rfl ?_
        exact hk25 _ _ _ ⟨((s20.1 ++ [(IntKind.u8.wrap s20.2.2)]), true), _, _, h, hl42, rfl, rfl, ho48⟩
       ·refine Z 2 rfl ?_
        exact hk25 _ _ _ ⟨(s20.1, s20.2.1), _, _, h, hl42, rfl, rfl, (ho23.up (hl24.trans hl42))⟩
      ·refine st_exit rfl ?_
       obtain rfl := he20 _ h
       replace h := hA20
       exact hk16 _ _ _ ⟨(s20.1, s20.2.1), _, _, h, (hl20.trans hl24), rfl, rfl, (ho23.up hl24)⟩
     refine Z 3 rfl ?_
     refine o_mif rfl rfl rfl rfl h (fun h => ?_) (fun h => ?_)
     ·refine Z 4 rfl ?_
      exact hk24 _ _ _ ⟨(!s20.2.1), h, (Sto.Le.refl _), rfl, rfl⟩
     ·refine Z 4 rfl ?_
      exact hk24 _ _ _ ⟨false, h, (Sto.Le.refl _), rfl, rfl⟩
    ·refine st_exit rfl ?_
     obtain rfl := he12 _ h
     replace h := hA12
     exact hk2 _ _ _ ⟨s12.1, _, _, h, hl12, rfl, rfl, ho15⟩
  refine Z 2 rfl ?_
  refine o_sbin (v := .bool (decide (a0 = (bstr [])))) rfl rfl rfl rfl (ev_str z_str0) rfl ?_
  refine o_mif rfl rfl rfl rfl h (fun h => ?_) (fun h => ?_)
  ·refine Z 6 rfl ?_
   exact hk1 _ _ _ ⟨true, h, (Sto.Le.refl _), rfl, rfl⟩
  ·refine Z 6 rfl ?_
   exact hk1 _ _ _ ⟨(decide (((a0.size : Int).tmod 2) = 1)), h, (Sto.Le.refl _), rfl, rfl⟩
theorem ref29_Parse_ok {a0 : ByteArray} {r : List Int × Int} (h : ref29_Parse a0 r) (σ : Sto)  :
    Does Tryd.prog 15 [.string a0] σ [] (fun v τ gs => ∃ (v104 : Value), gs = [] ∧ .tuple [v104, .int .i64 r.2].toArray = v ∧ Sl (kI .u8) τ v104 r.1) := by
 refine call_of Tryd.func15 Tryd.ntmps15 rfl rfl (fun cs fs => ?_)
 refine Z 12 rfl ?_
 obtain ⟨r1, hr2, h⟩ := h
 refine st_call (foot := []) rfl rfl rfl rfl rfl rfl (callV_fn z_en56 (ref20_Split_ok hr2 σ)) ?_
 rintro vτ3 τ3 gsτ3 hl4 ⟨v5, rfl, rfl, hs6⟩
 refine Z 3 rfl ?_
 refine st_cut (fun ρ τ7 gs => ∃ (s7 : List Int) (v8 : Value) (g9 : Grp), ref29_Parse_j1 s7 r ∧ τ3.Le τ7 ∧ ESub ρ [(2, .slice none 0 0), (3, .int .i64 0), (4, v8)] ∧ gs = [g9] ∧ Ow (kI .u8) 5 τ7 v8 s7 g9) ?_ (fun hk7 => ?_)
 ·rintro ρ7 τ7 gs7 ⟨s7, v8, g9, h, hl7, hρ, rfl, ho10⟩
  refine st_es hρ ?_
  refine Z 6 rfl ?_
  refine st_freeze (fun τ11 hl12 hg13 => ?_)
  have hs14 := ho10.freeze hl12 hg13
  obtain rfl := Eq.symm h
  exact st_ret (gs' := []) Tryd.func15 rfl (List.Sublist.refl _) ((hl4.trans hl7).trans hl12) ⟨_, rfl, rfl, hs14⟩
 refine Z 4 rfl ?_
 obtain ⟨e17, hL17, hA17⟩ := h
 refine st_addNil ?_
 refine st_loop hL17 (fun (s17 : List Int × Int) ρ τ17 gs => τ3.Le τ17 ∧ ∃ (v18 : Value) (g19 : Grp), ESub ρ [(2, .slice none 0 0), (3, .int .i64 0), (4, v18), (5, v5), (6, .int .i64 s17.2)] ∧ gs = [g19] ∧ Ow (kI .u8) 5 τ17 v18 s17.1 g19) ⟨Sto.Le.refl _, _, _, rfl, rfl, Ow.nil⟩ ?_
 rintro s17 o17 h he17 ρ17 τ17 gs17 ⟨hl17, v18, g19, hρ, rfl, ho20⟩ hn17
 refine st_es hρ ?_
 refine Z 5 rfl ?_
 refine o_lenI rfl rfl rfl z_slT98 rfl (hs6.up hl17) ?_
 refine Z 2 rfl ?_
 refine st_if rfl h (fun h => ?_) (fun h => ?_)
 ·refine Z 8 rfl ?_
  refine o_lenI rfl rfl rfl z_slT98 rfl (hs6.up hl17) ?_
  refine Z 3 rfl ?_
  refine st_if rfl h (fun h => ?_) (fun h => ?_)
  ·refine Z 5 rfl ?_
   obtain ⟨q21, hf22, h⟩ := h
   refine o_index rfl rfl rfl z_slT98 rfl rfl (hs6.up hl17) rfl hf22 (fun b23 of24 vs hc25 hrep => ?_)
   obtain rfl := hrep
   refine o_loadI (v := .string q21) rfl rfl rfl z_sc9 rfl (hc25 0 _ rfl) ?_
   refine o_sbin (v := .bool (!(decide (q21 = (bstr []))))) rfl rfl rfl rfl (ev_str z_str0) rfl ?_
   refine st_end ?_
   refine st_if rfl h (fun h => ?_) (fun h => ?_)
   ·refine Z 5 rfl ?_
    refine st_ord [] _ rfl ?_
    obtain rfl := he17 _ h
    replace h := hA17
    obtain rfl := Eq.symm h
    exact st_ret (gs' := []) Tryd.func15 rfl (List.Sublist.refl _) (hl4.trans hl17) ⟨_, rfl, rfl, Sl.nil⟩
   ·refine Z 2 rfl ?_
    obtain rfl := he17 _ h
    replace h := hA17
    exact hk7 _ _ _ ⟨s17.1, _, _, h, hl17, rfl, rfl, ho20⟩
  ·refine Z 5 rfl ?_
   obtain ⟨q26, hf27, h⟩ := h
   refine o_index rfl rfl rfl z_slT98 rfl rfl (hs6.up hl17) rfl hf27 (fun b28 of29 vs hc30 hrep => ?_)
   obtain rfl := hrep
   refine o_loadI (v := .string q26) rfl rfl rfl z_sc9 rfl (hc30 0 _ rfl) ?_
   obtain ⟨r31, hr32, h⟩ := h
   refine st_call (foot := []) rfl rfl rfl rfl rfl rfl (callV_fn z_en56 (ref20_Split_ok hr32 τ17)) ?_
   rintro vτ33 τ33 gsτ33 hl34 ⟨v35, rfl, rfl, hs36⟩
   refine Z 4 rfl ?_
   refine st_cut (fun ρ τ37 gs => ∃ (s37 : Bool), ref29_Parse_j3 s17 r31 s37 o17 ∧ τ33.Le τ37 ∧ ESub ρ [(2, .slice none 0 0), (3, .int .i64 0), (4, v18), (5, v5), (6, .int .i64 s17.2), (7, v35), (57, .bool s37)] ∧ gs = [g19]) ?_ (fun hk37 => ?_)
   ·rintro ρ37 τ37 gs37 ⟨s37, h, hl37, hρ, rfl⟩
    refine st_es hρ ?_
    refine st_if rfl h (fun h => ?_) (fun h => ?_)
    ·refine Z 5 rfl ?_
     refine st_ord [] _ rfl ?_
     obtain rfl := he17 _ h
     replace h := hA17
     obtain rfl := Eq.symm h
     exact st_ret (gs' := []) Tryd.func15 rfl (List.Sublist.refl _) (((hl4.trans hl17).trans hl34).trans hl37) ⟨_, rfl, rfl, Sl.nil⟩
    ·refine Z 4 rfl ?_
     obtain ⟨q38, hf39, h⟩ := h
     refine o_index rfl rfl rfl z_slT98 rfl rfl (hs36.up hl37) rfl hf39 (fun b40 of41 vs hc42 hrep => ?_)
     obtain rfl := hrep
     refine o_loadI (v := .string q38) rfl rfl rfl z_sc9 rfl (hc42 0 _ rfl) ?_
     obtain ⟨r43, hr44, h⟩ := h
     refine st_call (foot := []) rfl rfl rfl rfl rfl rfl (callV_fn z_en57 (ref26_Unhex_ok hr44 τ37)) ?_
     rintro vτ45 τ45 gsτ45 hl46 ⟨v47, rfl, rfl, hs48⟩
     refine Z 12 rfl ?_
     refine st_if rfl h (fun h => ?_) (fun h => ?_)
     ·refine Z 5 rfl ?_
      refine st_ord [] _ rfl ?_
      obtain rfl := he17 _ h
      replace h := hA17
      obtain rfl := Eq.symm h
      exact st_ret (gs' := []) Tryd.func15 rfl (List.Sublist.refl _) ((((hl4.trans hl17).trans hl34).trans hl37).trans hl46) ⟨_, rfl, rfl, Sl.nil⟩
     ·refine Z 6 rfl ?_
      refine st_cut (fun ρ τ49 gs => ∃ (s49 : List Int) (v50 : Value) (g51 : Grp), ref29_Parse_j4 s17 r43 s49 o17 ∧ τ45.Le τ49 ∧ ESub ρ [(2, .slice none 0 0), (3, .int .i64 0), (4, v18), (5, v5), (6, .int .i64 s17.2), (8, v47), (10, v50)] ∧ gs = [g19, g51] ∧ Ow (kI .u8) 5 τ49 v50 s49 g51) ?_ (fun hk49 => ?_)
      ·rintro ρ49 τ49 gs49 ⟨s49, v50, g51, h, hl49, hρ, rfl, ho52⟩
       refine st_es hρ ?_
       refine Z 4 rfl ?_
       obtain ⟨r53, hr54, h⟩ := h
       refine st_call (foot := []) rfl rfl rfl rfl rfl rfl (callV_fn z_en53 (ref26_Hex_ok hr54 τ49 (hs48.up hl49))) ?_
       rintro vτ55 τ55 gsτ55 hl56 ⟨rfl, rfl⟩
       refine o_move rfl rfl rfl rfl ?_
       refine o_lenO rfl rfl rfl z_slT22 rfl (ho20.up ((((hl34.trans hl37).trans hl46).trans hl49).trans hl56)) ?_
       obtain ⟨r57, hr58, h⟩ := h
       refine st_call (foot := []) rfl rfl rfl rfl rfl rfl (callV_fn z_en52 (ref29_place_ok hr58 τ55)) ?_
       rintro vτ59 τ59 gsτ59 hl60 ⟨rfl, rfl⟩
       refine Z 2 rfl ?_
       refine st_if rfl h (fun h => ?_) (fun h => ?_)
       ·refine Z 5 rfl ?_
        refine st_ord [] _ rfl ?_
        obtain rfl := he17 _ h
        replace h := hA17
        obtain rfl := Eq.symm h
        exact st_ret (gs' := []) Tryd.func15 rfl (List.Sublist.refl _) (((((((hl4.trans hl17).trans hl34).trans hl37).trans hl46).trans hl49).trans hl56).trans hl60) ⟨_, rfl, rfl, Sl.nil⟩
       ·refine Z 4 rfl ?_
        obtain ⟨hf64, hf65, h⟩ := h
        refine o_append (dk := (kI .u8)) (xs := s17.1) (ys := s49) rfl rfl rfl rfl z_slT22 rfl (ho20.up (((((hl34.trans hl37).trans hl46).trans hl49).trans hl56).trans hl60)) rfl (Ow.src (j := 1) (ho52.up (hl56.trans hl60)) rfl) hf64 hf65 (fun v61 g62 ho63 => ?_)
        refine Z 8 rfl ?_
        refine st_ord [0] _ rfl ?_
        exact hn17 _ _ _ _ h ⟨((((((hl17.trans hl34).trans hl37).trans hl46).trans hl49).trans hl56).trans hl60), _, _, rfl, rfl, ho63⟩
      refine Z 4 rfl ?_
      obtain ⟨e66, hL66, hA66⟩ := h
      refine st_addNil ?_
      refine st_ord [1, 0] _ rfl ?_
      refine st_loop hL66 (fun (s66 : List Int × Int) ρ τ66 gs => τ45.Le τ66 ∧ ∃ (v67 : Value) (g68 : Grp), ESub ρ [(2, .slice none 0 0), (3, .int .i64 0), (4, v18), (5, v5), (6, .int .i64 s17.2), (7, v35), (8, v47), (10, v67), (11, .int .i64 s66.2)] ∧ gs = [g19, g68] ∧ Ow (kI .u8) 5 τ66 v67 s66.1 g68) ⟨Sto.Le.refl _, _, _, rfl, rfl, Ow.nil⟩ ?_
      rintro s66 o66 h he66 ρ66 τ66 gs66 ⟨hl66, v67, g68, hρ, rfl, ho69⟩ hn66
      refine st_es hρ ?_
      refine Z 5 rfl ?_
      refine o_lenI rfl rfl rfl z_slT98 rfl (hs36.up ((hl37.trans hl46).trans hl66)) ?_
      refine Z 2 rfl ?_
      refine st_if rfl h (fun h => ?_) (fun h => ?_)
      ·refine Z 7 rfl ?_
       obtain ⟨q70, hf71, h⟩ := h
       refine o_index rfl rfl rfl z_slT98 rfl rfl (hs36.up ((hl37.trans hl46).trans hl66)) rfl hf71 (fun b72 of73 vs hc74 hrep => ?_)
       obtain rfl := hrep
       refine o_loadI (v := .string q70) rfl rfl rfl z_sc9 rfl (hc74 0 _ rfl) ?_
       obtain ⟨r75, hr76, h⟩ := h
       refine st_call (foot := []) rfl rfl rfl rfl rfl rfl (callV_fn z_en57 (ref26_Unhex_ok hr76 τ66)) ?_
       rintro vτ77 τ77 gsτ77 hl78 ⟨v79, rfl, rfl, hs80⟩
       refine Z 8 rfl ?_
       refine st_cut (fun ρ τ81 gs => ∃ (s81 : Bool), ref29_Parse_j6 s66 r75 s81 o66 ∧ τ77.Le τ81 ∧ ESub ρ [(2, .slice none 0 0), (3, .int .i64 0), (4, v18), (5, v5), (6, .int .i64 s17.2), (7, v35), (8, v47), (10, v67), (11, .int .i64 s66.2), (12, v79), (87, .bool s81)] ∧ gs = [g19, g68]) ?_ (fun hk81 => ?_)
       ·rintro ρ81 τ81 gs81 ⟨s81, h, hl81, hρ, rfl⟩
        refine st_es hρ ?_
        refine st_if rfl h (fun h => ?_) (fun h => ?_)
        ·refine Z 5 rfl ?_
         refine st_ord [] _ rfl ?_
         obtain rfl := he66 _ h
         replace h := hA66
         obtain rfl := he17 _ h
         replace h := hA17
         obtain rfl := Eq.symm h
         exact st_ret (gs' := []) Tryd.func15 rfl (List.Sublist.refl _) (((((((hl4.trans hl17).trans hl34).trans hl37).trans hl46).trans hl66).trans hl78).trans hl81) ⟨_, rfl, rfl, Sl.nil⟩
        ·refine Z 4 rfl ?_
         obtain ⟨q82, hf83, h⟩ := h
         refine o_index rfl rfl rfl z_slT22 rfl rfl (hs80.up hl81) rfl hf83 (fun b84 of85 vs hc86 hrep => ?_)
         obtain rfl := hrep
         refine o_loadI (v := .int .u8 q82) rfl rfl rfl z_sc5 rfl (hc86 0 _ rfl) ?_
         refine o_litE (eI .u8) [q82] rfl rfl rfl z_slT22 z_zero5 ⟨rfl, ⟨_, rfl, rfl⟩, trivial⟩ rfl rfl rfl rfl (fun v87 g88 ho89 => ?_)
         obtain ⟨hf93, hf94, h⟩ := h
         refine st_ord [2, 0, 0] _ rfl ?_
         refine o_append (dk := (kI .u8)) (xs := s66.1) (ys := [q82]) rfl rfl rfl rfl z_slT22 rfl (ho69.up (hl78.trans hl81)) rfl (Ow.src (j := 1) ho89 rfl) hf93 hf94 (fun v90 g91 ho92 => ?_)
         refine Z 8 rfl ?_
         refine st_ord [2, 0] _ rfl ?_
         exact hn66 _ _ _ _ h ⟨((hl66.trans hl78).trans hl81), _, _, rfl, rfl, ho92⟩
       refine Z 3 rfl ?_
       refine o_mif rfl rfl rfl rfl h (fun h => ?_) (fun h => ?_)
       ·refine Z 5 rfl ?_
        exact hk81 _ _ _ ⟨true, h, (Sto.Le.refl _), rfl, rfl⟩
       ·refine o_move rfl rfl rfl rfl ?_
        refine o_lenI rfl rfl rfl z_slT22 rfl hs80 ?_
        refine Z 3 rfl ?_
        exact hk81 _ _ _ ⟨(!(decide ((r75.1.length : Int) = 1))), h, (Sto.Le.refl _), rfl, rfl⟩
      ·refine st_exit rfl ?_
       obtain rfl := he66 _ h
       replace h := hA66
       exact hk49 _ _ _ ⟨s66.1, _, _, h, hl66, rfl, rfl, ho69⟩
   refine Z 2 rfl ?_
   refine o_lenI rfl rfl rfl z_slT98 rfl hs36 ?_
   refine o_ibin (v := .bool (decide ((r31.length : Int) < 2))) rfl rfl rfl rfl rfl rfl ?_
   refine o_mif rfl rfl rfl rfl h (fun h => ?_) (fun h => ?_)
   ·refine Z 18 rfl ?_
    exact hk37 _ _ _ ⟨true, h, (Sto.Le.refl _), rfl, rfl⟩
   ·refine o_move rfl rfl rfl rfl ?_
    refine o_lenI rfl rfl rfl z_slT98 rfl hs36 ?_
    refine Z 2 rfl ?_
    refine o_mif rfl rfl rfl rfl h (fun h => ?_) (fun h => ?_)
    ·refine Z 13 rfl ?_
     exact hk37 _ _ _ ⟨true, h, (Sto.Le.refl _), rfl, rfl⟩
    ·refine o_move rfl rfl rfl rfl ?_
     obtain ⟨q97, hf98, h⟩ := h
     refine o_index rfl rfl rfl z_slT98 rfl rfl hs36 rfl hf98 (fun b99 of100 vs hc101 hrep => ?_)
     obtain rfl := hrep
     refine o_loadI (v := .string q97) rfl rfl rfl z_sc9 rfl (hc101 0 _ rfl) ?_
     refine Z 3 rfl ?_
     refine o_mif rfl rfl rfl rfl h (fun h => ?_) (fun h => ?_)
     ·refine Z 6 rfl ?_
      exact hk37 _ _ _ ⟨true, h, (Sto.Le.refl _), rfl, rfl⟩
     ·refine o_move rfl rfl rfl rfl ?_
      refine o_lenO rfl rfl rfl z_slT22 rfl (ho20.up hl34) ?_
      refine Z 4 rfl ?_
      exact hk37 _ _ _ ⟨(!(decide (((s17.1.length : Int).tmod 16) = 0))), h, (Sto.Le.refl _), rfl, rfl⟩
 ·refine st_exit rfl ?_
  obtain rfl := he17 _ h
  replace h := hA17
  exact hk7 _ _ _ ⟨s17.1, _, _, h, hl17, rfl, rfl, ho20⟩
theorem law29_DumpParses_ok {a0 : ByteArray} {r : Bool} (h : law29_DumpParses a0 r) (σ : Sto) (hT : Tab Tryd.prog σ) :
    Does Tryd.prog 4 [.string a0] σ [] (fun v τ gs => gs = [] ∧ .bool r = v) := by
 refine call_of Tryd.func4 Tryd.ntmps4 rfl rfl (fun cs fs => ?_)
 refine Z 10 rfl ?_
 obtain ⟨hf1, hf2, h⟩ := h
 refine o_sliceSh rfl rfl rfl Tryd.underlying9 rfl rfl hf1 hf2 ?_
 refine Z 5 rfl ?_
 obtain ⟨r3, hr4, h⟩ := h
 refine st_call (foot := []) rfl rfl rfl rfl rfl rfl (callV_fn z_en10 (dump_Parse_ok hr4 σ)) ?_
 rintro vτ5 τ5 gsτ5 hl6 ⟨v7, rfl, rfl, hs8⟩
 refine Z 9 rfl ?_
 obtain ⟨r9, hr10, h⟩ := h
 refine st_call (foot := []) rfl rfl rfl rfl rfl rfl (callV_fn z_en15 (ref29_Parse_ok hr10 τ5)) ?_
 rintro vτ11 τ11 gsτ11 hl12 ⟨v13, rfl, rfl, hs14⟩
 refine Z 7 rfl ?_
 refine st_cut (fun ρ τ15 gs => ∃ (s15 : Bool), law29_DumpParses_j1 s15 r ∧ τ11.Le τ15 ∧ ESub ρ [(2, .bool s15)] ∧ gs = []) ?_ (fun hk15 => ?_)
 ·rintro ρ15 τ15 gs15 ⟨s15, h, hl15, hρ, rfl⟩
  refine st_es hρ ?_
  obtain rfl := Eq.symm h
  exact st_ret (gs' := []) Tryd.func4 rfl (List.Sublist.refl _) ((hl6.trans hl12).trans hl15) ⟨rfl, rfl⟩
 refine st_region ?_
 obtain ⟨r16, hr17, h⟩ := h
 refine st_call (foot := []) rfl rfl rfl rfl rfl rfl (callV_fn z_en14 (law29_known_ok hr17 τ11 (hT.up (hl6.trans hl12)))) ?_
 rintro vτ18 τ18 gsτ18 hl19 ⟨rfl, rfl⟩
 refine o_mif rfl rfl rfl rfl h (fun h => ?_) (fun h => ?_)
 ·refine Z 4 rfl ?_
  refine o_mif rfl rfl rfl rfl h (fun h => ?_) (fun h => ?_)
  ·refine Z 2 rfl ?_
   obtain ⟨r20, hr21, h⟩ := h
   refine st_call (foot := []) rfl rfl rfl rfl rfl rfl (callV_fn z_en12 (ref01_Same_ok hr21 τ18 (hs8.up (hl12.trans hl19)) (hs14.up hl19))) ?_
   rintro vτ22 τ22 gsτ22 hl23 ⟨rfl, rfl⟩
   refine o_pick rfl rfl rfl rfl rfl ?_
   refine o_mif rfl rfl rfl rfl h (fun h => ?_) (fun h => ?_)
   ·refine Z 2 rfl ?_
    refine o_mif rfl rfl rfl rfl h (fun h => ?_) (fun h => ?_)
    ·refine Z 8 rfl ?_
     exact hk15 _ _ _ ⟨true, h, (hl19.trans hl23), rfl, rfl⟩
    ·refine o_move rfl rfl rfl rfl ?_
     obtain ⟨r24, hr25, h⟩ := h
     refine st_call (foot := []) rfl rfl rfl rfl rfl rfl (callV_fn z_en9 (dump_Text_ok hr25 τ22 (hs8.up ((hl12.trans hl19).trans hl23)))) ?_
     rintro vτ26 τ26 gsτ26 hl27 ⟨rfl, rfl⟩
     refine Z 6 rfl ?_
     exact hk15 _ _ _ ⟨(decide (r24 = (a0.extract 0 (min (a0.size : Int) 800).toNat))), h, ((hl19.trans hl23).trans hl27), rfl, rfl⟩
   ·refine Z 11 rfl ?_
    exact hk15 _ _ _ ⟨false, h, (hl19.trans hl23), rfl, rfl⟩
  ·refine Z 16 rfl ?_
   exact hk15 _ _ _ ⟨false, h, hl19, rfl, rfl⟩
 ·refine Z 21 rfl ?_
  exact hk15 _ _ _ ⟨false, h, hl19, rfl, rfl⟩
end Go.Rel
