import Derived.Test.YtgokdchgjpneoaaDoorURel
import Derived.Test.YtgokdchgjpneoaaDoorUFacts
import Derived.Test.YtgokdchgjpneoaaDoorUWalk0
/-! The walks. -/
set_option linter.unusedVariables false
set_option linter.unusedSimpArgs false
set_option maxRecDepth 4000
set_option maxHeartbeats 4000000
namespace Go.Rel
open Go Go.Eng Go.Proofs
theorem dump_Rows_1_ok {c0 : List Int} {bc0 : Nat} {v1 : Value} {σ0 : Sto} (hc0_0 : Cel σ0 ⟨bc0, 0, none⟩ (v1)) (hs2 : Sl (kI .u8) σ0 v1 c0) :
    IterV Tryd.prog (fun τ x vx => ∃ (v61 : Value), vx = [.int .i64 x.1, v61] ∧ Sl (kI .u8) τ v61 x.2) (.func (.func 160) #[] [.pointer (some ⟨bc0, 0, none⟩)].toArray) σ0 [] (fun (_ : Unit) _ f => f = []) (dump_Rows_1 c0) := by
 intro S Y I y hyc hyo hIm hY s s' o hR σ g hle hIg
 obtain ⟨r, hr0⟩ : ∃ r, r = (s', o) := ⟨_, rfl⟩
 rw [← hr0] at hR
 have h := hR
 refine callV_of (caps := [.pointer (some ⟨bc0, 0, none⟩)]) z_en160 ?_
 refine call_of Tryd.func160 Tryd.ntmps160 rfl rfl (fun cs fs => ?_)
 refine st_ord [0] _ rfl ?_
 refine Z 7 rfl ?_
 obtain ⟨e3, hL3, hA3⟩ := h
 refine st_loop hL3 (fun (s3 : S × Int) ρ τ3 gs => σ.Le τ3 ∧ ∃ (g4 : Grp), ESub ρ [(0, y), (1, .pointer (some ⟨bc0, 0, none⟩)), (3, .int .i64 s3.2)] ∧ gs = [g4] ∧ I s3.1 τ3 g4) ⟨Sto.Le.refl _, g, rfl, rfl, hIg⟩ ?_
 rintro s3 o3 h he3 ρ3 τ3 gs3 ⟨hl3, g4, hρ, rfl, hI5⟩ hn3
 refine st_es hρ ?_
 refine Z 4 rfl ?_
 refine o_loadI (v := v1) rfl rfl rfl z_sc67 rfl (Cel.up hc0_0 (hle.trans hl3)) ?_
 refine o_lenI rfl rfl rfl z_slT67 rfl (hs2.up (hle.trans hl3)) ?_
 refine Z 2 rfl ?_
 refine st_if rfl h (fun h => ?_) (fun h => ?_)
 ·refine Z 7 rfl ?_
  refine o_loadI (v := v1) rfl rfl rfl z_sc67 rfl (Cel.up hc0_0 (hle.trans hl3)) ?_
  refine o_lenI rfl rfl rfl z_slT67 rfl (hs2.up (hle.trans hl3)) ?_
  refine Z 7 rfl ?_
  refine o_lit (dk := (kI .u8)) (xs := ([] : List Int)) (ps := []) (cs := []) rfl rfl rfl z_slT67 z_zero5 trivial rfl rfl rfl rfl Kd.Many.nil (fun v6 g7 ho8 => ?_)
  refine o_loadI (v := v1) rfl rfl rfl z_sc67 rfl (Cel.up hc0_0 (hle.trans hl3)) ?_
  refine Z 3 rfl ?_
  obtain ⟨hf9, hf10, hf11, hf12, hf13, h⟩ := h
  refine o_slice (L := s3.2) (H := (min (IntKind.i64.wrap (s3.2 + 16)) (c0.length : Int))) rfl rfl rfl z_slT67 rfl rfl (hs2.up (hle.trans hl3)) ⟨_, rfl⟩ ⟨_, rfl⟩ hf9 hf10 hf11 ⟨_, _, rfl, hf12, hf13⟩ (by simp) (fun v14 hs15 => ?_)
  obtain ⟨hf19, hf20, h⟩ := h
  refine o_append (dk := (kI .u8)) (xs := ([] : List Int)) (ys := ((c0.drop s3.2.toNat).take (((min (IntKind.i64.wrap (s3.2 + 16)) (c0.length : Int)) : Int) - s3.2).toNat)) rfl rfl rfl rfl z_slT67 rfl ho8 rfl (Sl.src hs15) hf19 hf20 (fun v16 g17 ho18 => ?_)
  obtain ⟨y25, u26, hy27, h⟩ := h
  refine st_freeze (fun τ21 hl22 hg23 => ?_)
  have hs24 := ho18.freeze hl22 hg23
  refine st_call (foot := [g4]) rfl rfl rfl rfl rfl rfl (hY (s3.2, (([] : List Int) ++ ((c0.drop s3.2.toNat).take (((min (IntKind.i64.wrap (s3.2 + 16)) (c0.length : Int)) : Int) - s3.2).toNat))) s3.1 _ _ _ _ _ (hle.trans (hl3.trans hl22)) hy27 ⟨_, rfl, hs24⟩ (hIm _ _ _ _ hl22 hI5)) ?_
  rintro vτ28 τ28 gsτ28 hl29 ⟨rfl, g30, rfl, hI31⟩
  refine Z 2 rfl ?_
  refine st_if rfl h (fun h => ?_) (fun h => ?_)
  ·refine Z 2 rfl ?_
   obtain rfl := he3 _ h
   replace h := hA3
   obtain rfl := Eq.symm h
   cases hr0
   exact st_fin (gs' := [g30, []]) Tryd.func160 rfl (by simp) ((hl3.trans hl22).trans hl29) ⟨g30, _, rfl, hI31, rfl⟩
  ·refine Z 7 rfl ?_
   exact hn3 _ _ _ _ h ⟨((hl3.trans hl22).trans hl29), g30, rfl, rfl, hI31⟩
 ·refine Z 2 rfl ?_
  obtain rfl := he3 _ h
  replace h := hA3
  obtain rfl := Eq.symm h
  cases hr0
  exact st_fin (gs' := [g4, []]) Tryd.func160 rfl (by simp) hl3 ⟨g4, _, rfl, hI5, rfl⟩
theorem dump_Rows_ok {a0 : List Int} {v1 : Value} {r : (((S : Type) → ((Int × List Int) → S → Bool × S → Prop) → S → S × Unit → Prop))} (h : dump_Rows a0 r) (σ : Sto) (hs2 : Sl (kI .u8) σ v1 a0) :
    Does Tryd.prog 127 [v1] σ [] (fun v τ gs => ∃ (f7 : Nat) (q8 : Array Value), gs = [] ∧ .func (.func f7) #[] q8 = v ∧ IterV Tryd.prog (fun τ x vx => ∃ (v63 : Value), vx = [.int .i64 x.1, v63] ∧ Sl (kI .u8) τ v63 x.2) (.func (.func f7) #[] q8) τ [] (fun (_ : Unit) _ f => f = []) r) := by
 refine call_of Tryd.func127 Tryd.ntmps127 rfl rfl (fun cs fs => ?_)
 refine Z 2 rfl ?_
 refine o_box (cs := [v1]) rfl rfl rfl rfl (oneL_sl hs2) (fun b3 => ?_)
 refine Z 4 rfl ?_
 refine st_freeze (fun τ4 hl5 hg6 => ?_)
 refine Z 3 rfl ?_
 obtain rfl := Eq.symm h
 exact st_ret (gs' := []) Tryd.func127 rfl (List.Sublist.refl _) hl5 ⟨_, _, rfl, rfl, (dump_Rows_1_ok (cel_of hg6 rfl) (hs2.up hl5))⟩
theorem strings_Builder_copyCheck_ok {a0 : Bool × List Int} {ba0 : Nat} {v1 : Value} {g2 : Grp} {r : (Bool × List Int)} (h : strings_Builder_copyCheck a0 r) (σ : Sto) (ho3 : Ow (kI .u8) 5 σ v1 a0.2 g2) :
    Does Tryd.prog 159 [.pointer (some ⟨ba0, 0, none⟩)] σ [[(ba0, .cells [bself ba0 a0.1, v1].toArray 194 (0, 0))], g2] (fun v τ gs => ∃ (v4 : Value) (g5 : Grp), gs = [[(ba0, .cells [bself ba0 r.1, v4].toArray 194 (0, 0))], g5] ∧ .tuple [].toArray = v ∧ Ow (kI .u8) 5 τ v4 r.2 g5) := by
 obtain rfl := h
 refine (check_does (show Lays.n240 _ _ from { Tryd.lays165 with }) Tryd.Builder_Extra_165.toX72).mono ?_
 rintro v τ gs _ ⟨rfl, rfl, rfl⟩
 exact ⟨_, _, rfl, rfl, ho3⟩
theorem strings_Builder_WriteByte_ok {a0 : Bool × List Int} {a1 : Int} {ba0 : Nat} {v1 : Value} {g2 : Grp} {r : Unit × (Bool × List Int)} (h : strings_Builder_WriteByte a0 a1 r) (σ : Sto) (ho3 : Ow (kI .u8) 5 σ v1 a0.2 g2) :
    Does Tryd.prog 126 [.pointer (some ⟨ba0, 0, none⟩), .int .u8 a1] σ [[(ba0, .cells [bself ba0 a0.1, v1].toArray 194 (0, 0))], g2] (fun v τ gs => ∃ (v19 : Value) (g20 : Grp), gs = [[(ba0, .cells [bself ba0 r.2.1, v19].toArray 194 (0, 0))], g20] ∧ .nilIface = v ∧ Ow (kI .u8) 5 τ v19 r.2.2 g20) := by
 refine call_of Tryd.func126 Tryd.ntmps126 rfl rfl (fun cs fs => ?_)
 refine Z 7 rfl ?_
 obtain ⟨r4, hr5, h⟩ := h
 refine st_call (foot := [[(ba0, .cells #[bself ba0 a0.1, v1] 194 (0, 0))], g2]) rfl rfl rfl rfl rfl rfl (callV_fn z_en159 (strings_Builder_copyCheck_ok hr5 σ ho3)) ?_
 rintro vτ6 τ6 gsτ6 hl7 ⟨v8, g9, rfl, rfl, ho10⟩
 refine ZZ 9 [0] rfl rfl ?_
 refine o_litE (eI .u8) [a1] rfl rfl rfl z_slT67 z_zero5 ⟨rfl, ⟨_, rfl, rfl⟩, trivial⟩ rfl rfl rfl rfl (fun v11 g12 ho13 => ?_)
 obtain ⟨hf17, hf18, h⟩ := h
 refine st_ord [2, 0, 0] _ rfl ?_
 refine o_append (dk := (kI .u8)) (xs := r4.2) (ys := [a1]) rfl rfl rfl rfl z_slT67 rfl ho10 rfl (Ow.src (j := 1) ho13 rfl) hf17 hf18 (fun v14 g15 ho16 => ?_)
 refine Z 2 rfl ?_
 refine o_store (j := 2) (vs := [v14]) (cs' := [bself ba0 r4.1, v14]) rfl rfl rfl z_size67 rfl rfl (oneL_ow ho16) (ones_cons ho16.one' ones_nil) rfl rfl rfl ?_
 refine st_gs [g15, g12, [(ba0, .cells #[bself ba0 r4.1, v14] 194 (0, 0))]] rfl ?_
 refine Z 5 rfl ?_
 refine st_ord [2, 0] _ rfl ?_
 obtain rfl := Eq.symm h
 exact st_ret (gs' := [[(ba0, .cells #[bself ba0 r4.1, v14] 194 (0, 0))], g15]) Tryd.func126 rfl (List.Sublist.refl _) hl7 ⟨_, _, rfl, rfl, ho16⟩
theorem dump_Text_1_ok {a0 : Int} {a1 : Int} {c0 : Bool × List Int} {bc0 : Nat} {v1 : Value} {g2 : Grp} {r : (Bool × List Int)} (h : dump_Text_1 a0 a1 c0 r) (σ : Sto) (ho3 : Ow (kI .u8) 5 σ v1 c0.2 g2) :
    Does Tryd.prog 125 [.int .u32 a0, .int .i64 a1, .pointer (some ⟨bc0, 0, none⟩)] σ [[(bc0, .cells [bself bc0 c0.1, v1].toArray 194 (0, 0))], g2] (fun v τ gs => ∃ (v19 : Value) (g20 : Grp), gs = [[(bc0, .cells [bself bc0 r.1, v19].toArray 194 (0, 0))], g20] ∧ .tuple [].toArray = v ∧ Ow (kI .u8) 5 τ v19 r.2 g20) := by
 refine call_of Tryd.func125 Tryd.ntmps125 rfl rfl (fun cs fs => ?_)
 refine Z 6 rfl ?_
 obtain ⟨e4, hL4, hA4⟩ := h
 refine st_loop hL4 (fun (s4 : Int × Bool × List Int) ρ τ4 gs => σ.Le τ4 ∧ ∃ (v5 : Value) (g6 : Grp), ESub ρ [(0, .int .u32 a0), (2, .pointer (some ⟨bc0, 0, none⟩)), (5, .int .i64 s4.1)] ∧ gs = [[(bc0, .cells #[bself bc0 s4.2.1, v5] 194 (0, 0))], g6] ∧ Ow (kI .u8) 5 τ4 v5 s4.2.2 g6) ⟨Sto.Le.refl _, _, _, rfl, rfl, ho3⟩ ?_
 rintro s4 o4 h he4 ρ4 τ4 gs4 ⟨hl4, v5, g6, hρ, rfl, ho7⟩ hn4
 refine st_es hρ ?_
 refine Z 6 rfl ?_
 refine st_if rfl h (fun h => ?_) (fun h => ?_)
 ·refine Z 7 rfl ?_
  obtain ⟨hf8, h⟩ := h
  refine o_shr rfl rfl rfl rfl rfl hf8 ?_
  refine o_ibin (v := .int .u32 (iand .u32 (ishr .u32 a0 (IntKind.i64.wrap (4 * s4.1))) 15)) rfl rfl rfl rfl rfl rfl ?_
  obtain ⟨q9, hf10, h⟩ := h
  refine o_indexS rfl rfl rfl Tryd.underlying9 (ev_str z_str29) rfl hf10 ?_
  obtain ⟨r11, hr12, h⟩ := h
  refine st_call (foot := [[(bc0, .cells #[bself bc0 s4.2.1, v5] 194 (0, 0))], g6]) rfl rfl rfl rfl rfl rfl (callV_fn z_en126 (strings_Builder_WriteByte_ok hr12 τ4 ho7)) ?_
  rintro vτ13 τ13 gsτ13 hl14 ⟨v15, g16, rfl, rfl, ho17⟩
  refine Z 7 rfl ?_
  exact hn4 _ _ _ _ h ⟨(hl4.trans hl14), _, _, rfl, rfl, ho17⟩
 ·refine st_exit rfl ?_
  obtain rfl := he4 _ h
  replace h := hA4
  obtain rfl := Eq.symm h
  exact st_fin (gs' := [[(bc0, .cells #[bself bc0 s4.2.1, v5] 194 (0, 0))], g6]) Tryd.func125 rfl (List.Sublist.refl _) hl4 ⟨_, _, rfl, rfl, ho7⟩
theorem strings_Builder_String_ok {a0 : Bool × List Int} {ba0 : Nat} {v1 : Value} {g2 : Grp} {r : ByteArray} (h : strings_Builder_String a0 r) (σ : Sto) (ho3 : Ow (kI .u8) 5 σ v1 a0.2 g2) :
    Does Tryd.prog 128 [.pointer (some ⟨ba0, 0, none⟩)] σ [[(ba0, .cells [bself ba0 a0.1, v1].toArray 194 (0, 0))], g2] (fun v τ gs => gs = [] ∧ .string r = v) := by
 obtain ⟨hk, rfl⟩ := h
 exact string_does Tryd.lays169 Tryd.Builder_Extra_169 hk ho3
theorem dump_Text_ok {a0 : List Int} {v1 : Value} {r : ByteArray} (h : dump_Text a0 r) (σ : Sto) (hs2 : Sl (kI .u8) σ v1 a0) :
    Does Tryd.prog 87 [v1] σ [] (fun v τ gs => gs = [] ∧ .string r = v) := by
 refine call_of Tryd.func87 Tryd.ntmps87 rfl rfl (fun cs fs => ?_)
 refine Z 2 rfl ?_
 refine o_assign rfl rfl rfl (ev_str z_str19) ?_
 refine Z 3 rfl ?_
 refine o_alloc rfl rfl rfl z_zero194 (fun b3 => ?_)
 refine Z 4 rfl ?_
 refine o_alloc rfl rfl rfl z_zero198 (fun b4 => ?_)
 refine ZZ 6 [0] rfl rfl ?_
 obtain ⟨r5, hr6, h⟩ := h
 refine st_call (foot := []) rfl rfl rfl rfl rfl rfl (callV_fn z_en127 (dump_Rows_ok hr6 σ hs2)) ?_
 rintro vτ7 τ7 gsτ7 hl8 ⟨f9, q10, rfl, rfl, hit11⟩
 refine Z 2 rfl ?_
 obtain ⟨t12, w12, hR12, hA12⟩ := h
 refine st_env (ρ' := [(2, .string (bstr [])), (3, .pointer (some ⟨b3, 0, none⟩)), (4, .pointer (some ⟨b4, 0, none⟩)), (11, .func (.func f9) #[] q10)]) ⟨rfl, rfl, rfl, rfl, trivial⟩ ?_
 refine st_addNil ?_
 refine st_ord [2, 1, 0] _ rfl ?_
 refine st_addNil ?_
 refine st_range (B := dump_Text_l1) (s0 := (false, [])) ranges_fctx rfl hit11 (Sto.Le.refl _) hR12 rfl (fun _ _ _ h => by obtain ⟨_, rfl, _⟩ := h; rfl) (fun (s12 : Bool × List Int) τ12 gs => τ7.Le τ12 ∧ ∃ (v13 : Value) (g14 : Grp), gs = [[(b3, .cells #[bself b3 s12.1, v13] 194 (0, 0))], [(b4, .cells #[.func (.func 125) #[] #[.pointer (some ⟨b3, 0, none⟩)]] 198 (0, 0))], g14] ∧ Ow (kI .u8) 5 τ12 v13 s12.2 g14) (fun _ _ _ _ => False) (fun _ _ _ _ hl ⟨hb, v13, g14, hg, ho15⟩ => ⟨hb.trans hl, v13, g14, hg, ho15.up hl⟩) (fun _ _ _ _ _ _ h => h.elim) ⟨Sto.Le.refl _, _, _, rfl, Ow.nil⟩ ?_ ?_ ?_
 ·rintro x12 s12 o12 τ12 gs12 vx12 hl12 h ⟨v16, rfl, hs17⟩ ⟨hb12, v13, g14, rfl, ho15⟩ l12 rc12 caller12 cs12 fs12
  refine Z 7 rfl ?_
  refine st_begin ?_
  refine ZZ 6 [1] rfl rfl ?_
  obtain ⟨r18, hr19, h⟩ := h
  refine st_ord [0, 1, 0] _ rfl ?_
  refine st_call (foot := [[(b3, .cells #[bself b3 s12.1, v13] 194 (0, 0))], g14]) rfl rfl rfl rfl rfl rfl (callV_of2 (caps := [.pointer (some ⟨b3, 0, none⟩)]) z_en125 (dump_Text_1_ok hr19 τ12 ho15) rfl) ?_
  rintro vτ20 τ20 gsτ20 hl21 ⟨v22, g23, rfl, rfl, ho24⟩
  refine Z 2 rfl ?_
  refine st_cut (fun ρ τ25 gs => ∃ (s25 : Bool × List Int) (v26 : Value) (g27 : Grp), dump_Text_j2 s25 o12 ∧ τ20.Le τ25 ∧ ESub ρ [(2, .string (bstr [])), (3, .pointer (some ⟨b3, 0, none⟩)), (4, .pointer (some ⟨b4, 0, none⟩)), (12, .int .i64 x12.1), (13, v16), (5, .int .i64 x12.1), (6, v16)] ∧ gs = [[(b3, .cells #[bself b3 s25.1, v26] 194 (0, 0))], [(b4, .cells #[.func (.func 125) #[] #[.pointer (some ⟨b3, 0, none⟩)]] 198 (0, 0))], g27] ∧ Ow (kI .u8) 5 τ25 v26 s25.2 g27) ?_ (fun hk25 => ?_)
  ·rintro ρ25 τ25 gs25 ⟨s25, v26, g27, h, hl25, hρ, rfl, ho28⟩
   refine st_es hρ ?_
   refine st_region ?_
   obtain ⟨r29, hr30, h⟩ := h
   refine st_ord [0, 1, 0] _ rfl ?_
   refine st_call (foot := [[(b3, .cells #[bself b3 s25.1, v26] 194 (0, 0))], g27]) rfl rfl rfl rfl rfl rfl (callV_fn z_en126 (strings_Builder_WriteByte_ok hr30 τ25 ho28)) ?_
   rintro vτ31 τ31 gsτ31 hl32 ⟨v33, g34, rfl, rfl, ho35⟩
   refine Z 2 rfl ?_
   refine st_ord [0, 1, 0] _ rfl ?_
   exact st_rend (List.Sublist.refl _) ((hl21.trans hl25).trans hl32) ⟨_, h, (((hl12.trans hl21).trans hl25).trans hl32), _, _, rfl, ho35⟩
  refine Z 3 rfl ?_
  refine o_lenI rfl rfl rfl z_slT67 rfl (hs17.up hl21) ?_
  refine Z 2 rfl ?_
  obtain ⟨e36, hL36, hA36⟩ := h
  refine st_ord [0, 1, 0] _ rfl ?_
  refine st_loop hL36 (fun (s36 : Int × Bool × List Int) ρ τ36 gs => τ20.Le τ36 ∧ ∃ (v37 : Value) (g38 : Grp), ESub ρ [(2, .string (bstr [])), (3, .pointer (some ⟨b3, 0, none⟩)), (4, .pointer (some ⟨b4, 0, none⟩)), (12, .int .i64 x12.1), (13, v16), (5, .int .i64 x12.1), (6, v16), (18, v16), (19, .int .i64 (x12.2.length : Int)), (20, .int .i64 s36.1)] ∧ gs = [[(b3, .cells #[bself b3 s36.2.1, v37] 194 (0, 0))], [(b4, .cells #[.func (.func 125) #[] #[.pointer (some ⟨b3, 0, none⟩)]] 198 (0, 0))], g38] ∧ Ow (kI .u8) 5 τ36 v37 s36.2.2 g38) ⟨Sto.Le.refl _, _, _, rfl, rfl, ho24⟩ ?_
  rintro s36 o36 h he36 ρ36 τ36 gs36 ⟨hl36, v37, g38, hρ, rfl, ho39⟩ hn36
  refine st_es hρ ?_
  refine Z 5 rfl ?_
  refine st_if rfl h (fun h => ?_) (fun h => ?_)
  ·refine Z 5 rfl ?_
   obtain ⟨q40, hf41, h⟩ := h
   refine o_index rfl rfl rfl z_slT67 rfl rfl (hs17.up (hl21.trans hl36)) rfl hf41 (fun b42 of43 vs hc44 hrep => ?_)
   obtain rfl := hrep
   refine o_loadI (v := .int .u8 q40) rfl rfl rfl z_sc5 rfl (hc44 0 _ rfl) ?_
   refine Z 4 rfl ?_
   obtain ⟨r45, hr46, h⟩ := h
   refine st_ord [0, 1, 0] _ rfl ?_
   refine st_call (foot := [[(b3, .cells #[bself b3 s36.2.1, v37] 194 (0, 0))], g38]) rfl rfl rfl rfl rfl rfl (callV_fn z_en126 (strings_Builder_WriteByte_ok hr46 τ36 ho39)) ?_
   rintro vτ47 τ47 gsτ47 hl48 ⟨v49, g50, rfl, rfl, ho51⟩
   refine ZZ 5 [2] rfl rfl ?_
   obtain ⟨r52, hr53, h⟩ := h
   refine st_call (foot := [[(b3, .cells #[bself b3 r45.2.1, v49] 194 (0, 0))], g50]) rfl rfl rfl rfl rfl rfl (callV_of2 (caps := [.pointer (some ⟨b3, 0, none⟩)]) z_en125 (dump_Text_1_ok hr53 τ47 ho51) rfl) ?_
   rintro vτ54 τ54 gsτ54 hl55 ⟨v56, g57, rfl, rfl, ho58⟩
   refine Z 6 rfl ?_
   refine st_ord [0, 1, 0] _ rfl ?_
   exact hn36 _ _ _ _ h ⟨((hl36.trans hl48).trans hl55), _, _, rfl, rfl, ho58⟩
  ·refine st_exit rfl ?_
   obtain rfl := he36 _ h
   replace h := hA36
   exact hk25 _ _ _ ⟨(s36.2.1, s36.2.2), _, _, h, hl36, rfl, rfl, ho39⟩
 ·rintro p60 τ61 gs12 f12 ht hl62 ⟨hb, v63, g64, rfl, ho65⟩ rfl
  subst ht
  replace h := hA12
  refine st_ord [1, 1, 1] _ rfl ?_
  refine Z 3 rfl ?_
  obtain ⟨r66, hr67, h⟩ := h
  refine st_ord [0, 1, 0] _ rfl ?_
  refine st_call (foot := [[(b3, .cells #[bself b3 p60.1, v63] 194 (0, 0))], g64]) rfl rfl rfl rfl rfl rfl (callV_fn z_en128 (strings_Builder_String_ok hr67 τ61 ho65)) ?_
  rintro vτ68 τ68 gsτ68 hl69 ⟨rfl, rfl⟩
  refine Z 2 rfl ?_
  refine st_ord [] _ rfl ?_
  obtain rfl := Eq.symm h
  exact st_ret (gs' := []) Tryd.func87 rfl (List.Sublist.refl _) ((hl8.trans hl62).trans hl69) ⟨rfl, rfl⟩
 ·exact fun _ _ _ _ _ _ _ h => h.elim
theorem law29_known_ok  {r : Bool} (h : law29_known r) (σ : Sto) (hT : Tab Tryd.prog σ) :
    Does Tryd.prog 35 [] σ [] (fun v τ gs => gs = [] ∧ .bool r = v) := by
 refine call_of Tryd.func35 Tryd.ntmps35 rfl rfl (fun cs fs => ?_)
 refine Z 6 rfl ?_
 refine o_litE (eI .u8) [3, 3, 0] rfl rfl rfl z_slT67 z_zero5 ⟨rfl, ⟨_, rfl, rfl⟩, ⟨rfl, ⟨_, rfl, rfl⟩, ⟨rfl, ⟨_, rfl, rfl⟩, trivial⟩⟩⟩ rfl rfl rfl rfl (fun v1 g2 ho3 => ?_)
 obtain ⟨r8, hr9, h⟩ := h
 refine st_freeze (fun τ4 hl5 hg6 => ?_)
 have hs7 := ho3.freeze hl5 hg6
 refine st_call (foot := []) rfl rfl rfl rfl rfl rfl (callV_fn z_en37 (dump_Describe_ok hr9 τ4 hs7 (hT.up hl5))) ?_
 rintro vτ10 τ10 gsτ10 hl11 ⟨v12, rfl, rfl, hs13⟩
 refine Z 3 rfl ?_
 refine st_cut (fun ρ τ14 gs => ∃ (s14 : Bool), law29_known_j1 s14 r ∧ τ10.Le τ14 ∧ ESub ρ [(0, .bool s14)] ∧ gs = []) ?_ (fun hk14 => ?_)
 ·rintro ρ14 τ14 gs14 ⟨s14, h, hl14, hρ, rfl⟩
  refine st_es hρ ?_
  obtain rfl := Eq.symm h
  exact st_ret (gs' := []) Tryd.func35 rfl (List.Sublist.refl _) ((hl5.trans hl11).trans hl14) ⟨rfl, rfl⟩
 refine st_region ?_
 refine o_litE (eI .u8) [0, 255] rfl rfl rfl z_slT67 z_zero5 ⟨rfl, ⟨_, rfl, rfl⟩, ⟨rfl, ⟨_, rfl, rfl⟩, trivial⟩⟩ rfl rfl rfl rfl (fun v15 g16 ho17 => ?_)
 obtain ⟨r22, hr23, h⟩ := h
 refine st_freeze (fun τ18 hl19 hg20 => ?_)
 have hs21 := ho17.freeze hl19 hg20
 refine st_call (foot := []) rfl rfl rfl rfl rfl rfl (callV_fn z_en87 (dump_Text_ok hr23 τ18 hs21)) ?_
 rintro vτ24 τ24 gsτ24 hl25 ⟨rfl, rfl⟩
 refine o_sbin (v := .bool (decide (r22 = (bstr [48, 48, 48, 48, 48, 48, 48, 48, 32, 48, 48, 32, 102, 102, 10])))) rfl rfl rfl rfl (ev_str z_str58) rfl ?_
 refine o_mif rfl rfl rfl rfl h (fun h => ?_) (fun h => ?_)
 ·refine o_move rfl rfl rfl rfl ?_
  refine o_lenI rfl rfl rfl z_slT68 rfl (hs13.up (hl19.trans hl25)) ?_
  refine Z 2 rfl ?_
  refine o_mif rfl rfl rfl rfl h (fun h => ?_) (fun h => ?_)
  ·refine o_move rfl rfl rfl rfl ?_
   obtain ⟨q26, hf27, h⟩ := h
   refine o_index rfl rfl rfl z_slT68 rfl rfl (hs13.up (hl19.trans hl25)) rfl hf27 (fun b28 of29 vs hc30 hrep => ?_)
   obtain rfl := hrep
   refine o_loadI (v := .string q26) rfl rfl rfl z_sc9 rfl (hc30 0 _ rfl) ?_
   refine o_sbin (v := .bool (decide (q26 = (bstr [48, 32, 115, 116, 117, 102, 102])))) rfl rfl rfl rfl (ev_str z_str59) rfl ?_
   refine Z 3 rfl ?_
   exact hk14 _ _ _ ⟨(decide (q26 = (bstr [48, 32, 115, 116, 117, 102, 102]))), h, (hl19.trans hl25), rfl, rfl⟩
  ·refine Z 7 rfl ?_
   exact hk14 _ _ _ ⟨false, h, (hl19.trans hl25), rfl, rfl⟩
 ·refine Z 12 rfl ?_
  exact hk14 _ _ _ ⟨false, h, (hl19.trans hl25), rfl, rfl⟩
theorem law25_Lines_ok {a0 : List ByteArray} {a1 : List ByteArray} {v1 : Value} {v3 : Value} {r : Bool} (h : law25_Lines a0 a1 r) (σ : Sto) (hs2 : Sl kS σ v1 a0) (hs4 : Sl kS σ v3 a1) :
    Does Tryd.prog 36 [v1, v3] σ [] (fun v τ gs => gs = [] ∧ .bool r = v) := by
 refine call_of Tryd.func36 Tryd.ntmps36 rfl rfl (fun cs fs => ?_)
 refine Z 8 rfl ?_
 refine o_lenI rfl rfl rfl z_slT68 rfl hs2 ?_
 refine o_move rfl rfl rfl rfl ?_
 refine o_lenI rfl rfl rfl z_slT68 rfl hs4 ?_
 refine Z 2 rfl ?_
 refine st_if rfl h (fun h => ?_) (fun h => ?_)
 ·refine Z 4 rfl ?_
  obtain rfl := Eq.symm h
  exact st_ret (gs' := []) Tryd.func36 rfl (List.Sublist.refl _) (Sto.Le.refl _) ⟨rfl, rfl⟩
 ·refine Z 2 rfl ?_
  refine st_cut (fun ρ τ5 gs => ∃ (s5 : Unit), law25_Lines_j1 s5 r ∧ σ.Le τ5 ∧ ESub ρ [(4, .bool false)] ∧ gs = []) ?_ (fun hk5 => ?_)
  ·rintro ρ5 τ5 gs5 ⟨s5, h, hl5, hρ, rfl⟩
   refine st_es hρ ?_
   refine Z 4 rfl ?_
   obtain rfl := Eq.symm h
   exact st_ret (gs' := []) Tryd.func36 rfl (List.Sublist.refl _) hl5 ⟨rfl, rfl⟩
  refine Z 4 rfl ?_
  obtain ⟨e6, hL6, hA6⟩ := h
  refine st_loop hL6 (fun (s6 : Int) ρ τ6 gs => σ.Le τ6 ∧ ESub ρ [(0, v1), (1, v3), (4, .bool false), (5, .int .i64 s6)] ∧ gs = []) ⟨Sto.Le.refl _, rfl, rfl⟩ ?_
  rintro s6 o6 h he6 ρ6 τ6 gs6 ⟨hl6, hρ, rfl⟩ hn6
  refine st_es hρ ?_
  refine Z 5 rfl ?_
  refine o_lenI rfl rfl rfl z_slT68 rfl (hs2.up hl6) ?_
  refine Z 2 rfl ?_
  refine st_if rfl h (fun h => ?_) (fun h => ?_)
  ·refine Z 4 rfl ?_
   obtain ⟨q7, hf8, q12, hf13, h⟩ := h
   refine st_draw 9 (dl [.v (v1), .v (.int .i64 s6), .t fun τ v => ∃ (b9 : Nat) (of10 : Nat) (vsb9 : List Value), (.pointer (some ⟨b9, of10, none⟩) : Value) = v ∧ CelN τ ⟨b9, of10, none⟩ vsb9 ∧ kS.rep τ vsb9 q7, .v (.string q7), .v (v3), .v (.int .i64 s6), .t fun τ v => ∃ (b14 : Nat) (of15 : Nat) (vsb14 : List Value), (.pointer (some ⟨b14, of15, none⟩) : Value) = v ∧ CelN τ ⟨b14, of15, none⟩ vsb14 ∧ kS.rep τ vsb14 q12, .v (.string q12), .v (.bool (!(decide (q7 = q12))))]) (fun _ _ => []) z_mix rfl (dl_mono ⟨fun _ _ _ hl ⟨b9, of10, vsb9, hv, hc11, hrepb9⟩ => ⟨b9, of10, vsb9, hv, hc11.up hl, Kd.mono _ hl hrepb9⟩, ⟨fun _ _ _ hl ⟨b14, of15, vsb14, hv, hc16, hrepb14⟩ => ⟨b14, of15, vsb14, hv, hc16.up hl, Kd.mono _ hl hrepb14⟩, trivial⟩⟩) (allB_cons (allB_cons (allB_cons (allB_cons (allB_cons (allB_cons (allB_cons (allB_cons (allB_cons allB_nil (p1 dA)) (p1 dA)) ?_) ?_) (p1 dA)) (p1 dA)) ?_) ?_) (p1 dA)) ?_
   ·intro ρ' τ pool rs hl hd hout hk
    obtain ⟨_, e0, rfl⟩ := hd 0 rfl
    obtain ⟨_, e1, rfl⟩ := hd 1 rfl
    refine o_index rfl rfl rfl z_slT68 rfl e0 (hs2.up (hl6.trans hl)) e1 hf8 (fun b9 of10 vsb9 hc11 hrepb9 => ?_)
    exact st_addNil (hk _ _ (Sto.Le.refl _) ⟨b9, of10, _, rfl, hc11, hrepb9⟩)
   ·intro ρ' τ pool rs hl hd hout hk
    obtain ⟨_, e2, b9, of10, vsb9, rfl, hc11, hrepb9⟩ := hd 2 rfl
    have hrepb9 := hrepb9
    obtain rfl := hrepb9
    refine o_loadI (v := .string q7) rfl rfl rfl z_sc9 e2 (hc11 0 _ rfl) ?_
    exact st_addNil (hk _ _ (Sto.Le.refl _) rfl)
   ·intro ρ' τ pool rs hl hd hout hk
    obtain ⟨_, e4, rfl⟩ := hd 4 rfl
    obtain ⟨_, e5, rfl⟩ := hd 5 rfl
    refine o_index rfl rfl rfl z_slT68 rfl e4 (hs4.up (hl6.trans hl)) e5 hf13 (fun b14 of15 vsb14 hc16 hrepb14 => ?_)
    exact st_addNil (hk _ _ (Sto.Le.refl _) ⟨b14, of15, _, rfl, hc16, hrepb14⟩)
   ·intro ρ' τ pool rs hl hd hout hk
    obtain ⟨_, e6, b14, of15, vsb14, rfl, hc16, hrepb14⟩ := hd 6 rfl
    have hrepb14 := hrepb14
    obtain rfl := hrepb14
    refine o_loadI (v := .string q12) rfl rfl rfl z_sc9 e6 (hc16 0 _ rfl) ?_
    exact st_addNil (hk _ _ (Sto.Le.refl _) rfl)
   intro ρ' τ17 vals hl17 hv hout
   refine st_ord [] _ rfl ?_
   refine st_env (ρ' := [(25, .bool (!(decide (q7 = q12)))), (0, v1), (1, v3), (4, .bool false), (5, .int .i64 s6)]) ⟨(lv1 hv 8 rfl rfl), (hout 0 rfl).trans rfl, (hout 1 rfl).trans rfl, (hout 4 rfl).trans rfl, (hout 5 rfl).trans rfl, trivial⟩ ?_
   refine st_end ?_
   refine st_if rfl h (fun h => ?_) (fun h => ?_)
   ·refine Z 4 rfl ?_
    obtain rfl := he6 _ h
    replace h := hA6
    obtain rfl := Eq.symm h
    exact st_ret (gs' := []) Tryd.func36 rfl (List.Sublist.refl _) (hl6.trans hl17) ⟨rfl, rfl⟩
   ·refine Z 7 rfl ?_
    exact hn6 _ _ _ _ h ⟨(hl6.trans hl17), rfl, rfl⟩
  ·refine st_exit rfl ?_
   obtain rfl := he6 _ h
   replace h := hA6
   exact hk5 _ _ _ ⟨(), h, hl6, rfl, rfl⟩
theorem law29_DumpDescribes_ok {a0 : List Int} {a1 : Int} {v1 : Value} {r : Bool} (h : law29_DumpDescribes a0 a1 r) (σ : Sto) (hs2 : Sl (kI .u8) σ v1 a0) (hT : Tab Tryd.prog σ) :
    Does Tryd.prog 7 [v1, .int .i64 a1] σ [] (fun v τ gs => gs = [] ∧ .bool r = v) := by
 refine call_of Tryd.func7 Tryd.ntmps7 rfl rfl (fun cs fs => ?_)
 refine Z 2 rfl ?_
 refine o_boxC rfl rfl rfl rfl rfl rfl (fun b3 => ?_)
 refine o_alloc rfl rfl rfl z_zero4 (fun b4 => ?_)
 refine Z 5 rfl ?_
 refine o_lenI rfl rfl rfl z_slT67 rfl hs2 ?_
 refine o_min2 rfl rfl rfl rfl rfl ?_
 obtain ⟨hf5, hf6, h⟩ := h
 refine o_slice (L := 0) (H := (min (a0.length : Int) 900)) rfl rfl rfl z_slT67 rfl rfl hs2 rfl ⟨_, rfl⟩ (by decide) hf5 hf6 trivial (by simp) (fun v7 hs8 => ?_)
 refine Z 5 rfl ?_
 obtain ⟨r9, hr10, h⟩ := h
 refine st_call (foot := []) rfl rfl rfl rfl rfl rfl (callV_fn z_en33 (ref29_Describe_ok hr10 σ hs8)) ?_
 rintro vτ11 τ11 gsτ11 hl12 ⟨v13, v15, rfl, rfl, hs14, hs16⟩
 refine Z 3 rfl ?_
 refine o_alloc rfl rfl rfl z_zero68 (fun b17 => ?_)
 refine o_alloc rfl rfl rfl z_zero24 (fun b18 => ?_)
 refine o_store (j := 1) (vs := [v13]) (cs' := [v13]) rfl rfl rfl z_size68 rfl rfl (oneL_sl hs14) (ones_cons hs14.one' ones_nil) rfl rfl rfl ?_
 refine st_gs [[(b18, .cells #[.slice none 0 0] 24 (0, 0))], [(b17, .cells #[v13] 68 (0, 0))], [(b4, .cells #[.bool false] 4 (0, 0))], [(b3, .cells #[.int .i64 a1] 3 (0, 0))]] rfl ?_
 refine o_store (j := 0) (vs := [v15]) (cs' := [v15]) rfl rfl rfl z_size24 rfl rfl (oneL_sl hs16) (ones_cons hs16.one' ones_nil) rfl rfl rfl ?_
 refine st_gs [[(b18, .cells #[v15] 24 (0, 0))], [(b17, .cells #[v13] 68 (0, 0))], [(b4, .cells #[.bool false] 4 (0, 0))], [(b3, .cells #[.int .i64 a1] 3 (0, 0))]] rfl ?_
 refine Z 3 rfl ?_
 refine o_alloc rfl rfl rfl z_zero3 (fun b19 => ?_)
 refine ZZ 5 [0] rfl rfl ?_
 obtain ⟨r20, hr21, h⟩ := h
 refine st_call (foot := []) rfl rfl rfl rfl rfl rfl (callV_fn z_en34 (dump_Each_ok hr21 τ11 (hs8.up hl12) (hT.up hl12))) ?_
 rintro vτ22 τ22 gsτ22 hl23 ⟨f24, q25, rfl, rfl, hit26⟩
 refine Z 16 rfl ?_
 obtain ⟨t27, w27, hR27, hA27⟩ := h
 refine st_env (ρ' := [(0, v7), (3, .pointer (some ⟨b3, 0, none⟩)), (4, .pointer (some ⟨b4, 0, none⟩)), (5, .pointer (some ⟨b17, 0, none⟩)), (6, .pointer (some ⟨b18, 0, none⟩)), (7, .pointer (some ⟨b19, 0, none⟩)), (27, .func (.func f24) #[] q25)]) ⟨rfl, rfl, rfl, rfl, rfl, rfl, rfl, trivial⟩ ?_
 refine st_ord [4, 3, 2, 1, 0] _ rfl ?_
 refine st_addNil ?_
 refine st_range (B := law29_DumpDescribes_l1 r9) (s0 := 0) ranges_fctx rfl hit26 (Sto.Le.refl _) hR27 rfl (fun _ _ _ h => by cases h; rfl) (fun (s27 : Int) τ27 gs => τ22.Le τ27 ∧ gs = [[(b3, .cells #[.int .i64 a1] 3 (0, 0))], [(b4, .cells #[.bool false] 4 (0, 0))], [(b17, .cells #[v13] 68 (0, 0))], [(b18, .cells #[v15] 24 (0, 0))], [(b19, .cells #[.int .i64 s27] 3 (0, 0))]]) (fun (p39 : Int) cd τ40 gs => cd = .ret ∧ τ22.Le τ40 ∧ gs = [[(b3, .cells #[.int .i64 a1] 3 (0, 0))], [(b4, .cells #[.bool false] 4 (0, 0))], [(b17, .cells #[v13] 68 (0, 0))], [(b18, .cells #[v15] 24 (0, 0))], [(b19, .cells #[.int .i64 p39] 3 (0, 0))]]) (fun _ _ _ _ hl ⟨hb, hg⟩ => ⟨hb.trans hl, hg⟩) (fun _ _ _ _ _ hl ⟨hc, hb, hg⟩ => ⟨hc, hb.trans hl, hg⟩) ⟨Sto.Le.refl _, rfl⟩ ?_ ?_ ?_
 ·rintro x27 s27 o27 τ27 gs27 vx27 hl27 h rfl ⟨hb27, rfl⟩ l27 rc27 caller27 cs27 fs27
  refine Z 7 rfl ?_
  refine st_begin ?_
  refine Z 3 rfl ?_
  refine st_cut (fun ρ τ28 gs => ∃ (s28 : Bool), law29_DumpDescribes_j2 s27 s28 o27 ∧ τ27.Le τ28 ∧ ESub ρ [(0, v7), (3, .pointer (some ⟨b3, 0, none⟩)), (4, .pointer (some ⟨b4, 0, none⟩)), (5, .pointer (some ⟨b17, 0, none⟩)), (6, .pointer (some ⟨b18, 0, none⟩)), (7, .pointer (some ⟨b19, 0, none⟩)), (28, .int .i64 x27.1), (29, .string x27.2), (9, .int .i64 x27.1), (10, .string x27.2), (49, .bool s28)] ∧ gs = [[(b3, .cells #[.int .i64 a1] 3 (0, 0))], [(b4, .cells #[.bool false] 4 (0, 0))], [(b17, .cells #[v13] 68 (0, 0))], [(b18, .cells #[v15] 24 (0, 0))], [(b19, .cells #[.int .i64 s27] 3 (0, 0))]]) ?_ (fun hk28 => ?_)
  ·rintro ρ28 τ28 gs28 ⟨s28, h, hl28, hρ, rfl⟩
   refine st_es hρ ?_
   refine st_if rfl h (fun h => ?_) (fun h => ?_)
   ·refine ZZ 4 [1] rfl rfl ?_
    exact st_rret (List.Sublist.refl _) hl28 ⟨_, h, rfl, (hl27.trans hl28), rfl⟩
   ·refine ZZ 7 [4, 4] rfl rfl ?_
    exact st_rend (List.Sublist.refl _) hl28 ⟨_, h, (hl27.trans hl28), rfl⟩
  refine ZZ 3 [4, 2] rfl rfl ?_
  refine o_lenI rfl rfl rfl z_slT68 rfl (hs14.up (hl23.trans hl27)) ?_
  refine o_ibin (v := .bool (decide ((r9.1.length : Int) ≤ s27))) rfl rfl rfl rfl rfl rfl ?_
  refine o_mif rfl rfl rfl rfl h (fun h => ?_) (fun h => ?_)
  ·refine Z 16 rfl ?_
   exact hk28 _ _ _ ⟨true, h, (Sto.Le.refl _), rfl, rfl⟩
  ·refine ZZ 3 [2, 4] rfl rfl ?_
   obtain ⟨q29, hf30, h⟩ := h
   refine o_index rfl rfl rfl z_slT68 rfl rfl (hs14.up (hl23.trans hl27)) rfl hf30 (fun b31 of32 vs hc33 hrep => ?_)
   obtain rfl := hrep
   refine o_loadI (v := .string q29) rfl rfl rfl z_sc9 rfl (hc33 0 _ rfl) ?_
   refine Z 2 rfl ?_
   refine o_mif rfl rfl rfl rfl h (fun h => ?_) (fun h => ?_)
   ·refine Z 8 rfl ?_
    exact hk28 _ _ _ ⟨true, h, (Sto.Le.refl _), rfl, rfl⟩
   ·refine ZZ 3 [3, 4] rfl rfl ?_
    obtain ⟨q34, hf35, h⟩ := h
    refine o_index rfl rfl rfl z_slT24 rfl rfl (hs16.up (hl23.trans hl27)) rfl hf35 (fun b36 of37 vs hc38 hrep => ?_)
    obtain rfl := hrep
    refine o_loadI (v := .int .i64 q34) rfl rfl rfl z_sc3 rfl (hc38 0 _ rfl) ?_
    refine Z 3 rfl ?_
    exact hk28 _ _ _ ⟨(!(decide (x27.1 = q34))), h, (Sto.Le.refl _), rfl, rfl⟩
 ·rintro p42 τ43 gs27 f27 ht hl44 ⟨hb, rfl⟩ rfl
  subst ht
  replace h := hA27
  refine st_ord [1, 1, 1, 1, 1] _ rfl ?_
  refine Z 3 rfl ?_
  refine o_alloc rfl rfl rfl z_zero3 (fun b45 => ?_)
  refine ZZ 5 [0] rfl rfl ?_
  obtain ⟨r46, hr47, h⟩ := h
  refine st_call (foot := []) rfl rfl rfl rfl rfl rfl (callV_fn z_en34 (dump_Each_ok hr47 τ43 (hs8.up ((hl12.trans hl23).trans hl44)) (hT.up ((hl12.trans hl23).trans hl44)))) ?_
  rintro vτ48 τ48 gsτ48 hl49 ⟨f50, q51, rfl, rfl, hit52⟩
  refine Z 11 rfl ?_
  refine st_cut (fun ρ τ53 gs => ∃ (s53 : Int), law29_DumpDescribes_j3 a0 a1 r9 p42 s53 r ∧ τ48.Le τ53 ∧ ESub ρ [(0, v7), (3, .pointer (some ⟨b3, 0, none⟩)), (4, .pointer (some ⟨b4, 0, none⟩)), (5, .pointer (some ⟨b17, 0, none⟩)), (7, .pointer (some ⟨b19, 0, none⟩)), (11, .pointer (some ⟨b45, 0, none⟩))] ∧ gs = [[(b3, .cells #[.int .i64 a1] 3 (0, 0))], [(b4, .cells #[.bool false] 4 (0, 0))], [(b17, .cells #[v13] 68 (0, 0))], [(b19, .cells #[.int .i64 p42] 3 (0, 0))], [(b45, .cells #[.int .i64 s53] 3 (0, 0))]]) ?_ (fun hk53 => ?_)
  ·rintro ρ53 τ53 gs53 ⟨s53, h, hl53, hρ, rfl⟩
   refine st_es hρ ?_
   refine st_seq ?_
   obtain ⟨r54, hr55, r62, hr63, r68, hr69, h⟩ := h
   let cc58 : Prop := r54 = true
   let cc59 : Prop := (r54 && (decide (p42 = (r9.1.length : Int)))) = true
   let cc60 : Prop := cc59 ∧ (decide (s53 = p42)) = false
   let cc61 : Prop := ((r54 && (decide (p42 = (r9.1.length : Int)))) && ((decide (s53 = p42)) || (decide (s53 = a1)))) = true
   refine st_draw 23 (dl [.v (.bool r54), .v (.bool r54), .g cc58 (.int .i64 p42), .g cc58 (v13), .g cc58 (.int .i64 (r9.1.length : Int)), .g cc58 (.bool (decide (p42 = (r9.1.length : Int)))), .v (.bool (r54 && (decide (p42 = (r9.1.length : Int))))), .v (.bool (r54 && (decide (p42 = (r9.1.length : Int))))), .g cc59 (.int .i64 s53), .g cc59 (.int .i64 p42), .g cc59 (.bool (decide (s53 = p42))), .g cc59 (.bool (decide (s53 = p42))), .g cc60 (.int .i64 s53), .g cc60 (.int .i64 a1), .g cc60 (.bool (decide (s53 = a1))), .g cc59 (.bool ((decide (s53 = p42)) || (decide (s53 = a1)))), .v (.bool ((r54 && (decide (p42 = (r9.1.length : Int)))) && ((decide (s53 = p42)) || (decide (s53 = a1))))), .v (.bool ((r54 && (decide (p42 = (r9.1.length : Int)))) && ((decide (s53 = p42)) || (decide (s53 = a1))))), .g cc61 (v7), .h cc61 fun τ v => ∃ (v66 : Value), (v66 : Value) = v ∧ Sl kS τ v66 r62, .g cc61 (v13), .g cc61 (.bool r68), .v (.bool (((r54 && (decide (p42 = (r9.1.length : Int)))) && ((decide (s53 = p42)) || (decide (s53 = a1)))) && r68))]) (fun _ _ => []) z_mix rfl (dl_mono (by exact ⟨fun _ _ _ hl ⟨v66, hv, hs67⟩ => ⟨v66, hv, hs67.up hl⟩, trivial⟩)) (allB_cons (allB_cons (allB_cons (allB_cons (allB_cons (allB_cons (allB_cons (allB_cons (allB_cons (allB_cons (allB_cons (allB_cons (allB_cons (allB_cons (allB_cons (allB_cons (allB_cons (allB_cons (allB_cons (allB_cons (allB_cons (allB_cons (allB_cons allB_nil ?_) (p1 dA)) ?_) ?_) ?_) (p1 (dG [2, 4]))) (p1 dK)) (p1 dA)) ?_) ?_) (p1 (dG [8, 9]))) (p1 (dG [10]))) ?_) ?_) (p1 (dG [12, 13]))) (p1 (dOG [11]))) (p1 dK)) (p1 dA)) (p1 (dG []))) ?_) ?_) ?_) (p1 dK)) ?_
   ·intro ρ' τ pool rs hl hd hout hk
    refine st_call (foot := []) rfl rfl rfl rfl rfl rfl (callV_fn z_en35 (law29_known_ok hr55 τ (hT.up (((((hl12.trans hl23).trans hl44).trans hl49).trans hl53).trans hl)))) ?_
    rintro vτ56 τ56 gsτ56 hl57 ⟨rfl, rfl⟩
    exact st_addNil (hk _ _ hl57 rfl)
   ·intro ρ' τ pool rs hl hd hout hk
    obtain ⟨_, e1, rfl⟩ := hd 1 rfl
    by_cases hG : r54 = true
    ·have hC := hG
     refine o_load (j := 3) (v := .int .i64 p42) rfl (wants_of rfl e1 hG) rfl z_sc3 ((hout 7 rfl).trans rfl) rfl rfl ?_
     exact st_addNil (hk _ _ (Sto.Le.refl _) ⟨fun _ => rfl, fun hn => absurd hC hn⟩)
    ·refine st_pass rfl rfl rfl e1 (beq_off hG) rfl ?_
     exact st_addNil (hk _ _ (Sto.Le.refl _) ⟨fun h => absurd h hG, fun _ => rfl⟩)
   ·intro ρ' τ pool rs hl hd hout hk
    obtain ⟨_, e1, rfl⟩ := hd 1 rfl
    by_cases hG : r54 = true
    ·have hC := hG
     refine o_load (j := 2) (v := v13) rfl (wants_of rfl e1 hG) rfl z_sc68 ((hout 5 rfl).trans rfl) rfl rfl ?_
     exact st_addNil (hk _ _ (Sto.Le.refl _) ⟨fun _ => rfl, fun hn => absurd hC hn⟩)
    ·refine st_pass rfl rfl rfl e1 (beq_off hG) rfl ?_
     exact st_addNil (hk _ _ (Sto.Le.refl _) ⟨fun h => absurd h hG, fun _ => rfl⟩)
   ·intro ρ' τ pool rs hl hd hout hk
    obtain ⟨_, e1, rfl⟩ := hd 1 rfl
    obtain ⟨w3, e3, t3⟩ := hd 3 rfl
    by_cases hG : r54 = true
    ·have hC := hG
     obtain ⟨rfl⟩ := t3.1 hC
     refine o_lenI rfl (wants_of rfl e1 hG) rfl z_slT68 e3 (hs14.up ((((hl23.trans hl44).trans hl49).trans hl53).trans hl)) ?_
     exact st_addNil (hk _ _ (Sto.Le.refl _) ⟨fun _ => rfl, fun hn => absurd hC hn⟩)
    ·refine st_pass rfl rfl rfl e1 (beq_off hG) rfl ?_
     exact st_addNil (hk _ _ (Sto.Le.refl _) ⟨fun h => absurd h hG, fun _ => rfl⟩)
   ·intro ρ' τ pool rs hl hd hout hk
    obtain ⟨_, e7, rfl⟩ := hd 7 rfl
    by_cases hG : (r54 && (decide (p42 = (r9.1.length : Int)))) = true
    ·have hC := hG
     refine o_load (j := 4) (v := .int .i64 s53) rfl (wants_of rfl e7 hG) rfl z_sc3 ((hout 11 rfl).trans rfl) rfl rfl ?_
     exact st_addNil (hk _ _ (Sto.Le.refl _) ⟨fun _ => rfl, fun hn => absurd hC hn⟩)
    ·refine st_pass rfl rfl rfl e7 (beq_off hG) rfl ?_
     exact st_addNil (hk _ _ (Sto.Le.refl _) ⟨fun h => absurd h hG, fun _ => rfl⟩)
   ·intro ρ' τ pool rs hl hd hout hk
    obtain ⟨_, e7, rfl⟩ := hd 7 rfl
    by_cases hG : (r54 && (decide (p42 = (r9.1.length : Int)))) = true
    ·have hC := hG
     refine o_load (j := 3) (v := .int .i64 p42) rfl (wants_of rfl e7 hG) rfl z_sc3 ((hout 7 rfl).trans rfl) rfl rfl ?_
     exact st_addNil (hk _ _ (Sto.Le.refl _) ⟨fun _ => rfl, fun hn => absurd hC hn⟩)
    ·refine st_pass rfl rfl rfl e7 (beq_off hG) rfl ?_
     exact st_addNil (hk _ _ (Sto.Le.refl _) ⟨fun h => absurd h hG, fun _ => rfl⟩)
   ·intro ρ' τ pool rs hl hd hout hk
    obtain ⟨w11, e11, t11⟩ := hd 11 rfl
    by_cases hC : (r54 && (decide (p42 = (r9.1.length : Int)))) = true
    ·obtain rfl := t11.1 hC
     by_cases hG : (decide (s53 = p42)) = false
     ·replace hC := And.intro hC hG
      refine o_load (j := 4) (v := .int .i64 s53) rfl (wants_of rfl e11 hG) rfl z_sc3 ((hout 11 rfl).trans rfl) rfl rfl ?_
      exact st_addNil (hk _ _ (Sto.Le.refl _) ⟨fun _ => rfl, fun hn => absurd hC hn⟩)
     ·refine st_pass rfl rfl rfl e11 (beq_off hG) rfl ?_
      exact st_addNil (hk _ _ (Sto.Le.refl _) ⟨fun h => absurd h.2 hG, fun _ => rfl⟩)
    ·obtain rfl := t11.2 hC
     refine st_passU rfl rfl rfl e11 rfl ?_
     exact st_addNil (hk _ _ (Sto.Le.refl _) ⟨fun h => absurd h.1 hC, fun _ => rfl⟩)
   ·intro ρ' τ pool rs hl hd hout hk
    obtain ⟨w11, e11, t11⟩ := hd 11 rfl
    by_cases hC : (r54 && (decide (p42 = (r9.1.length : Int)))) = true
    ·obtain rfl := t11.1 hC
     by_cases hG : (decide (s53 = p42)) = false
     ·replace hC := And.intro hC hG
      refine o_load (j := 0) (v := .int .i64 a1) rfl (wants_of rfl e11 hG) rfl z_sc3 ((hout 3 rfl).trans rfl) rfl rfl ?_
      exact st_addNil (hk _ _ (Sto.Le.refl _) ⟨fun _ => rfl, fun hn => absurd hC hn⟩)
     ·refine st_pass rfl rfl rfl e11 (beq_off hG) rfl ?_
      exact st_addNil (hk _ _ (Sto.Le.refl _) ⟨fun h => absurd h.2 hG, fun _ => rfl⟩)
    ·obtain rfl := t11.2 hC
     refine st_passU rfl rfl rfl e11 rfl ?_
     exact st_addNil (hk _ _ (Sto.Le.refl _) ⟨fun h => absurd h.1 hC, fun _ => rfl⟩)
   ·intro ρ' τ pool rs hl hd hout hk
    obtain ⟨_, e17, rfl⟩ := hd 17 rfl
    obtain ⟨w18, e18, t18⟩ := hd 18 rfl
    by_cases hG : ((r54 && (decide (p42 = (r9.1.length : Int)))) && ((decide (s53 = p42)) || (decide (s53 = a1)))) = true
    ·have hC := hG
     replace hr63 := hr63 hC
     obtain ⟨rfl⟩ := t18.1 hC
     refine st_call (foot := []) rfl (wants_of rfl e17 hG) rfl rfl (evs_cons e18 rfl) rfl (callV_fn z_en37 (dump_Describe_ok hr63 τ (hs8.up (((((hl12.trans hl23).trans hl44).trans hl49).trans hl53).trans hl)) (hT.up (((((hl12.trans hl23).trans hl44).trans hl49).trans hl53).trans hl)))) ?_
     rintro vτ64 τ64 gsτ64 hl65 ⟨v66, rfl, rfl, hs67⟩
     exact st_addNil (hk _ _ hl65 ⟨fun _ => ⟨v66, rfl, hs67⟩, fun hn => absurd hC hn⟩)
    ·refine st_pass rfl rfl rfl e17 (beq_off hG) rfl ?_
     exact st_addNil (hk _ _ (Sto.Le.refl _) ⟨fun h => absurd h hG, fun _ => rfl⟩)
   ·intro ρ' τ pool rs hl hd hout hk
    obtain ⟨_, e17, rfl⟩ := hd 17 rfl
    by_cases hG : ((r54 && (decide (p42 = (r9.1.length : Int)))) && ((decide (s53 = p42)) || (decide (s53 = a1)))) = true
    ·have hC := hG
     refine o_load (j := 2) (v := v13) rfl (wants_of rfl e17 hG) rfl z_sc68 ((hout 5 rfl).trans rfl) rfl rfl ?_
     exact st_addNil (hk _ _ (Sto.Le.refl _) ⟨fun _ => rfl, fun hn => absurd hC hn⟩)
    ·refine st_pass rfl rfl rfl e17 (beq_off hG) rfl ?_
     exact st_addNil (hk _ _ (Sto.Le.refl _) ⟨fun h => absurd h hG, fun _ => rfl⟩)
   ·intro ρ' τ pool rs hl hd hout hk
    obtain ⟨_, e17, rfl⟩ := hd 17 rfl
    obtain ⟨w19, e19, t19⟩ := hd 19 rfl
    obtain ⟨w20, e20, t20⟩ := hd 20 rfl
    by_cases hG : ((r54 && (decide (p42 = (r9.1.length : Int)))) && ((decide (s53 = p42)) || (decide (s53 = a1)))) = true
    ·have hC := hG
     replace hr69 := hr69 hC
     obtain ⟨v66, rfl, hs67⟩ := t19.1 hC
     obtain ⟨rfl⟩ := t20.1 hC
     refine st_call (foot := []) rfl (wants_of rfl e17 hG) rfl rfl (evs_cons e19 (evs_cons e20 rfl)) rfl (callV_fn z_en36 (law25_Lines_ok hr69 τ hs67 (hs14.up ((((hl23.trans hl44).trans hl49).trans hl53).trans hl)))) ?_
     rintro vτ70 τ70 gsτ70 hl71 ⟨rfl, rfl⟩
     exact st_addNil (hk _ _ hl71 ⟨fun _ => rfl, fun hn => absurd hC hn⟩)
    ·refine st_pass rfl rfl rfl e17 (beq_off hG) rfl ?_
     exact st_addNil (hk _ _ (Sto.Le.refl _) ⟨fun h => absurd h hG, fun _ => rfl⟩)
   intro ρ' τ72 vals hl72 hv hout
   refine st_ord [0, 0, 0, 0, 0] _ rfl ?_
   refine st_env (ρ' := [(86, .bool (((r54 && (decide (p42 = (r9.1.length : Int)))) && ((decide (s53 = p42)) || (decide (s53 = a1)))) && r68)), (4, .pointer (some ⟨b4, 0, none⟩))]) ⟨(lv1 hv 22 rfl rfl), (hout 4 rfl).trans rfl, trivial⟩ ?_
   refine ZZ 2 [1] rfl rfl ?_
   obtain rfl := Eq.symm h
   exact st_retC (gs' := []) [.bool (((r54 && (decide (p42 = (r9.1.length : Int)))) && ((decide (s53 = p42)) || (decide (s53 = a1)))) && r68)] Tryd.func7 ⟨⟨_, _, _, _, rfl, mem_flat 1 rfl, fun w hw => cellOf z_sc4 rfl w hw⟩, trivial⟩ (by simp) (((((hl12.trans hl23).trans hl44).trans hl49).trans hl53).trans hl72) ⟨rfl, rfl⟩
  refine Z 5 rfl ?_
  obtain ⟨t73, w73, hR73, hA73⟩ := h
  refine st_env (ρ' := [(0, v7), (3, .pointer (some ⟨b3, 0, none⟩)), (4, .pointer (some ⟨b4, 0, none⟩)), (5, .pointer (some ⟨b17, 0, none⟩)), (7, .pointer (some ⟨b19, 0, none⟩)), (11, .pointer (some ⟨b45, 0, none⟩)), (56, .func (.func f50) #[] q51)]) ⟨rfl, rfl, rfl, rfl, rfl, rfl, rfl, trivial⟩ ?_
  refine st_ord [1, 1, 1, 2, 0] _ rfl ?_
  refine st_addNil ?_
  refine st_range (B := law29_DumpDescribes_l4 a1) (s0 := 0) ranges_fctx rfl hit52 (Sto.Le.refl _) hR73 rfl (fun _ _ _ h => by cases h; rfl) (fun (s73 : Int) τ73 gs => τ48.Le τ73 ∧ gs = [[(b3, .cells #[.int .i64 a1] 3 (0, 0))], [(b4, .cells #[.bool false] 4 (0, 0))], [(b17, .cells #[v13] 68 (0, 0))], [(b19, .cells #[.int .i64 p42] 3 (0, 0))], [(b45, .cells #[.int .i64 s73] 3 (0, 0))]]) (fun (p74 : Int) cd τ75 gs => cd = .exit 2 ∧ τ48.Le τ75 ∧ gs = [[(b3, .cells #[.int .i64 a1] 3 (0, 0))], [(b4, .cells #[.bool false] 4 (0, 0))], [(b17, .cells #[v13] 68 (0, 0))], [(b19, .cells #[.int .i64 p42] 3 (0, 0))], [(b45, .cells #[.int .i64 p74] 3 (0, 0))]]) (fun _ _ _ _ hl ⟨hb, hg⟩ => ⟨hb.trans hl, hg⟩) (fun _ _ _ _ _ hl ⟨hc, hb, hg⟩ => ⟨hc, hb.trans hl, hg⟩) ⟨Sto.Le.refl _, rfl⟩ ?_ ?_ ?_
  ·rintro x73 s73 o73 τ73 gs73 vx73 hl73 h rfl ⟨hb73, rfl⟩ l73 rc73 caller73 cs73 fs73
   refine st_skip ?_
   refine st_begin ?_
   refine ZZ 8 [4, 0] rfl rfl ?_
   refine st_if rfl h (fun h => ?_) (fun h => ?_)
   ·exact st_rexit rfl (List.Sublist.refl _) (Sto.Le.refl _) ⟨_, h, rfl, hl73, rfl⟩
   ·refine ZZ 7 [4, 4] rfl rfl ?_
    exact st_rend (List.Sublist.refl _) (Sto.Le.refl _) ⟨_, h, hl73, rfl⟩
  ·rintro p77 τ78 gs73 f73 ht hl79 ⟨hb, rfl⟩ rfl
   subst ht
   replace h := hA73
   refine st_ord [1, 1, 1, 1, 1] _ rfl ?_
   refine st_inBlock ?_
   exact hk53 _ _ _ ⟨p77, h, hl79, rfl, rfl⟩
  ·rintro p74 cd73 τ75 gs73 f73 ht hl76 ⟨rfl, hb, rfl⟩ rfl
   subst ht
   replace h := hA73
   refine st_ord [1, 1, 1, 1, 1] _ rfl ?_
   refine st_exit rfl ?_
   exact hk53 _ _ _ ⟨p74, h, hl76, rfl, rfl⟩
 ·rintro p39 cd27 τ40 gs27 f27 ht hl41 ⟨rfl, hb, rfl⟩ rfl
  subst ht
  replace h := hA27
  refine st_ord [1, 1, 1, 1, 1] _ rfl ?_
  obtain rfl := Eq.symm h
  exact st_retC (gs' := []) [.bool false] Tryd.func7 ⟨⟨_, _, _, _, rfl, mem_flat 1 rfl, fun w hw => cellOf z_sc4 rfl w hw⟩, trivial⟩ (by simp) ((hl12.trans hl23).trans hl41) ⟨rfl, rfl⟩
end Go.Rel
