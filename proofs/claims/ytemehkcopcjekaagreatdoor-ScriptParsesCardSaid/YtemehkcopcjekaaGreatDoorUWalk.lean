import Derived.Test.YtemehkcopcjekaaGreatDoorURel
import Derived.Test.YtemehkcopcjekaaGreatDoorUFacts
import Derived.Test.YtemehkcopcjekaaGreatDoorUWalk1
/-! The walks. -/
set_option linter.unusedVariables false
set_option linter.unusedSimpArgs false
set_option maxRecDepth 4000
set_option maxHeartbeats 4000000
namespace Go.Rel
open Go Go.Eng Go.Proofs
theorem ref27_Parse_ok {a0 : ByteArray} {r : (TyZ) × Int} (h : ref27_Parse a0 r) (σ : Sto)  :
    Does Tryz.prog 8 [.string a0] σ [] (fun v τ gs => ∃ (v83 : Value) (v84 : Value) (v85 : Value) (v86 : Value), gs = [] ∧ .tuple [.agg [.I r.1.1, .I r.1.2.1.1, .I (r.1.2.1.2.1.getD 0 0), .I (r.1.2.1.2.1.getD 1 0), .I (r.1.2.1.2.1.getD 2 0), .I (r.1.2.1.2.1.getD 3 0), .I (r.1.2.1.2.1.getD 4 0), .I (r.1.2.1.2.1.getD 5 0), v83, v84, .string r.1.2.1.t4.1, .string r.1.2.1.t4.2, .I r.1.2.2.1.1, .I r.1.2.2.1.2.1, .I r.1.2.2.1.2.2.1, .I r.1.2.2.1.2.2.2.1, v85, v86].toArray, .I r.2].toArray = v ∧ Sl (kA .i64 2) τ v83 r.1.2.1.2.2.1 ∧ Sl (kI .i64) τ v84 r.1.2.1.2.2.2.1 ∧ Sl (kI .u8) τ v85 r.1.2.2.1.t4 ∧ Sl (kI .i64) τ v86 r.1.2.2.2) := by
 refine call_of Tryz.func8 Tryz.ntmps8 rfl rfl (fun cs fs => ?_)
 refine Z 2 rfl ?_
 refine o_alloc rfl rfl rfl z_zero40 (fun b1 => ?_)
 refine Z 5 rfl ?_
 obtain ⟨r2, hr3, h⟩ := h
 refine st_call (foot := []) rfl rfl rfl rfl rfl rfl (callV_fn z_en20 (ref20_Split_ok hr3 σ)) ?_
 rintro vτ4 τ4 gsτ4 hl5 ⟨v6, rfl, rfl, hs7⟩
 refine Z 6 rfl ?_
 obtain ⟨q8, hf9, h⟩ := h
 refine o_index rfl rfl rfl z_slT67 rfl rfl hs7 rfl hf9 (fun b10 of11 vs hc12 hrep => ?_)
 obtain rfl := hrep
 refine o_loadI (v := .string q8) rfl rfl rfl z_sc9 rfl (hc12 0 _ rfl) ?_
 refine Z 4 rfl ?_
 refine o_sbin (v := .bool (decide (q8 = (bstr [115, 101, 110, 100])))) rfl rfl rfl rfl (ev_str z_str2) rfl ?_
 refine Z 2 rfl ?_
 refine st_if rfl h (fun h => ?_) (fun h => ?_)
 ·refine Z 2 rfl ?_
  refine o_assign rfl rfl rfl (ev_str z_str1) ?_
  refine Z 2 rfl ?_
  refine st_cut (fun ρ τ13 gs => ∃ (s13 : ByteArray), ref27_Parse_j1 s13 r ∧ τ4.Le τ13 ∧ ESub ρ [(0, .string a0), (2, .Pb b1), (3, .I 0), (5, .string s13)] ∧ gs = [[(b1, .cells #[.I 0, .I 0, .I 0, .I 0, .I 0, .I 0, .I 0, .I 0, .N0, .N0, .E0, .E0, .I 0, .I 0, .I 0, .I 0, .N0, .N0] 40 (0, 0))]]) ?_ (fun hk13 => ?_)
  ·rintro ρ13 τ13 gs13 ⟨s13, h, hl13, hρ, rfl⟩
   refine st_es hρ ?_
   refine Z 3 rfl ?_
   obtain ⟨r14, hr15, h⟩ := h
   refine st_call (foot := []) rfl rfl rfl rfl rfl rfl (callV_fn z_en26 (ref20_Parse_ok hr15 τ13)) ?_
   rintro vτ16 τ16 gsτ16 hl17 ⟨v18, v19, rfl, rfl, hs20, hs21⟩
   refine Z 3 rfl ?_
   refine o_alloc rfl rfl rfl z_zero37 (fun b22 => ?_)
   refine o_store (j := 0) (vs := [.I r14.1.1, .I (r14.1.2.1.getD 0 0), .I (r14.1.2.1.getD 1 0), .I (r14.1.2.1.getD 2 0), .I (r14.1.2.1.getD 3 0), .I (r14.1.2.1.getD 4 0), .I (r14.1.2.1.getD 5 0), v18, v19, .string r14.1.t4.1, .string r14.1.t4.2]) (cs' := [.I r14.1.1, .I (r14.1.2.1.getD 0 0), .I (r14.1.2.1.getD 1 0), .I (r14.1.2.1.getD 2 0), .I (r14.1.2.1.getD 3 0), .I (r14.1.2.1.getD 4 0), .I (r14.1.2.1.getD 5 0), v18, v19, .string r14.1.t4.1, .string r14.1.t4.2]) rfl rfl rfl z_size37 rfl rfl rfl (ones_cons rfl (ones_cons rfl (ones_cons rfl (ones_cons rfl (ones_cons rfl (ones_cons rfl (ones_cons rfl (ones_cons hs20.one' (ones_cons hs21.one' (ones_cons rfl (ones_cons rfl ones_nil))))))))))) rfl rfl rfl ?_
   refine st_gs [[(b22, .cells #[.I r14.1.1, .I (r14.1.2.1.getD 0 0), .I (r14.1.2.1.getD 1 0), .I (r14.1.2.1.getD 2 0), .I (r14.1.2.1.getD 3 0), .I (r14.1.2.1.getD 4 0), .I (r14.1.2.1.getD 5 0), v18, v19, .string r14.1.t4.1, .string r14.1.t4.2] 37 (0, 0))], [(b1, .cells #[.I 0, .I 0, .I 0, .I 0, .I 0, .I 0, .I 0, .I 0, .N0, .N0, .E0, .E0, .I 0, .I 0, .I 0, .I 0, .N0, .N0] 40 (0, 0))]] rfl ?_
   refine Z 8 rfl ?_
   refine st_if rfl h (fun h => ?_) (fun h => ?_)
   ·refine ZZ 7 [1] rfl rfl ?_
    obtain rfl := Eq.symm h
    exact st_retC (gs' := []) [.agg #[.I 0, .I 0, .I 0, .I 0, .I 0, .I 0, .I 0, .I 0, .N0, .N0, .E0, .E0, .I 0, .I 0, .I 0, .I 0, .N0, .N0], .I r14.2] Tryz.func8 ⟨⟨_, _, _, _, rfl, mem_flat 1 rfl, fun w hw => cellOfN (vs := [.I 0, .I 0, .I 0, .I 0, .I 0, .I 0, .I 0, .I 0, .N0, .N0, .E0, .E0, .I 0, .I 0, .I 0, .I 0, .N0, .N0]) z_agg40 rfl w hw⟩, rfl, trivial⟩ (by simp) ((hl5.trans hl13).trans hl17) ⟨_, _, _, _, rfl, rfl, Sl.nil, Sl.nil, Sl.nil, Sl.nil⟩
   ·refine ZZ 5 [0] rfl rfl ?_
    refine o_store (j := 1) (vs := [.I 1, .I r14.1.1, .I (r14.1.2.1.getD 0 0), .I (r14.1.2.1.getD 1 0), .I (r14.1.2.1.getD 2 0), .I (r14.1.2.1.getD 3 0), .I (r14.1.2.1.getD 4 0), .I (r14.1.2.1.getD 5 0), v18, v19, .string r14.1.t4.1, .string r14.1.t4.2, .I 0, .I 0, .I 0, .I 0, .N0, .N0]) (cs' := [.I 1, .I r14.1.1, .I (r14.1.2.1.getD 0 0), .I (r14.1.2.1.getD 1 0), .I (r14.1.2.1.getD 2 0), .I (r14.1.2.1.getD 3 0), .I (r14.1.2.1.getD 4 0), .I (r14.1.2.1.getD 5 0), v18, v19, .string r14.1.t4.1, .string r14.1.t4.2, .I 0, .I 0, .I 0, .I 0, .N0, .N0]) rfl rfl rfl z_size40 rfl rfl rfl (ones_cons rfl (ones_cons rfl (ones_cons rfl (ones_cons rfl (ones_cons rfl (ones_cons rfl (ones_cons rfl (ones_cons rfl (ones_cons hs20.one' (ones_cons hs21.one' (ones_cons rfl (ones_cons rfl (ones_cons rfl (ones_cons rfl (ones_cons rfl (ones_cons rfl (ones_cons rfl (ones_cons rfl ones_nil)))))))))))))))))) rfl rfl rfl ?_
    refine st_gs [[(b22, .cells #[.I r14.1.1, .I (r14.1.2.1.getD 0 0), .I (r14.1.2.1.getD 1 0), .I (r14.1.2.1.getD 2 0), .I (r14.1.2.1.getD 3 0), .I (r14.1.2.1.getD 4 0), .I (r14.1.2.1.getD 5 0), v18, v19, .string r14.1.t4.1, .string r14.1.t4.2] 37 (0, 0))], [(b1, .cells #[.I 1, .I r14.1.1, .I (r14.1.2.1.getD 0 0), .I (r14.1.2.1.getD 1 0), .I (r14.1.2.1.getD 2 0), .I (r14.1.2.1.getD 3 0), .I (r14.1.2.1.getD 4 0), .I (r14.1.2.1.getD 5 0), v18, v19, .string r14.1.t4.1, .string r14.1.t4.2, .I 0, .I 0, .I 0, .I 0, .N0, .N0] 40 (0, 0))]] rfl ?_
    refine Z 2 rfl ?_
    obtain rfl := Eq.symm h
    exact st_retC (gs' := []) [.agg #[.I 1, .I r14.1.1, .I (r14.1.2.1.getD 0 0), .I (r14.1.2.1.getD 1 0), .I (r14.1.2.1.getD 2 0), .I (r14.1.2.1.getD 3 0), .I (r14.1.2.1.getD 4 0), .I (r14.1.2.1.getD 5 0), v18, v19, .string r14.1.t4.1, .string r14.1.t4.2, .I 0, .I 0, .I 0, .I 0, .N0, .N0], .I 0] Tryz.func8 ⟨⟨_, _, _, _, rfl, mem_flat 1 rfl, fun w hw => cellOfN (vs := [.I 1, .I r14.1.1, .I (r14.1.2.1.getD 0 0), .I (r14.1.2.1.getD 1 0), .I (r14.1.2.1.getD 2 0), .I (r14.1.2.1.getD 3 0), .I (r14.1.2.1.getD 4 0), .I (r14.1.2.1.getD 5 0), v18, v19, .string r14.1.t4.1, .string r14.1.t4.2, .I 0, .I 0, .I 0, .I 0, .N0, .N0]) z_agg40 rfl w hw⟩, rfl, trivial⟩ (by simp) ((hl5.trans hl13).trans hl17) ⟨_, _, _, _, rfl, rfl, hs20, hs21, Sl.nil, Sl.nil⟩
  refine Z 3 rfl ?_
  refine o_lenI rfl rfl rfl z_slT67 rfl hs7 ?_
  refine Z 2 rfl ?_
  refine st_if rfl h (fun h => ?_) (fun h => ?_)
  ·refine Z 2 rfl ?_
   obtain ⟨hf23, h⟩ := h
   refine o_sliceSl rfl rfl rfl Tryz.underlying9 rfl rfl (by decide) hf23 ?_
   refine Z 2 rfl ?_
   exact hk13 _ _ _ ⟨(a0.extract (5 : Int).toNat a0.size), h, (Sto.Le.refl _), rfl, rfl⟩
  ·refine st_skip ?_
   exact hk13 _ _ _ ⟨(bstr []), h, (Sto.Le.refl _), rfl, rfl⟩
 ·refine st_seq ?_
  refine st_cut (fun ρ τ24 gs => ∃ (s24 : Bool), ref27_Parse_j2 a0 r2 q8 s24 r ∧ τ4.Le τ24 ∧ ESub ρ [(0, .string a0), (2, .Pb b1), (3, .I 0), (4, v6), (18, .string q8), (37, .bool s24)] ∧ gs = [[(b1, .cells #[.I 0, .I 0, .I 0, .I 0, .I 0, .I 0, .I 0, .I 0, .N0, .N0, .E0, .E0, .I 0, .I 0, .I 0, .I 0, .N0, .N0] 40 (0, 0))]]) ?_ (fun hk24 => ?_)
  ·rintro ρ24 τ24 gs24 ⟨s24, h, hl24, hρ, rfl⟩
   refine st_es hρ ?_
   refine st_if rfl h (fun h => ?_) (fun h => ?_)
   ·refine Z 4 rfl ?_
    refine o_lenI rfl rfl rfl z_slT67 rfl (hs7.up hl24) ?_
    refine Z 2 rfl ?_
    refine st_if rfl h (fun h => ?_) (fun h => ?_)
    ·refine ZZ 6 [0] rfl rfl ?_
     obtain rfl := Eq.symm h
     exact st_retC (gs' := []) [.agg #[.I 0, .I 0, .I 0, .I 0, .I 0, .I 0, .I 0, .I 0, .N0, .N0, .E0, .E0, .I 0, .I 0, .I 0, .I 0, .N0, .N0], .I 3] Tryz.func8 ⟨⟨_, _, _, _, rfl, mem_flat 0 rfl, fun w hw => cellOfN (vs := [.I 0, .I 0, .I 0, .I 0, .I 0, .I 0, .I 0, .I 0, .N0, .N0, .E0, .E0, .I 0, .I 0, .I 0, .I 0, .N0, .N0]) z_agg40 rfl w hw⟩, rfl, trivial⟩ (by simp) (hl5.trans hl24) ⟨_, _, _, _, rfl, rfl, Sl.nil, Sl.nil, Sl.nil, Sl.nil⟩
    ·refine Z 5 rfl ?_
     obtain ⟨q25, hf26, h⟩ := h
     refine o_index rfl rfl rfl z_slT67 rfl rfl (hs7.up hl24) rfl hf26 (fun b27 of28 vs hc29 hrep => ?_)
     obtain rfl := hrep
     refine o_loadI (v := .string q25) rfl rfl rfl z_sc9 rfl (hc29 0 _ rfl) ?_
     refine o_sbin (v := .bool (decide (q25 = (bstr [97, 108, 108])))) rfl rfl rfl rfl (ev_str z_str3) rfl ?_
     refine st_end ?_
     refine st_if rfl h (fun h => ?_) (fun h => ?_)
     ·refine ZZ 6 [0] rfl rfl ?_
      obtain rfl := Eq.symm h
      exact st_retC (gs' := []) [.agg #[.I 3, .I 0, .I 0, .I 0, .I 0, .I 0, .I 0, .I 0, .N0, .N0, .E0, .E0, .I 0, .I 0, .I 0, .I 0, .N0, .N0], .I 0] Tryz.func8 ⟨⟨_, _, _, _, rfl, mem_flat 0 rfl, fun w hw => cellOfN (vs := [.I 3, .I 0, .I 0, .I 0, .I 0, .I 0, .I 0, .I 0, .N0, .N0, .E0, .E0, .I 0, .I 0, .I 0, .I 0, .N0, .N0]) z_agg40 rfl w hw⟩, rfl, trivial⟩ (by simp) (hl5.trans hl24) ⟨_, _, _, _, rfl, rfl, Sl.nil, Sl.nil, Sl.nil, Sl.nil⟩
     ·refine Z 5 rfl ?_
      obtain ⟨q30, hf31, h⟩ := h
      refine o_index rfl rfl rfl z_slT67 rfl rfl (hs7.up hl24) rfl hf31 (fun b32 of33 vs hc34 hrep => ?_)
      obtain rfl := hrep
      refine o_loadI (v := .string q30) rfl rfl rfl z_sc9 rfl (hc34 0 _ rfl) ?_
      refine o_sbin (v := .bool (decide (q30 = (bstr [115, 116, 97, 116, 101])))) rfl rfl rfl rfl (ev_str z_str5) rfl ?_
      refine st_end ?_
      refine st_if rfl h (fun h => ?_) (fun h => ?_)
      ·refine ZZ 6 [0] rfl rfl ?_
       obtain rfl := Eq.symm h
       exact st_retC (gs' := []) [.agg #[.I 5, .I 0, .I 0, .I 0, .I 0, .I 0, .I 0, .I 0, .N0, .N0, .E0, .E0, .I 0, .I 0, .I 0, .I 0, .N0, .N0], .I 0] Tryz.func8 ⟨⟨_, _, _, _, rfl, mem_flat 0 rfl, fun w hw => cellOfN (vs := [.I 5, .I 0, .I 0, .I 0, .I 0, .I 0, .I 0, .I 0, .N0, .N0, .E0, .E0, .I 0, .I 0, .I 0, .I 0, .N0, .N0]) z_agg40 rfl w hw⟩, rfl, trivial⟩ (by simp) (hl5.trans hl24) ⟨_, _, _, _, rfl, rfl, Sl.nil, Sl.nil, Sl.nil, Sl.nil⟩
      ·refine ZZ 7 [0] rfl rfl ?_
       obtain rfl := Eq.symm h
       exact st_retC (gs' := []) [.agg #[.I 6, .I 0, .I 0, .I 0, .I 0, .I 0, .I 0, .I 0, .N0, .N0, .E0, .E0, .I 0, .I 0, .I 0, .I 0, .N0, .N0], .I 0] Tryz.func8 ⟨⟨_, _, _, _, rfl, mem_flat 0 rfl, fun w hw => cellOfN (vs := [.I 6, .I 0, .I 0, .I 0, .I 0, .I 0, .I 0, .I 0, .N0, .N0, .E0, .E0, .I 0, .I 0, .I 0, .I 0, .N0, .N0]) z_agg40 rfl w hw⟩, rfl, trivial⟩ (by simp) (hl5.trans hl24) ⟨_, _, _, _, rfl, rfl, Sl.nil, Sl.nil, Sl.nil, Sl.nil⟩
   ·refine Z 2 rfl ?_
    refine o_sbin (v := .bool (decide (q8 = (bstr [99, 104, 117, 110, 107])))) rfl rfl rfl rfl (ev_str z_str4) rfl ?_
    refine Z 2 rfl ?_
    refine st_if rfl h (fun h => ?_) (fun h => ?_)
    ·refine ZZ 3 [] rfl rfl ?_
     refine o_alloc rfl rfl rfl z_zero40 (fun b35 => ?_)
     refine ZZ 3 [0] rfl rfl ?_
     refine st_cut (fun ρ τ36 gs => ∃ (s36 : List Int) (v37 : Value) (g38 : Grp), ref27_Parse_j3 s36 r ∧ τ24.Le τ36 ∧ ESub ρ [(0, .string a0), (2, .Pb b1), (3, .I 0), (8, .Pb b35)] ∧ gs = [[(b1, .cells #[.I 0, .I 0, .I 0, .I 0, .I 0, .I 0, .I 0, .I 0, .N0, .N0, .E0, .E0, .I 0, .I 0, .I 0, .I 0, .N0, .N0] 40 (0, 0))], [(b35, .cells #[.I 4, .I 0, .I 0, .I 0, .I 0, .I 0, .I 0, .I 0, .N0, .N0, .E0, .E0, .I 0, .I 0, .I 0, .I 0, .N0, v37] 40 (0, 0))], g38] ∧ Ow (kI .i64) 3 τ36 v37 s36 g38) ?_ (fun hk36 => ?_)
     ·rintro ρ36 τ36 gs36 ⟨s36, v37, g38, h, hl36, hρ, rfl, ho39⟩
      refine st_es hρ ?_
      refine ZZ 4 [1] rfl rfl ?_
      obtain ⟨r45, hr46, h⟩ := h
      refine st_ord [2, 0, 0] _ rfl ?_
      refine st_freeze (fun τ40 hl41 hg42 => ?_)
      have hs43 := ho39.freeze hl41 hg42
      refine st_call (foot := []) rfl rfl rfl rfl rfl rfl (callV_fn z_en13 (ref27_Check_ok hr46 τ40 Sl.nil Sl.nil Sl.nil hs43)) ?_
      rintro vτ47 τ47 gsτ47 hl48 ⟨rfl, rfl⟩
      refine Z 2 rfl ?_
      refine st_if rfl h (fun h => ?_) (fun h => ?_)
      ·refine ZZ 4 [1] rfl rfl ?_
       obtain ⟨r49, hr50, h⟩ := h
       refine st_call (foot := []) rfl rfl rfl rfl rfl rfl (callV_fn z_en13 (ref27_Check_ok hr50 τ47 Sl.nil Sl.nil Sl.nil (hs43.up hl48))) ?_
       rintro vτ51 τ51 gsτ51 hl52 ⟨rfl, rfl⟩
       refine ZZ 3 [0] rfl rfl ?_
       obtain rfl := Eq.symm h
       exact st_retC (gs' := []) [.agg #[.I 0, .I 0, .I 0, .I 0, .I 0, .I 0, .I 0, .I 0, .N0, .N0, .E0, .E0, .I 0, .I 0, .I 0, .I 0, .N0, .N0], .I r49] Tryz.func8 ⟨⟨_, _, _, _, rfl, mem_flat 0 rfl, fun w hw => cellOfN (vs := [.I 0, .I 0, .I 0, .I 0, .I 0, .I 0, .I 0, .I 0, .N0, .N0, .E0, .E0, .I 0, .I 0, .I 0, .I 0, .N0, .N0]) z_agg40 rfl w hw⟩, rfl, trivial⟩ (by simp) (((((hl5.trans hl24).trans hl36).trans hl41).trans hl48).trans hl52) ⟨_, _, _, _, rfl, rfl, Sl.nil, Sl.nil, Sl.nil, Sl.nil⟩
      ·refine ZZ 4 [1] rfl rfl ?_
       refine o_store (j := 0) (vs := [.I 4, .I 0, .I 0, .I 0, .I 0, .I 0, .I 0, .I 0, .N0, .N0, .E0, .E0, .I 0, .I 0, .I 0, .I 0, .N0, v37]) (cs' := [.I 4, .I 0, .I 0, .I 0, .I 0, .I 0, .I 0, .I 0, .N0, .N0, .E0, .E0, .I 0, .I 0, .I 0, .I 0, .N0, v37]) rfl rfl rfl z_size40 rfl rfl rfl (ones_cons rfl (ones_cons rfl (ones_cons rfl (ones_cons rfl (ones_cons rfl (ones_cons rfl (ones_cons rfl (ones_cons rfl (ones_cons rfl (ones_cons rfl (ones_cons rfl (ones_cons rfl (ones_cons rfl (ones_cons rfl (ones_cons rfl (ones_cons rfl (ones_cons rfl (ones_cons (hs43.up hl48).one' ones_nil)))))))))))))))))) rfl rfl rfl ?_
       refine st_gs [[(b1, .cells #[.I 4, .I 0, .I 0, .I 0, .I 0, .I 0, .I 0, .I 0, .N0, .N0, .E0, .E0, .I 0, .I 0, .I 0, .I 0, .N0, v37] 40 (0, 0))], [(b35, .cells #[.I 4, .I 0, .I 0, .I 0, .I 0, .I 0, .I 0, .I 0, .N0, .N0, .E0, .E0, .I 0, .I 0, .I 0, .I 0, .N0, v37] 40 (0, 0))]] rfl ?_
       refine Z 2 rfl ?_
       obtain rfl := Eq.symm h
       exact st_retC (gs' := []) [.agg #[.I 4, .I 0, .I 0, .I 0, .I 0, .I 0, .I 0, .I 0, .N0, .N0, .E0, .E0, .I 0, .I 0, .I 0, .I 0, .N0, v37], .I 0] Tryz.func8 ⟨⟨_, _, _, _, rfl, mem_flat 0 rfl, fun w hw => cellOfN (vs := [.I 4, .I 0, .I 0, .I 0, .I 0, .I 0, .I 0, .I 0, .N0, .N0, .E0, .E0, .I 0, .I 0, .I 0, .I 0, .N0, v37]) z_agg40 rfl w hw⟩, rfl, trivial⟩ (by simp) ((((hl5.trans hl24).trans hl36).trans hl41).trans hl48) ⟨_, _, _, _, rfl, rfl, Sl.nil, Sl.nil, Sl.nil, (hs43.up hl48)⟩
     refine Z 4 rfl ?_
     obtain ⟨e53, hL53, hA53⟩ := h
     refine st_addNil ?_
     refine st_ord [2, 1, 0] _ rfl ?_
     refine st_loop hL53 (fun (s53 : Int × List Int) ρ τ53 gs => τ24.Le τ53 ∧ ∃ (v54 : Value) (g55 : Grp), ESub ρ [(0, .string a0), (2, .Pb b1), (3, .I 0), (4, v6), (8, .Pb b35), (9, .I s53.1)] ∧ gs = [[(b1, .cells #[.I 0, .I 0, .I 0, .I 0, .I 0, .I 0, .I 0, .I 0, .N0, .N0, .E0, .E0, .I 0, .I 0, .I 0, .I 0, .N0, .N0] 40 (0, 0))], [(b35, .cells #[.I 4, .I 0, .I 0, .I 0, .I 0, .I 0, .I 0, .I 0, .N0, .N0, .E0, .E0, .I 0, .I 0, .I 0, .I 0, .N0, v54] 40 (0, 0))], g55] ∧ Ow (kI .i64) 3 τ53 v54 s53.2 g55) ⟨Sto.Le.refl _, _, _, rfl, rfl, Ow.nil⟩ ?_
     rintro s53 o53 h he53 ρ53 τ53 gs53 ⟨hl53, v54, g55, hρ, rfl, ho56⟩ hn53
     refine st_es hρ ?_
     refine Z 5 rfl ?_
     refine o_lenI rfl rfl rfl z_slT67 rfl (hs7.up (hl24.trans hl53)) ?_
     refine Z 2 rfl ?_
     refine st_if rfl h (fun h => ?_) (fun h => ?_)
     ·refine Z 7 rfl ?_
      obtain ⟨q57, hf58, h⟩ := h
      refine o_index rfl rfl rfl z_slT67 rfl rfl (hs7.up (hl24.trans hl53)) rfl hf58 (fun b59 of60 vs hc61 hrep => ?_)
      obtain rfl := hrep
      refine o_loadI (v := .string q57) rfl rfl rfl z_sc9 rfl (hc61 0 _ rfl) ?_
      obtain ⟨r62, hr63, h⟩ := h
      refine st_call (foot := []) rfl rfl rfl rfl rfl rfl (callV_fn z_en27 (ref20_Read_ok hr63 τ53)) ?_
      rintro vτ64 τ64 gsτ64 hl65 ⟨rfl, rfl⟩
      refine Z 12 rfl ?_
      refine st_if rfl h (fun h => ?_) (fun h => ?_)
      ·refine ZZ 7 [0] rfl rfl ?_
       obtain rfl := he53 _ h
       replace h := hA53
       obtain rfl := Eq.symm h
       exact st_retC (gs' := []) [.agg #[.I 0, .I 0, .I 0, .I 0, .I 0, .I 0, .I 0, .I 0, .N0, .N0, .E0, .E0, .I 0, .I 0, .I 0, .I 0, .N0, .N0], .I r62.2] Tryz.func8 ⟨⟨_, _, _, _, rfl, mem_flat 0 rfl, fun w hw => cellOfN (vs := [.I 0, .I 0, .I 0, .I 0, .I 0, .I 0, .I 0, .I 0, .N0, .N0, .E0, .E0, .I 0, .I 0, .I 0, .I 0, .N0, .N0]) z_agg40 rfl w hw⟩, rfl, trivial⟩ (by simp) (((hl5.trans hl24).trans hl53).trans hl65) ⟨_, _, _, _, rfl, rfl, Sl.nil, Sl.nil, Sl.nil, Sl.nil⟩
      ·refine ZZ 5 [1] rfl rfl ?_
       refine o_litE (eI .i64) [r62.1] rfl rfl rfl z_slT24 z_zero3 ⟨rfl, ⟨_, rfl, rfl⟩, trivial⟩ rfl rfl rfl rfl (fun v66 g67 ho68 => ?_)
       obtain ⟨hf72, hf73, h⟩ := h
       refine st_ord [3, 0, 0, 0] _ rfl ?_
       refine o_append (dk := (kI .i64)) (xs := s53.2) (ys := [r62.1]) rfl rfl rfl rfl z_slT24 rfl (ho56.up hl65) rfl (Ow.src (j := 1) ho68 rfl) hf72 hf73 (fun v69 g70 ho71 => ?_)
       refine o_fieldAddr rfl rfl rfl z_field40_3 rfl ?_
       refine o_store (j := 3) (vs := [v69]) (cs' := [.I 4, .I 0, .I 0, .I 0, .I 0, .I 0, .I 0, .I 0, .N0, .N0, .E0, .E0, .I 0, .I 0, .I 0, .I 0, .N0, v69]) rfl rfl rfl z_size24 rfl rfl (oneL_ow ho71) (ones_cons ho71.one' ones_nil) rfl rfl rfl ?_
       refine st_gs [g70, g67, [(b1, .cells #[.I 0, .I 0, .I 0, .I 0, .I 0, .I 0, .I 0, .I 0, .N0, .N0, .E0, .E0, .I 0, .I 0, .I 0, .I 0, .N0, .N0] 40 (0, 0))], [(b35, .cells #[.I 4, .I 0, .I 0, .I 0, .I 0, .I 0, .I 0, .I 0, .N0, .N0, .E0, .E0, .I 0, .I 0, .I 0, .I 0, .N0, v69] 40 (0, 0))]] rfl ?_
       refine Z 7 rfl ?_
       refine st_ord [2, 2, 0] _ rfl ?_
       exact hn53 _ _ _ _ h ⟨(hl53.trans hl65), _, _, rfl, rfl, ho71⟩
     ·refine st_exit rfl ?_
      obtain rfl := he53 _ h
      replace h := hA53
      exact hk36 _ _ _ ⟨s53.2, _, _, h, hl53, rfl, rfl, ho56⟩
    ·refine Z 5 rfl ?_
     obtain ⟨r76, hr77, h⟩ := h
     refine st_call (foot := []) rfl rfl rfl rfl rfl rfl (callV_fn z_en28 (ref26_Parse_ok hr77 τ24)) ?_
     rintro vτ78 τ78 gsτ78 hl79 ⟨v80, rfl, rfl, hs81⟩
     refine Z 3 rfl ?_
     refine o_alloc rfl rfl rfl z_zero38 (fun b82 => ?_)
     refine o_store (j := 0) (vs := [.I r76.1.1, .I r76.1.2.1, .I r76.1.2.2.1, .I r76.1.2.2.2.1, v80]) (cs' := [.I r76.1.1, .I r76.1.2.1, .I r76.1.2.2.1, .I r76.1.2.2.2.1, v80]) rfl rfl rfl z_size38 rfl rfl rfl (ones_cons rfl (ones_cons rfl (ones_cons rfl (ones_cons rfl (ones_cons hs81.one' ones_nil))))) rfl rfl rfl ?_
     refine st_gs [[(b82, .cells #[.I r76.1.1, .I r76.1.2.1, .I r76.1.2.2.1, .I r76.1.2.2.2.1, v80] 38 (0, 0))], [(b1, .cells #[.I 0, .I 0, .I 0, .I 0, .I 0, .I 0, .I 0, .I 0, .N0, .N0, .E0, .E0, .I 0, .I 0, .I 0, .I 0, .N0, .N0] 40 (0, 0))]] rfl ?_
     refine Z 8 rfl ?_
     refine st_if rfl h (fun h => ?_) (fun h => ?_)
     ·refine ZZ 7 [1] rfl rfl ?_
      obtain rfl := Eq.symm h
      exact st_retC (gs' := []) [.agg #[.I 0, .I 0, .I 0, .I 0, .I 0, .I 0, .I 0, .I 0, .N0, .N0, .E0, .E0, .I 0, .I 0, .I 0, .I 0, .N0, .N0], .I r76.2] Tryz.func8 ⟨⟨_, _, _, _, rfl, mem_flat 1 rfl, fun w hw => cellOfN (vs := [.I 0, .I 0, .I 0, .I 0, .I 0, .I 0, .I 0, .I 0, .N0, .N0, .E0, .E0, .I 0, .I 0, .I 0, .I 0, .N0, .N0]) z_agg40 rfl w hw⟩, rfl, trivial⟩ (by simp) ((hl5.trans hl24).trans hl79) ⟨_, _, _, _, rfl, rfl, Sl.nil, Sl.nil, Sl.nil, Sl.nil⟩
     ·refine ZZ 5 [0] rfl rfl ?_
      refine o_store (j := 1) (vs := [.I 2, .I 0, .I 0, .I 0, .I 0, .I 0, .I 0, .I 0, .N0, .N0, .E0, .E0, .I r76.1.1, .I r76.1.2.1, .I r76.1.2.2.1, .I r76.1.2.2.2.1, v80, .N0]) (cs' := [.I 2, .I 0, .I 0, .I 0, .I 0, .I 0, .I 0, .I 0, .N0, .N0, .E0, .E0, .I r76.1.1, .I r76.1.2.1, .I r76.1.2.2.1, .I r76.1.2.2.2.1, v80, .N0]) rfl rfl rfl z_size40 rfl rfl rfl (ones_cons rfl (ones_cons rfl (ones_cons rfl (ones_cons rfl (ones_cons rfl (ones_cons rfl (ones_cons rfl (ones_cons rfl (ones_cons rfl (ones_cons rfl (ones_cons rfl (ones_cons rfl (ones_cons rfl (ones_cons rfl (ones_cons rfl (ones_cons rfl (ones_cons hs81.one' (ones_cons rfl ones_nil)))))))))))))))))) rfl rfl rfl ?_
      refine st_gs [[(b82, .cells #[.I r76.1.1, .I r76.1.2.1, .I r76.1.2.2.1, .I r76.1.2.2.2.1, v80] 38 (0, 0))], [(b1, .cells #[.I 2, .I 0, .I 0, .I 0, .I 0, .I 0, .I 0, .I 0, .N0, .N0, .E0, .E0, .I r76.1.1, .I r76.1.2.1, .I r76.1.2.2.1, .I r76.1.2.2.2.1, v80, .N0] 40 (0, 0))]] rfl ?_
      refine Z 2 rfl ?_
      obtain rfl := Eq.symm h
      exact st_retC (gs' := []) [.agg #[.I 2, .I 0, .I 0, .I 0, .I 0, .I 0, .I 0, .I 0, .N0, .N0, .E0, .E0, .I r76.1.1, .I r76.1.2.1, .I r76.1.2.2.1, .I r76.1.2.2.2.1, v80, .N0], .I 0] Tryz.func8 ⟨⟨_, _, _, _, rfl, mem_flat 1 rfl, fun w hw => cellOfN (vs := [.I 2, .I 0, .I 0, .I 0, .I 0, .I 0, .I 0, .I 0, .N0, .N0, .E0, .E0, .I r76.1.1, .I r76.1.2.1, .I r76.1.2.2.1, .I r76.1.2.2.2.1, v80, .N0]) z_agg40 rfl w hw⟩, rfl, trivial⟩ (by simp) ((hl5.trans hl24).trans hl79) ⟨_, _, _, _, rfl, rfl, Sl.nil, Sl.nil, hs81, Sl.nil⟩
  refine Z 2 rfl ?_
  refine o_sbin (v := .bool (decide (q8 = (bstr [97, 108, 108])))) rfl rfl rfl rfl (ev_str z_str3) rfl ?_
  refine Z 2 rfl ?_
  refine st_if rfl h (fun h => ?_) (fun h => ?_)
  ·refine st_skip ?_
   exact hk24 _ _ _ ⟨(decide (q8 = (bstr [97, 108, 108]))), h, (Sto.Le.refl _), rfl, rfl⟩
  ·refine Z 2 rfl ?_
   refine o_sbin (v := .bool (decide (q8 = (bstr [115, 116, 97, 116, 101])))) rfl rfl rfl rfl (ev_str z_str5) rfl ?_
   refine Z 2 rfl ?_
   refine st_if rfl h (fun h => ?_) (fun h => ?_)
   ·refine st_skip ?_
    exact hk24 _ _ _ ⟨(decide (q8 = (bstr [115, 116, 97, 116, 101]))), h, (Sto.Le.refl _), rfl, rfl⟩
   ·refine st_region ?_
    refine o_sbin (v := .bool (decide (q8 = (bstr [116, 97, 108, 108, 121])))) rfl rfl rfl rfl (ev_str z_str6) rfl ?_
    refine Z 2 rfl ?_
    exact hk24 _ _ _ ⟨(decide (q8 = (bstr [116, 97, 108, 108, 121]))), h, (Sto.Le.refl _), rfl, rfl⟩
theorem conf_CheckSender_ok {a0 : Int × Int × Int} {r : Int} (h : conf_CheckSender a0 r) (σ : Sto)  :
    Does Tryz.prog 55 [.agg [.I a0.1, .I a0.2.1, .int .u32 a0.2.2].toArray] σ [] (fun v τ gs => gs = [] ∧ .I r = v) := by
 refine call_of Tryz.func55 Tryz.ntmps55 rfl rfl (fun cs fs => ?_)
 refine Z 2 rfl ?_
 refine o_boxC rfl rfl rfl rfl rfl rfl (fun b1 => ?_)
 refine Z 5 rfl ?_
 refine st_cut (fun ρ τ2 gs => ∃ (s2 : Bool), conf_CheckSender_j1 a0 s2 r ∧ σ.Le τ2 ∧ ESub ρ [(1, .Pb b1), (2, .I 0), (3, .bool s2)] ∧ gs = [[(b1, .cells #[.I a0.1, .I a0.2.1, .int .u32 a0.2.2] 56 (0, 0))]]) ?_ (fun hk2 => ?_)
 ·rintro ρ2 τ2 gs2 ⟨s2, h, hl2, hρ, rfl⟩
  refine st_es hρ ?_
  refine st_if rfl h (fun h => ?_) (fun h => ?_)
  ·refine Z 4 rfl ?_
   refine st_ord [] _ rfl ?_
   obtain rfl := Eq.symm h
   exact st_ret (gs' := []) Tryz.func55 rfl (List.Sublist.refl _) hl2 ⟨rfl, rfl⟩
  ·refine st_seq ?_
   refine st_cut (fun ρ τ3 gs => ∃ (s3 : Bool), conf_CheckSender_j2 s3 r ∧ τ2.Le τ3 ∧ ESub ρ [(2, .I 0), (12, .bool s3)] ∧ gs = []) ?_ (fun hk3 => ?_)
   ·rintro ρ3 τ3 gs3 ⟨s3, h, hl3, hρ, rfl⟩
    refine st_es hρ ?_
    refine st_if rfl h (fun h => ?_) (fun h => ?_)
    ·refine Z 4 rfl ?_
     obtain rfl := Eq.symm h
     exact st_ret (gs' := []) Tryz.func55 rfl (List.Sublist.refl _) (hl2.trans hl3) ⟨rfl, rfl⟩
    ·refine Z 6 rfl ?_
     obtain rfl := Eq.symm h
     exact st_ret (gs' := []) Tryz.func55 rfl (List.Sublist.refl _) (hl2.trans hl3) ⟨rfl, rfl⟩
   refine ZZ 4 [0] rfl rfl ?_
   refine o_mif rfl rfl rfl rfl h (fun h => ?_) (fun h => ?_)
   ·refine Z 6 rfl ?_
    refine st_ord [] _ rfl ?_
    exact hk3 _ _ _ ⟨true, h, (Sto.Le.refl _), rfl, rfl⟩
   ·refine ZZ 6 [0] rfl rfl ?_
    refine st_ord [] _ rfl ?_
    exact hk3 _ _ _ ⟨(decide (257 < a0.2.1)), h, (Sto.Le.refl _), rfl, rfl⟩
 refine ZZ 4 [0] rfl rfl ?_
 refine o_mif rfl rfl rfl rfl h (fun h => ?_) (fun h => ?_)
 ·refine ZZ 6 [0] rfl rfl ?_
  exact hk2 _ _ _ ⟨(!(decide (a0.1 = 2))), h, (Sto.Le.refl _), rfl, rfl⟩
 ·refine Z 6 rfl ?_
  exact hk2 _ _ _ ⟨false, h, (Sto.Le.refl _), rfl, rfl⟩
theorem conf_CheckReceiver_ok {a0 : Int × Int} {r : Int} (h : conf_CheckReceiver a0 r) (σ : Sto)  :
    Does Tryz.prog 56 [.agg [.int .u32 a0.1, .I a0.2].toArray] σ [] (fun v τ gs => gs = [] ∧ .I r = v) := by
 refine call_of Tryz.func56 Tryz.ntmps56 rfl rfl (fun cs fs => ?_)
 refine Z 2 rfl ?_
 refine o_boxC rfl rfl rfl rfl rfl rfl (fun b1 => ?_)
 refine Z 4 rfl ?_
 refine st_cut (fun ρ τ2 gs => ∃ (s2 : Bool), conf_CheckReceiver_j1 s2 r ∧ σ.Le τ2 ∧ ESub ρ [(2, .I 0), (10, .bool s2)] ∧ gs = []) ?_ (fun hk2 => ?_)
 ·rintro ρ2 τ2 gs2 ⟨s2, h, hl2, hρ, rfl⟩
  refine st_es hρ ?_
  refine st_if rfl h (fun h => ?_) (fun h => ?_)
  ·refine Z 4 rfl ?_
   obtain rfl := Eq.symm h
   exact st_ret (gs' := []) Tryz.func56 rfl (List.Sublist.refl _) hl2 ⟨rfl, rfl⟩
  ·refine Z 5 rfl ?_
   obtain rfl := Eq.symm h
   exact st_ret (gs' := []) Tryz.func56 rfl (List.Sublist.refl _) hl2 ⟨rfl, rfl⟩
 refine ZZ 4 [0] rfl rfl ?_
 refine o_mif rfl rfl rfl rfl h (fun h => ?_) (fun h => ?_)
 ·refine Z 5 rfl ?_
  refine st_ord [] _ rfl ?_
  exact hk2 _ _ _ ⟨true, h, (Sto.Le.refl _), rfl, rfl⟩
 ·refine ZZ 5 [0] rfl rfl ?_
  refine st_ord [] _ rfl ?_
  exact hk2 _ _ _ ⟨(decide (16 < a0.2)), h, (Sto.Le.refl _), rfl, rfl⟩
theorem conf_Line_ok {a0 : Int × Int × Int} {a1 : Int × Int} {r : ByteArray} (h : conf_Line a0 a1 r) (σ : Sto) (hT : Tab Tryz.prog σ) :
    Does Tryz.prog 57 [.agg [.I a0.1, .I a0.2.1, .int .u32 a0.2.2].toArray, .agg [.int .u32 a1.1, .I a1.2].toArray] σ [] (fun v τ gs => gs = [] ∧ .string r = v) := by
 refine call_of Tryz.func57 Tryz.ntmps57 rfl rfl (fun cs fs => ?_)
 refine Z 2 rfl ?_
 refine o_boxC rfl rfl rfl rfl rfl rfl (fun b1 => ?_)
 refine o_boxC rfl rfl rfl rfl rfl rfl (fun b2 => ?_)
 refine o_assign rfl rfl rfl (ev_str z_str1) ?_
 refine Z 3 rfl ?_
 refine st_cut (fun ρ τ3 gs => ∃ (s3 : Bool), conf_Line_j1 a0 a1 s3 r ∧ σ.Le τ3 ∧ ESub ρ [(2, .Pb b1), (3, .Pb b2), (4, .E0), (15, .bool s3)] ∧ gs = [[(b1, .cells #[.I a0.1, .I a0.2.1, .int .u32 a0.2.2] 56 (0, 0))], [(b2, .cells #[.int .u32 a1.1, .I a1.2] 58 (0, 0))]]) ?_ (fun hk3 => ?_)
 ·rintro ρ3 τ3 gs3 ⟨s3, h, hl3, hρ, rfl⟩
  refine st_es hρ ?_
  refine st_if rfl h (fun h => ?_) (fun h => ?_)
  ·refine Z 2 rfl ?_
   refine o_assign rfl rfl rfl (ev_str z_str1) ?_
   refine st_end ?_
   refine st_ord [] _ rfl ?_
   obtain rfl := Eq.symm h
   exact st_ret (gs' := []) Tryz.func57 rfl (List.Sublist.refl _) hl3 ⟨rfl, rfl⟩
  ·refine Z 3 rfl ?_
   refine o_assign rfl rfl rfl (ev_str z_str41) ?_
   refine Z 2 rfl ?_
   refine st_cut (fun ρ τ4 gs => ∃ (s4 : ByteArray), conf_Line_j2 s4 r ∧ τ3.Le τ4 ∧ ESub ρ [(4, .E0), (5, .string s4)] ∧ gs = []) ?_ (fun hk4 => ?_)
   ·rintro ρ4 τ4 gs4 ⟨s4, h, hl4, hρ, rfl⟩
    refine st_es hρ ?_
    refine Z 5 rfl ?_
    obtain rfl := Eq.symm h
    exact st_ret (gs' := []) Tryz.func57 rfl (List.Sublist.refl _) (hl3.trans hl4) ⟨rfl, rfl⟩
   refine ZZ 14 [0, 0, 0, 1, 1] rfl rfl ?_
   refine o_buildA (ps := [(0, [.I a0.1]), (1, [.I a0.2.1]), (2, [.I (IntKind.i64.wrap a0.2.2)]), (3, [.I (IntKind.i64.wrap a1.1)]), (4, [.I a1.2])]) (cs := [.I a0.1, .I a0.2.1, .I (IntKind.i64.wrap a0.2.2), .I (IntKind.i64.wrap a1.1), .I a1.2]) rfl rfl rfl z_arrz157 ⟨rfl, ⟨_, rfl, rfl⟩, ⟨rfl, ⟨_, rfl, rfl⟩, ⟨rfl, ⟨_, rfl, rfl⟩, ⟨rfl, ⟨_, rfl, rfl⟩, ⟨rfl, ⟨_, rfl, rfl⟩, trivial⟩⟩⟩⟩⟩ (fill_all [.I a0.1, .I a0.2.1, .I (IntKind.i64.wrap a0.2.2), .I (IntKind.i64.wrap a1.1), .I a1.2] _ rfl) ?_
   refine Z 2 rfl ?_
   obtain ⟨e5, hL5, hA5⟩ := h
   refine st_ord [] _ rfl ?_
   refine st_loop hL5 (fun (s5 : ByteArray × Int) ρ τ5 gs => τ3.Le τ5 ∧ ESub ρ [(4, .E0), (5, .string s5.1), (28, .agg #[.I a0.1, .I a0.2.1, .I (IntKind.i64.wrap a0.2.2), .I (IntKind.i64.wrap a1.1), .I a1.2]), (29, .I s5.2)] ∧ gs = []) ⟨Sto.Le.refl _, rfl, rfl⟩ ?_
   rintro s5 o5 h he5 ρ5 τ5 gs5 ⟨hl5, hρ, rfl⟩ hn5
   refine st_es hρ ?_
   refine Z 5 rfl ?_
   refine st_if rfl h (fun h => ?_) (fun h => ?_)
   ·refine Z 5 rfl ?_
    obtain ⟨hf6, hf7, h⟩ := h
    refine o_indexV (f := (Value.int .i64)) (zz := 0) (l := 5) (xs := [a0.1, a0.2.1, (IntKind.i64.wrap a0.2.2), (IntKind.i64.wrap a1.1), a1.2]) (cs := [.I a0.1, .I a0.2.1, .I (IntKind.i64.wrap a0.2.2), .I (IntKind.i64.wrap a1.1), .I a1.2]) rfl rfl rfl z_arr157 z_sc3 rfl rfl rfl hf6 hf7 ?_
    refine Z 5 rfl ?_
    obtain ⟨r8, hr9, h⟩ := h
    refine st_call (foot := []) rfl rfl rfl rfl rfl rfl (callV_fn z_en34 (say_Number_ok hr9 τ5 (hT.up (hl3.trans hl5)))) ?_
    rintro vτ10 τ10 gsτ10 hl11 ⟨rfl, rfl⟩
    obtain ⟨hf12, h⟩ := h
    refine o_sadd rfl rfl rfl (ev_str z_str0) rfl hf12 ?_
    obtain ⟨hf13, h⟩ := h
    refine o_sadd rfl rfl rfl rfl rfl hf13 ?_
    refine Z 7 rfl ?_
    exact hn5 _ _ _ _ h ⟨(hl5.trans hl11), rfl, rfl⟩
   ·refine st_exit rfl ?_
    obtain rfl := he5 _ h
    replace h := hA5
    exact hk4 _ _ _ ⟨s5.1, h, hl5, rfl, rfl⟩
 refine ZZ 2 [1] rfl rfl ?_
 obtain ⟨r15, hr16, h⟩ := h
 refine st_call (foot := []) rfl rfl rfl rfl rfl rfl (callV_fn z_en55 (conf_CheckSender_ok hr16 σ)) ?_
 rintro vτ17 τ17 gsτ17 hl18 ⟨rfl, rfl⟩
 refine o_ibin (v := .bool (!(decide (r15 = 0)))) rfl rfl rfl rfl rfl rfl ?_
 refine o_mif rfl rfl rfl rfl h (fun h => ?_) (fun h => ?_)
 ·refine Z 5 rfl ?_
  refine st_ord [1, 0] _ rfl ?_
  exact hk3 _ _ _ ⟨true, h, hl18, rfl, rfl⟩
 ·refine ZZ 1 [0] rfl rfl ?_
  obtain ⟨r19, hr20, h⟩ := h
  refine st_call (foot := []) rfl rfl rfl rfl rfl rfl (callV_fn z_en56 (conf_CheckReceiver_ok hr20 τ17)) ?_
  rintro vτ21 τ21 gsτ21 hl22 ⟨rfl, rfl⟩
  refine Z 3 rfl ?_
  refine st_ord [1, 0] _ rfl ?_
  exact hk3 _ _ _ ⟨(!(decide (r19 = 0))), h, (hl18.trans hl22), rfl, rfl⟩
theorem strings_Join_ok {a0 : List ByteArray} {a1 : ByteArray} {v1 : Value} {r : ByteArray} (h : strings_Join a0 a1 r) (σ : Sto) (hs2 : Sl kS σ v1 a0) :
    Does Tryz.prog 104 [v1, .string a1] σ [] (fun v τ gs => gs = [] ∧ .string r = v) := by
 obtain ⟨h1, h2, rfl⟩ := h
 exact join_does Tryz.strings_Join_none Tryz.strings_Join hs2 h1 h2
theorem say_hex_ok {a0 : ByteArray} {r : ByteArray} (h : say_hex a0 r) (σ : Sto)  :
    Does Tryz.prog 105 [.string a0] σ [] (fun v τ gs => gs = [] ∧ .string r = v) := by
 refine call_of Tryz.func105 Tryz.ntmps105 rfl rfl (fun cs fs => ?_)
 refine Z 2 rfl ?_
 refine o_assign rfl rfl rfl (ev_str z_str1) ?_
 refine Z 5 rfl ?_
 refine o_sbin (v := .bool (decide (a0 = (bstr [])))) rfl rfl rfl rfl (ev_str z_str1) rfl ?_
 refine st_end ?_
 refine st_if rfl h (fun h => ?_) (fun h => ?_)
 ·refine Z 2 rfl ?_
  refine o_assign rfl rfl rfl (ev_str z_str33) ?_
  refine st_end ?_
  obtain rfl := Eq.symm h
  exact st_ret (gs' := []) Tryz.func105 rfl (List.Sublist.refl _) (Sto.Le.refl _) ⟨rfl, rfl⟩
 ·refine Z 6 rfl ?_
  refine st_cut (fun ρ τ1 gs => ∃ (s1 : List Int) (v2 : Value) (g3 : Grp), say_hex_j1 s1 r ∧ σ.Le τ1 ∧ ESub ρ [(2, .E0), (3, v2)] ∧ gs = [g3] ∧ Ow (kI .u8) 5 τ1 v2 s1 g3) ?_ (fun hk1 => ?_)
  ·rintro ρ1 τ1 gs1 ⟨s1, v2, g3, h, hl1, hρ, rfl, ho4⟩
   refine st_es hρ ?_
   refine Z 3 rfl ?_
   refine st_freeze (fun τ5 hl6 hg7 => ?_)
   have hs8 := ho4.freeze hl6 hg7
   refine o_bstr (xs := s1) rfl rfl rfl Tryz.underlying27 Tryz.underlying5 Tryz.underlying9 rfl hs8 ?_
   refine Z 2 rfl ?_
   obtain rfl := Eq.symm h
   exact st_ret (gs' := []) Tryz.func105 rfl (List.Sublist.refl _) (hl1.trans hl6) ⟨rfl, rfl⟩
  refine Z 3 rfl ?_
  obtain ⟨hf14, h⟩ := h
  refine o_bytes rfl rfl rfl Tryz.underlying9 Tryz.underlying27 Tryz.underlying5 rfl hf14 (fun v10 τ11 hl12 hs13 => ?_)
  refine o_lenI rfl rfl rfl z_slT27 rfl hs13 ?_
  refine Z 2 rfl ?_
  obtain ⟨e15, hL15, hA15⟩ := h
  refine st_addNil ?_
  refine st_loop hL15 (fun (s15 : List Int × Int) ρ τ15 gs => τ11.Le τ15 ∧ ∃ (v16 : Value) (g17 : Grp), ESub ρ [(2, .E0), (3, v16), (9, v10), (10, .I ((bints a0).length : Int)), (11, .I s15.2)] ∧ gs = [g17] ∧ Ow (kI .u8) 5 τ15 v16 s15.1 g17) ⟨Sto.Le.refl _, _, _, rfl, rfl, Ow.nil⟩ ?_
  rintro s15 o15 h he15 ρ15 τ15 gs15 ⟨hl15, v16, g17, hρ, rfl, ho18⟩ hn15
  refine st_es hρ ?_
  refine Z 5 rfl ?_
  refine st_if rfl h (fun h => ?_) (fun h => ?_)
  ·refine Z 5 rfl ?_
   obtain ⟨q19, hf20, h⟩ := h
   refine o_index rfl rfl rfl z_slT27 rfl rfl (hs13.up hl15) rfl hf20 (fun b21 of22 vs hc23 hrep => ?_)
   obtain rfl := hrep
   refine o_loadI (v := .int .u8 q19) rfl rfl rfl z_sc5 rfl (hc23 0 _ rfl) ?_
   refine Z 2 rfl ?_
   obtain ⟨q24, hf25, q26, hf27, hf38, hf39, h⟩ := h
   refine st_d41 [] [g17] 9 1 [none, none, none, none, none, none, none, none, some (0, 0)] [none, none, none, none, none, none, none, none, none] [[none, some 23]] [.v (v16), .v (.int .u8 q19), .v (.int .u8 (ishr .u8 q19 4)), .v (.int .u8 q24), .v (.int .u8 q19), .v (.int .u8 (iand .u8 q19 15)), .v (.int .u8 q26), .t fun τ v => ∃ (v28 : Value), (v28 : Value) = v ∧ Sl (kI .u8) τ v28 [q24, q26], .t fun _ _ => True] [[fun τ u F => F = [g17], fun τ u F => ∃ (v40 : Value) (g41 : Grp), F = [g41] ∧ v40 = u ∧ Ow (kI .u8) 5 τ v40 (s15.1 ++ [q24, q26]) g41]] rfl z_mix rfl ⟨fun _ _ _ hl ⟨v28, hv, hs34⟩ => ⟨v28, hv, hs34.up hl⟩, ⟨fun _ _ _ _ _ => trivial, trivial⟩⟩ ⟨⟨fun _ _ _ _ hl h => h, ⟨fun _ _ _ _ hl h => (let ⟨v40, g41, hF, hU, ho42⟩ := h; ⟨v40, g41, hF, hU, ho42.up hl⟩), trivial⟩⟩, trivial⟩ rfl rfl ?_ (allB_cons (allB_cons (allB_cons (allB_cons (allB_cons (allB_cons (allB_cons (allB_cons (allB_cons allB_nil (p4 dA)) (p4 dA)) (p4 dA)) ?_) (p4 dA)) (p4 dA)) ?_) ?_) ?_) ?_
   ·exact rfl
   ·intro ρ' τ pool rs hl hd hout hw hk
    obtain ⟨_, e2, rfl⟩ := hd 2 rfl _ rfl
    refine o_indexS rfl rfl rfl Tryz.underlying9 (ev_str z_str36) e2 hf25 ?_
    exact hk _ _ (Sto.Le.refl _) rfl
   ·intro ρ' τ pool rs hl hd hout hw hk
    obtain ⟨_, e5, rfl⟩ := hd 5 rfl _ rfl
    refine o_indexS rfl rfl rfl Tryz.underlying9 (ev_str z_str36) e5 hf27 ?_
    exact hk _ _ (Sto.Le.refl _) rfl
   ·intro ρ' τ pool rs hl hd hout hw hk
    obtain ⟨_, e3, rfl⟩ := hd 3 rfl _ rfl
    obtain ⟨_, e6, rfl⟩ := hd 6 rfl _ rfl
    refine o_litE (eI .u8) [q24, q26] rfl rfl rfl z_slT27 z_zero5 ⟨rfl, ⟨_, e3, rfl⟩, ⟨rfl, ⟨_, e6, rfl⟩, trivial⟩⟩ rfl rfl rfl rfl (fun v28 g29 ho30 => ?_)
    refine st_freeze (fun τ31 hl32 hg33 => ?_)
    have hs34 := ho30.freeze hl32 hg33
    exact hk _ _ hl32 ⟨v28, rfl, hs34⟩
   ·intro ρ' τ u Fv pool rs hl hI hu hd hout hw hk
    obtain ⟨_, e0, rfl⟩ := hd 0 rfl _ rfl
    obtain ⟨_, e7, v28, rfl, hs34⟩ := hd 7 rfl _ rfl
    have hI0 := hI
    obtain rfl := hI
    refine st_gs [g17, pool] rfl ?_
    refine o_append (dk := (kI .u8)) (xs := s15.1) (ys := [q24, q26]) rfl rfl rfl rfl z_slT27 e0 (ho18.up hl) e7 (Sl.src hs34) hf38 hf39 (fun v35 g36 ho37 => ?_)
    exact hk _ _ [g36] (Sto.Le.refl _) trivial (by exact ⟨v35, g36, rfl, rfl, ho37⟩)
   intro ρ' τ43 vals u Fv hl43 hI hu hv hout
   obtain ⟨v40, g41, rfl, rfl, ho42⟩ := hI
   refine st_gs [g41] rfl ?_
   refine st_env (ρ' := [(2, .E0), (9, v10), (10, .I ((bints a0).length : Int)), (11, .I s15.2), (23, v40)]) ⟨(hout 2 rfl).trans rfl, (hout 9 rfl).trans rfl, (hout 10 rfl).trans rfl, (hout 11 rfl).trans rfl, (by exact hu _ rfl), trivial⟩ ?_
   refine Z 7 rfl ?_
   exact hn15 _ _ _ _ h ⟨(hl15.trans hl43), _, _, rfl, rfl, ho42⟩
  ·refine st_exit rfl ?_
   obtain rfl := he15 _ h
   replace h := hA15
   exact hk1 _ _ _ ⟨s15.1, _, _, h, (hl12.trans hl15), rfl, rfl, ho18⟩
theorem say_value_ok {a0 : TyM} {a1 : TyA} {v1 : Value} {v2 : Value} {r : ByteArray} (h : say_value a0 a1 r) (σ : Sto) (hs3 : Sl (kP (kI .i64) (kI .i64)) σ v1 a0.2.2.1) (hs4 : Sl (kI .i64) σ v2 a0.2.2.2.1) (hT : Tab Tryz.prog σ) :
    Does Tryz.prog 73 [.agg [.I a0.1, .I (a0.2.1.getD 0 0), .I (a0.2.1.getD 1 0), .I (a0.2.1.getD 2 0), .I (a0.2.1.getD 3 0), .I (a0.2.1.getD 4 0), .I (a0.2.1.getD 5 0), v1, v2, .string a0.t4.1, .string a0.t4.2].toArray, .agg [.string a1.1, .I a1.2.1, .I a1.2.2.1, .I a1.2.2.2.1, .I a1.t4.1, .I a1.t4.2.1, .I a1.t4.2.2].toArray] σ [] (fun v τ gs => gs = [] ∧ .string r = v) := by
 refine call_of Tryz.func73 Tryz.ntmps73 rfl rfl (fun cs fs => ?_)
 refine Z 2 rfl ?_
 refine o_box (cs := [.I a0.1, .I (a0.2.1.getD 0 0), .I (a0.2.1.getD 1 0), .I (a0.2.1.getD 2 0), .I (a0.2.1.getD 3 0), .I (a0.2.1.getD 4 0), .I (a0.2.1.getD 5 0), v1, v2, .string a0.t4.1, .string a0.t4.2]) rfl rfl rfl rfl rfl (fun b5 => ?_)
 refine o_boxC rfl rfl rfl rfl rfl rfl (fun b6 => ?_)
 refine o_assign rfl rfl rfl (ev_str z_str1) ?_
 refine ZZ 17 [0] rfl rfl ?_
 refine st_if rfl h (fun h => ?_) (fun h => ?_)
 ·refine st_seq ?_
  refine st_cut (fun ρ τ7 gs => ∃ (s7 : List ByteArray) (v8 : Value) (g9 : Grp), say_value_j1 s7 r ∧ σ.Le τ7 ∧ ESub ρ [(2, .Pb b5), (3, .Pb b6), (4, .E0), (5, v8)] ∧ gs = [[(b5, .cells #[.I a0.1, .I (a0.2.1.getD 0 0), .I (a0.2.1.getD 1 0), .I (a0.2.1.getD 2 0), .I (a0.2.1.getD 3 0), .I (a0.2.1.getD 4 0), .I (a0.2.1.getD 5 0), v1, v2, .string a0.t4.1, .string a0.t4.2] 26 (0, 0))], [(b6, .cells #[.string a1.1, .I a1.2.1, .I a1.2.2.1, .I a1.2.2.2.1, .I a1.t4.1, .I a1.t4.2.1, .I a1.t4.2.2] 139 (0, 0))], g9] ∧ Ow kS 9 τ7 v8 s7 g9) ?_ (fun hk7 => ?_)
  ·rintro ρ7 τ7 gs7 ⟨s7, v8, g9, h, hl7, hρ, rfl, ho10⟩
   refine st_es hρ ?_
   refine Z 3 rfl ?_
   obtain ⟨r16, hr17, h⟩ := h
   refine st_ord [2, 0, 0] _ rfl ?_
   refine st_freeze (fun τ11 hl12 hg13 => ?_)
   have hs14 := ho10.freeze hl12 hg13
   refine st_call (foot := []) rfl rfl rfl rfl (evs_cons rfl (evs_cons (ev_str z_str31) rfl)) rfl (callV_fn z_en104 (strings_Join_ok hr17 τ11 hs14)) ?_
   rintro vτ18 τ18 gsτ18 hl19 ⟨rfl, rfl⟩
   refine Z 2 rfl ?_
   refine st_ord [] _ rfl ?_
   obtain rfl := Eq.symm h
   exact st_ret (gs' := []) Tryz.func73 rfl (List.Sublist.refl _) ((hl7.trans hl12).trans hl19) ⟨rfl, rfl⟩
  refine ZZ 4 [1] rfl rfl ?_
  refine o_lenI rfl rfl rfl z_slT23 rfl hs3 ?_
  refine Z 2 rfl ?_
  obtain ⟨e20, hL20, hA20⟩ := h
  refine st_addNil ?_
  refine st_ord [2, 1, 0] _ rfl ?_
  refine st_loop hL20 (fun (s20 : List ByteArray × Int) ρ τ20 gs => σ.Le τ20 ∧ ∃ (v21 : Value) (g22 : Grp), ESub ρ [(2, .Pb b5), (3, .Pb b6), (4, .E0), (5, v21), (15, v1), (16, .I (a0.2.2.1.length : Int)), (17, .I s20.2)] ∧ gs = [[(b5, .cells #[.I a0.1, .I (a0.2.1.getD 0 0), .I (a0.2.1.getD 1 0), .I (a0.2.1.getD 2 0), .I (a0.2.1.getD 3 0), .I (a0.2.1.getD 4 0), .I (a0.2.1.getD 5 0), v1, v2, .string a0.t4.1, .string a0.t4.2] 26 (0, 0))], [(b6, .cells #[.string a1.1, .I a1.2.1, .I a1.2.2.1, .I a1.2.2.2.1, .I a1.t4.1, .I a1.t4.2.1, .I a1.t4.2.2] 139 (0, 0))], g22] ∧ Ow kS 9 τ20 v21 s20.1 g22) ⟨Sto.Le.refl _, _, _, rfl, rfl, Ow.nil⟩ ?_
  rintro s20 o20 h he20 ρ20 τ20 gs20 ⟨hl20, v21, g22, hρ, rfl, ho23⟩ hn20
  refine st_es hρ ?_
  refine Z 5 rfl ?_
  refine st_if rfl h (fun h => ?_) (fun h => ?_)
  ·refine Z 5 rfl ?_
   obtain ⟨q24, hf25, h⟩ := h
   refine o_index rfl rfl rfl z_slT23 rfl rfl (hs3.up hl20) rfl hf25 (fun b26 of27 vs hc28 hrep => ?_)
   obtain ⟨_, _, rfl, rfl, rfl⟩ := hrep
   refine o_loadIN (vs := [.I q24.1, .I q24.2]) rfl rfl rfl z_agg149 rfl rfl (celn_part 0 rfl hc28) ?_
   refine o_alloc rfl rfl rfl z_zero149 (fun b29 => ?_)
   refine ZZ 2 [0] rfl rfl ?_
   obtain ⟨r30, hr31, hf34, r35, hr36, hf39, hf50, hf51, h⟩ := h
   refine st_d41 [[(b29, .cells #[.I q24.1, .I q24.2] 149 (0, 0))], [(b5, .cells #[.I a0.1, .I (a0.2.1.getD 0 0), .I (a0.2.1.getD 1 0), .I (a0.2.1.getD 2 0), .I (a0.2.1.getD 3 0), .I (a0.2.1.getD 4 0), .I (a0.2.1.getD 5 0), v1, v2, .string a0.t4.1, .string a0.t4.2] 26 (0, 0))], [(b6, .cells #[.string a1.1, .I a1.2.1, .I a1.2.2.1, .I a1.2.2.2.1, .I a1.t4.1, .I a1.t4.2.1, .I a1.t4.2.2] 139 (0, 0))]] [g22] 11 1 [none, none, none, none, none, none, none, none, none, none, some (0, 0)] [none, none, none, none, none, none, none, none, none, none, none] [[none, some 31]] [.v (v21), .v (.Pb b29), .v (.I q24.1), .v (.string r30), .v (.string (r30 ++ (bstr [44]))), .v (.pointer (some ⟨b29, 1, none⟩)), .v (.I q24.2), .v (.string r35), .v (.string ((r30 ++ (bstr [44])) ++ r35)), .t fun τ v => ∃ (v40 : Value), (v40 : Value) = v ∧ Sl kS τ v40 [((r30 ++ (bstr [44])) ++ r35)], .t fun _ _ => True] [[fun τ u F => F = [g22], fun τ u F => ∃ (v52 : Value) (g53 : Grp), F = [g53] ∧ v52 = u ∧ Ow kS 9 τ v52 (s20.1 ++ [((r30 ++ (bstr [44])) ++ r35)]) g53]] rfl z_mix rfl ⟨fun _ _ _ hl ⟨v40, hv, hs46⟩ => ⟨v40, hv, hs46.up hl⟩, ⟨fun _ _ _ _ _ => trivial, trivial⟩⟩ ⟨⟨fun _ _ _ _ hl h => h, ⟨fun _ _ _ _ hl h => (let ⟨v52, g53, hF, hU, ho54⟩ := h; ⟨v52, g53, hF, hU, ho54.up hl⟩), trivial⟩⟩, trivial⟩ rfl rfl ?_ (allB_cons (allB_cons (allB_cons (allB_cons (allB_cons (allB_cons (allB_cons (allB_cons (allB_cons (allB_cons (allB_cons allB_nil (p4 dA)) (p4 dA)) ?_) ?_) ?_) (p4 dA)) ?_) ?_) ?_) ?_) ?_) ?_
   ·exact rfl
   ·intro ρ' τ pool rs hl hd hout hw hk
    obtain ⟨_, e1, rfl⟩ := hd 1 rfl _ rfl
    refine o_load (j := 0) (v := .I q24.1) rfl rfl rfl z_sc3 e1 rfl rfl ?_
    exact hk _ _ (Sto.Le.refl _) rfl
   ·intro ρ' τ pool rs hl hd hout hw hk
    obtain ⟨_, e2, rfl⟩ := hd 2 rfl _ rfl
    refine st_call (foot := []) rfl rfl rfl rfl (evs_cons e2 rfl) rfl (callV_fn z_en34 (say_Number_ok hr31 τ (hT.up (hl20.trans hl)))) ?_
    rintro vτ32 τ32 gsτ32 hl33 ⟨rfl, rfl⟩
    exact hk _ _ hl33 rfl
   ·intro ρ' τ pool rs hl hd hout hw hk
    obtain ⟨_, e3, rfl⟩ := hd 3 rfl _ rfl
    refine o_sadd rfl rfl rfl e3 (ev_str z_str32) hf34 ?_
    exact hk _ _ (Sto.Le.refl _) rfl
   ·intro ρ' τ pool rs hl hd hout hw hk
    obtain ⟨_, e5, rfl⟩ := hd 5 rfl _ rfl
    refine o_load (j := 0) (v := .I q24.2) rfl rfl rfl z_sc3 e5 rfl rfl ?_
    exact hk _ _ (Sto.Le.refl _) rfl
   ·intro ρ' τ pool rs hl hd hout hw hk
    obtain ⟨_, e6, rfl⟩ := hd 6 rfl _ rfl
    refine st_call (foot := []) rfl rfl rfl rfl (evs_cons e6 rfl) rfl (callV_fn z_en34 (say_Number_ok hr36 τ (hT.up (hl20.trans hl)))) ?_
    rintro vτ37 τ37 gsτ37 hl38 ⟨rfl, rfl⟩
    exact hk _ _ hl38 rfl
   ·intro ρ' τ pool rs hl hd hout hw hk
    obtain ⟨_, e4, rfl⟩ := hd 4 rfl _ rfl
    obtain ⟨_, e7, rfl⟩ := hd 7 rfl _ rfl
    refine o_sadd rfl rfl rfl e4 e7 hf39 ?_
    exact hk _ _ (Sto.Le.refl _) rfl
   ·intro ρ' τ pool rs hl hd hout hw hk
    obtain ⟨_, e8, rfl⟩ := hd 8 rfl _ rfl
    refine o_litE eS [((r30 ++ (bstr [44])) ++ r35)] rfl rfl rfl z_slT67 z_zero9 ⟨rfl, ⟨_, e8, rfl⟩, trivial⟩ rfl rfl rfl rfl (fun v40 g41 ho42 => ?_)
    refine st_freeze (fun τ43 hl44 hg45 => ?_)
    have hs46 := ho42.freeze hl44 hg45
    exact hk _ _ hl44 ⟨v40, rfl, hs46⟩
   ·intro ρ' τ u Fv pool rs hl hI hu hd hout hw hk
    obtain ⟨_, e0, rfl⟩ := hd 0 rfl _ rfl
    obtain ⟨_, e9, v40, rfl, hs46⟩ := hd 9 rfl _ rfl
    have hI0 := hI
    obtain rfl := hI
    refine st_gs [[(b29, .cells #[.I q24.1, .I q24.2] 149 (0, 0))], [(b5, .cells #[.I a0.1, .I (a0.2.1.getD 0 0), .I (a0.2.1.getD 1 0), .I (a0.2.1.getD 2 0), .I (a0.2.1.getD 3 0), .I (a0.2.1.getD 4 0), .I (a0.2.1.getD 5 0), v1, v2, .string a0.t4.1, .string a0.t4.2] 26 (0, 0))], [(b6, .cells #[.string a1.1, .I a1.2.1, .I a1.2.2.1, .I a1.2.2.2.1, .I a1.t4.1, .I a1.t4.2.1, .I a1.t4.2.2] 139 (0, 0))], g22, pool] rfl ?_
    refine st_ord [3, 0, 0, 0, 0] _ rfl ?_
    refine o_append (dk := kS) (xs := s20.1) (ys := [((r30 ++ (bstr [44])) ++ r35)]) rfl rfl rfl rfl z_slT67 e0 (ho23.up hl) e9 (Sl.src hs46) hf50 hf51 (fun v47 g48 ho49 => ?_)
    refine st_ord [1, 1, 1, 0, 0] _ rfl ?_
    exact hk _ _ [g48] (Sto.Le.refl _) trivial (by exact ⟨v47, g48, rfl, rfl, ho49⟩)
   intro ρ' τ55 vals u Fv hl55 hI hu hv hout
   obtain ⟨v52, g53, rfl, rfl, ho54⟩ := hI
   refine st_gs [[(b29, .cells #[.I q24.1, .I q24.2] 149 (0, 0))], [(b5, .cells #[.I a0.1, .I (a0.2.1.getD 0 0), .I (a0.2.1.getD 1 0), .I (a0.2.1.getD 2 0), .I (a0.2.1.getD 3 0), .I (a0.2.1.getD 4 0), .I (a0.2.1.getD 5 0), v1, v2, .string a0.t4.1, .string a0.t4.2] 26 (0, 0))], [(b6, .cells #[.string a1.1, .I a1.2.1, .I a1.2.2.1, .I a1.2.2.2.1, .I a1.t4.1, .I a1.t4.2.1, .I a1.t4.2.2] 139 (0, 0))], g53] rfl ?_
   refine st_env (ρ' := [(2, .Pb b5), (3, .Pb b6), (4, .E0), (15, v1), (16, .I (a0.2.2.1.length : Int)), (17, .I s20.2), (31, v52)]) ⟨(hout 2 rfl).trans rfl, (hout 3 rfl).trans rfl, (hout 4 rfl).trans rfl, (hout 15 rfl).trans rfl, (hout 16 rfl).trans rfl, (hout 17 rfl).trans rfl, (by exact hu _ rfl), trivial⟩ ?_
   refine Z 7 rfl ?_
   refine st_ord [1, 1, 1] _ rfl ?_
   exact hn20 _ _ _ _ h ⟨(hl20.trans hl55), _, _, rfl, rfl, ho54⟩
  ·refine st_exit rfl ?_
   obtain rfl := he20 _ h
   replace h := hA20
   exact hk7 _ _ _ ⟨s20.1, _, _, h, hl20, rfl, rfl, ho23⟩
 ·refine Z 5 rfl ?_
  refine st_if rfl h (fun h => ?_) (fun h => ?_)
  ·refine st_seq ?_
   refine st_cut (fun ρ τ57 gs => ∃ (s57 : List ByteArray) (v58 : Value) (g59 : Grp), say_value_j3 s57 r ∧ σ.Le τ57 ∧ ESub ρ [(2, .Pb b5), (3, .Pb b6), (4, .E0), (5, v58)] ∧ gs = [[(b5, .cells #[.I a0.1, .I (a0.2.1.getD 0 0), .I (a0.2.1.getD 1 0), .I (a0.2.1.getD 2 0), .I (a0.2.1.getD 3 0), .I (a0.2.1.getD 4 0), .I (a0.2.1.getD 5 0), v1, v2, .string a0.t4.1, .string a0.t4.2] 26 (0, 0))], [(b6, .cells #[.string a1.1, .I a1.2.1, .I a1.2.2.1, .I a1.2.2.2.1, .I a1.t4.1, .I a1.t4.2.1, .I a1.t4.2.2] 139 (0, 0))], g59] ∧ Ow kS 9 τ57 v58 s57 g59) ?_ (fun hk57 => ?_)
   ·rintro ρ57 τ57 gs57 ⟨s57, v58, g59, h, hl57, hρ, rfl, ho60⟩
    refine st_es hρ ?_
    refine Z 3 rfl ?_
    obtain ⟨r66, hr67, h⟩ := h
    refine st_ord [2, 0, 0] _ rfl ?_
    refine st_freeze (fun τ61 hl62 hg63 => ?_)
    have hs64 := ho60.freeze hl62 hg63
    refine st_call (foot := []) rfl rfl rfl rfl (evs_cons rfl (evs_cons (ev_str z_str32) rfl)) rfl (callV_fn z_en104 (strings_Join_ok hr67 τ61 hs64)) ?_
    rintro vτ68 τ68 gsτ68 hl69 ⟨rfl, rfl⟩
    refine Z 2 rfl ?_
    refine st_ord [] _ rfl ?_
    obtain rfl := Eq.symm h
    exact st_ret (gs' := []) Tryz.func73 rfl (List.Sublist.refl _) ((hl57.trans hl62).trans hl69) ⟨rfl, rfl⟩
   refine ZZ 4 [1] rfl rfl ?_
   refine o_lenI rfl rfl rfl z_slT24 rfl hs4 ?_
   refine Z 2 rfl ?_
   obtain ⟨e70, hL70, hA70⟩ := h
   refine st_addNil ?_
   refine st_ord [2, 1, 0] _ rfl ?_
   refine st_loop hL70 (fun (s70 : List ByteArray × Int) ρ τ70 gs => σ.Le τ70 ∧ ∃ (v71 : Value) (g72 : Grp), ESub ρ [(2, .Pb b5), (3, .Pb b6), (4, .E0), (5, v71), (38, v2), (39, .I (a0.2.2.2.1.length : Int)), (40, .I s70.2)] ∧ gs = [[(b5, .cells #[.I a0.1, .I (a0.2.1.getD 0 0), .I (a0.2.1.getD 1 0), .I (a0.2.1.getD 2 0), .I (a0.2.1.getD 3 0), .I (a0.2.1.getD 4 0), .I (a0.2.1.getD 5 0), v1, v2, .string a0.t4.1, .string a0.t4.2] 26 (0, 0))], [(b6, .cells #[.string a1.1, .I a1.2.1, .I a1.2.2.1, .I a1.2.2.2.1, .I a1.t4.1, .I a1.t4.2.1, .I a1.t4.2.2] 139 (0, 0))], g72] ∧ Ow kS 9 τ70 v71 s70.1 g72) ⟨Sto.Le.refl _, _, _, rfl, rfl, Ow.nil⟩ ?_
   rintro s70 o70 h he70 ρ70 τ70 gs70 ⟨hl70, v71, g72, hρ, rfl, ho73⟩ hn70
   refine st_es hρ ?_
   refine Z 5 rfl ?_
   refine st_if rfl h (fun h => ?_) (fun h => ?_)
   ·refine Z 5 rfl ?_
    obtain ⟨q74, hf75, h⟩ := h
    refine o_index rfl rfl rfl z_slT24 rfl rfl (hs4.up hl70) rfl hf75 (fun b76 of77 vs hc78 hrep => ?_)
    obtain rfl := hrep
    refine o_loadI (v := .I q74) rfl rfl rfl z_sc3 rfl (hc78 0 _ rfl) ?_
    refine Z 5 rfl ?_
    obtain ⟨r79, hr80, h⟩ := h
    refine st_call (foot := []) rfl rfl rfl rfl rfl rfl (callV_fn z_en34 (say_Number_ok hr80 τ70 (hT.up hl70))) ?_
    rintro vτ81 τ81 gsτ81 hl82 ⟨rfl, rfl⟩
    refine o_litE eS [r79] rfl rfl rfl z_slT67 z_zero9 ⟨rfl, ⟨_, rfl, rfl⟩, trivial⟩ rfl rfl rfl rfl (fun v83 g84 ho85 => ?_)
    obtain ⟨hf89, hf90, h⟩ := h
    refine st_ord [3, 0, 0, 0] _ rfl ?_
    refine o_append (dk := kS) (xs := s70.1) (ys := [r79]) rfl rfl rfl rfl z_slT67 rfl (ho73.up hl82) rfl (Ow.src (j := 1) ho85 rfl) hf89 hf90 (fun v86 g87 ho88 => ?_)
    refine Z 7 rfl ?_
    refine st_ord [2, 2, 0] _ rfl ?_
    exact hn70 _ _ _ _ h ⟨(hl70.trans hl82), _, _, rfl, rfl, ho88⟩
   ·refine st_exit rfl ?_
    obtain rfl := he70 _ h
    replace h := hA70
    exact hk57 _ _ _ ⟨s70.1, _, _, h, hl70, rfl, rfl, ho73⟩
  ·refine Z 5 rfl ?_
   refine st_if rfl h (fun h => ?_) (fun h => ?_)
   ·refine ZZ 4 [1] rfl rfl ?_
    obtain ⟨r92, hr93, h⟩ := h
    refine st_call (foot := []) rfl rfl rfl rfl rfl rfl (callV_fn z_en105 (say_hex_ok hr93 σ)) ?_
    rintro vτ94 τ94 gsτ94 hl95 ⟨rfl, rfl⟩
    refine Z 2 rfl ?_
    refine st_ord [] _ rfl ?_
    obtain rfl := Eq.symm h
    exact st_ret (gs' := []) Tryz.func73 rfl (List.Sublist.refl _) hl95 ⟨rfl, rfl⟩
   ·refine Z 5 rfl ?_
    refine st_if rfl h (fun h => ?_) (fun h => ?_)
    ·refine ZZ 4 [1] rfl rfl ?_
     obtain ⟨r96, hr97, h⟩ := h
     refine st_call (foot := []) rfl rfl rfl rfl rfl rfl (callV_fn z_en105 (say_hex_ok hr97 σ)) ?_
     rintro vτ98 τ98 gsτ98 hl99 ⟨rfl, rfl⟩
     refine Z 2 rfl ?_
     refine st_ord [] _ rfl ?_
     obtain rfl := Eq.symm h
     exact st_ret (gs' := []) Tryz.func73 rfl (List.Sublist.refl _) hl99 ⟨rfl, rfl⟩
    ·refine ZZ 7 [0] rfl rfl ?_
     obtain ⟨hf100, hf101, h⟩ := h
     refine o_indexA rfl rfl rfl z_arr22 rfl rfl hf100 hf101 ?_
     refine o_loadV (j := 1) (a1.2.2.1.toNat) (f := (Value.int .i64)) (zz := 0) (l := 6) (xs := a0.2.1) [.I a0.1] [v1, v2, .string a0.t4.1, .string a0.t4.2] rfl rfl rfl z_sc3 rfl rfl (by simp only [List.length_cons, List.length_nil] <;> omega) (by omega) ?_
     obtain ⟨r102, hr103, h⟩ := h
     refine st_call (foot := []) rfl rfl rfl rfl rfl rfl (callV_fn z_en34 (say_Number_ok hr103 σ hT)) ?_
     rintro vτ104 τ104 gsτ104 hl105 ⟨rfl, rfl⟩
     refine Z 2 rfl ?_
     refine st_ord [] _ rfl ?_
     obtain rfl := Eq.symm h
     exact st_ret (gs' := []) Tryz.func73 rfl (List.Sublist.refl _) hl105 ⟨rfl, rfl⟩
theorem say_Line_ok {a0 : TyM} {v1 : Value} {v2 : Value} {r : ByteArray} (h : say_Line a0 r) (σ : Sto) (hs3 : Sl (kP (kI .i64) (kI .i64)) σ v1 a0.2.2.1) (hs4 : Sl (kI .i64) σ v2 a0.2.2.2.1) (hT : Tab Tryz.prog σ) :
    Does Tryz.prog 32 [.agg [.I a0.1, .I (a0.2.1.getD 0 0), .I (a0.2.1.getD 1 0), .I (a0.2.1.getD 2 0), .I (a0.2.1.getD 3 0), .I (a0.2.1.getD 4 0), .I (a0.2.1.getD 5 0), v1, v2, .string a0.t4.1, .string a0.t4.2].toArray] σ [] (fun v τ gs => gs = [] ∧ .string r = v) := by
 refine call_of Tryz.func32 Tryz.ntmps32 rfl rfl (fun cs fs => ?_)
 refine Z 2 rfl ?_
 refine o_box (cs := [.I a0.1, .I (a0.2.1.getD 0 0), .I (a0.2.1.getD 1 0), .I (a0.2.1.getD 2 0), .I (a0.2.1.getD 3 0), .I (a0.2.1.getD 4 0), .I (a0.2.1.getD 5 0), v1, v2, .string a0.t4.1, .string a0.t4.2]) rfl rfl rfl rfl rfl (fun b5 => ?_)
 refine o_assign rfl rfl rfl (ev_str z_str1) ?_
 refine ZZ 5 [0] rfl rfl ?_
 obtain ⟨r6, hr7, h⟩ := h
 refine st_call (foot := []) rfl rfl rfl rfl rfl rfl (callV_fn z_en41 (msg_Check_ok hr7 σ hs3 hs4)) ?_
 rintro vτ8 τ8 gsτ8 hl9 ⟨rfl, rfl⟩
 refine Z 2 rfl ?_
 refine st_if rfl h (fun h => ?_) (fun h => ?_)
 ·refine Z 2 rfl ?_
  refine o_assign rfl rfl rfl (ev_str z_str1) ?_
  refine st_end ?_
  refine st_ord [] _ rfl ?_
  obtain rfl := Eq.symm h
  exact st_ret (gs' := []) Tryz.func32 rfl (List.Sublist.refl _) hl9 ⟨rfl, rfl⟩
 ·refine ZZ 5 [0] rfl rfl ?_
  obtain ⟨r10, hr11, h⟩ := h
  refine st_call (foot := []) rfl rfl rfl rfl rfl rfl (callV_fn z_en71 (field_Word_ok hr11 τ8)) ?_
  rintro vτ12 τ12 gsτ12 hl13 ⟨rfl, rfl⟩
  refine o_alloc rfl rfl rfl z_zero9 (fun b14 => ?_)
  refine ZZ 7 [0, 1] rfl rfl ?_
  obtain ⟨r15, hr16, h⟩ := h
  refine st_call (foot := []) rfl rfl rfl rfl rfl rfl (callV_fn z_en72 (field_All_ok hr16 τ12)) ?_
  rintro vτ17 τ17 gsτ17 hl18 ⟨f19, q20, rfl, rfl, hit21⟩
  refine Z 2 rfl ?_
  obtain ⟨t22, w22, hR22, hA22⟩ := h
  refine st_env (ρ' := [(1, .Pb b5), (2, .E0), (3, .Pb b14), (13, .func (.func f19) #[] q20)]) ⟨rfl, rfl, rfl, rfl, trivial⟩ ?_
  refine st_ord [1, 0] _ rfl ?_
  refine st_addNil ?_
  refine st_range (B := say_Line_l1 a0) (s0 := r10) ranges_fctx rfl hit21 (Sto.Le.refl _) hR22 rfl (fun _ _ _ h => by cases h; rfl) (fun (s22 : ByteArray) τ22 gs => τ17.Le τ22 ∧ gs = [[(b5, .cells #[.I a0.1, .I (a0.2.1.getD 0 0), .I (a0.2.1.getD 1 0), .I (a0.2.1.getD 2 0), .I (a0.2.1.getD 3 0), .I (a0.2.1.getD 4 0), .I (a0.2.1.getD 5 0), v1, v2, .string a0.t4.1, .string a0.t4.2] 26 (0, 0))], [(b14, .cells #[.string s22] 9 (0, 0))]]) (fun _ _ _ _ => False) (fun _ _ _ _ hl ⟨hb, hg⟩ => ⟨hb.trans hl, hg⟩) (fun _ _ _ _ _ _ h => h.elim) ⟨Sto.Le.refl _, rfl⟩ ?_ ?_ ?_
  ·rintro x22 s22 o22 τ22 gs22 vx22 hl22 h rfl ⟨hb22, rfl⟩ l22 rc22 caller22 cs22 fs22
   refine st_region ?_
   refine o_alloc rfl rfl rfl z_zero139 (fun b23 => ?_)
   refine ZZ 2 [0] rfl rfl ?_
   refine st_begin ?_
   refine st_block ?_
   obtain ⟨hf24, hf25, r26, hr27, hf30, hf31, h⟩ := h
   refine st_draw 10 (dl [.v (.string s22), .v (.Pb b23), .v (.string x22.1), .v (.string ((bstr [32]) ++ x22.1)), .v (.string (((bstr [32]) ++ x22.1) ++ (bstr [32]))), .v (.agg #[.I a0.1, .I (a0.2.1.getD 0 0), .I (a0.2.1.getD 1 0), .I (a0.2.1.getD 2 0), .I (a0.2.1.getD 3 0), .I (a0.2.1.getD 4 0), .I (a0.2.1.getD 5 0), v1, v2, .string a0.t4.1, .string a0.t4.2]), .v (.agg #[.string x22.1, .I x22.2.1, .I x22.2.2.1, .I x22.2.2.2.1, .I x22.t4.1, .I x22.t4.2.1, .I x22.t4.2.2]), .v (.string r26), .v (.string ((((bstr [32]) ++ x22.1) ++ (bstr [32])) ++ r26)), .v (.string (s22 ++ ((((bstr [32]) ++ x22.1) ++ (bstr [32])) ++ r26)))]) (fun _ _ => []) z_mix rfl (dl_mono trivial) (allB_cons (allB_cons (allB_cons (allB_cons (allB_cons (allB_cons (allB_cons (allB_cons (allB_cons (allB_cons allB_nil ?_) (p1 dA)) ?_) ?_) ?_) ?_) ?_) ?_) ?_) ?_) ?_
   ·intro ρ' τ pool rs hl hd hout hk
    refine o_load (j := 2) (v := .string s22) rfl rfl rfl z_sc9 ((hout 3 rfl).trans rfl) rfl rfl ?_
    exact st_addNil (hk _ _ (Sto.Le.refl _) rfl)
   ·intro ρ' τ pool rs hl hd hout hk
    obtain ⟨_, e1, rfl⟩ := hd 1 rfl
    refine o_load (j := 0) (v := .string x22.1) rfl rfl rfl z_sc9 e1 rfl rfl ?_
    exact st_addNil (hk _ _ (Sto.Le.refl _) rfl)
   ·intro ρ' τ pool rs hl hd hout hk
    obtain ⟨_, e2, rfl⟩ := hd 2 rfl
    refine o_sadd rfl rfl rfl (ev_str z_str0) e2 hf24 ?_
    exact st_addNil (hk _ _ (Sto.Le.refl _) rfl)
   ·intro ρ' τ pool rs hl hd hout hk
    obtain ⟨_, e3, rfl⟩ := hd 3 rfl
    refine o_sadd rfl rfl rfl e3 (ev_str z_str0) hf25 ?_
    exact st_addNil (hk _ _ (Sto.Le.refl _) rfl)
   ·intro ρ' τ pool rs hl hd hout hk
    refine o_loadN (j := 1) (vs := [.I a0.1, .I (a0.2.1.getD 0 0), .I (a0.2.1.getD 1 0), .I (a0.2.1.getD 2 0), .I (a0.2.1.getD 3 0), .I (a0.2.1.getD 4 0), .I (a0.2.1.getD 5 0), v1, v2, .string a0.t4.1, .string a0.t4.2]) rfl rfl rfl z_agg26 ((hout 1 rfl).trans rfl) rfl rfl ?_
    exact st_addNil (hk _ _ (Sto.Le.refl _) rfl)
   ·intro ρ' τ pool rs hl hd hout hk
    refine o_loadN (j := 0) (vs := [.string x22.1, .I x22.2.1, .I x22.2.2.1, .I x22.2.2.2.1, .I x22.t4.1, .I x22.t4.2.1, .I x22.t4.2.2]) rfl rfl rfl z_agg139 ((hout 4 rfl).trans rfl) rfl rfl ?_
    exact st_addNil (hk _ _ (Sto.Le.refl _) rfl)
   ·intro ρ' τ pool rs hl hd hout hk
    obtain ⟨_, e5, rfl⟩ := hd 5 rfl
    obtain ⟨_, e6, rfl⟩ := hd 6 rfl
    refine st_call (foot := []) rfl rfl rfl rfl (evs_cons e5 (evs_cons e6 rfl)) rfl (callV_fn z_en73 (say_value_ok hr27 τ (hs3.up ((((hl9.trans hl13).trans hl18).trans hl22).trans hl)) (hs4.up ((((hl9.trans hl13).trans hl18).trans hl22).trans hl)) (hT.up ((((hl9.trans hl13).trans hl18).trans hl22).trans hl)))) ?_
    rintro vτ28 τ28 gsτ28 hl29 ⟨rfl, rfl⟩
    exact st_addNil (hk _ _ hl29 rfl)
   ·intro ρ' τ pool rs hl hd hout hk
    obtain ⟨_, e4, rfl⟩ := hd 4 rfl
    obtain ⟨_, e7, rfl⟩ := hd 7 rfl
    refine o_sadd rfl rfl rfl e4 e7 hf30 ?_
    exact st_addNil (hk _ _ (Sto.Le.refl _) rfl)
   ·intro ρ' τ pool rs hl hd hout hk
    obtain ⟨_, e0, rfl⟩ := hd 0 rfl
    obtain ⟨_, e8, rfl⟩ := hd 8 rfl
    refine o_sadd rfl rfl rfl e0 e8 hf31 ?_
    exact st_addNil (hk _ _ (Sto.Le.refl _) rfl)
   intro ρ' τ32 vals hl32 hv hout
   refine st_ord [0, 0, 0] _ rfl ?_
   refine st_env (ρ' := [(24, .string (s22 ++ ((((bstr [32]) ++ x22.1) ++ (bstr [32])) ++ r26))), (1, .Pb b5), (2, .E0), (3, .Pb b14), (14, .agg #[.string x22.1, .I x22.2.1, .I x22.2.2.1, .I x22.2.2.2.1, .I x22.t4.1, .I x22.t4.2.1, .I x22.t4.2.2]), (4, .Pb b23)]) ⟨(lv1 hv 9 rfl rfl), (hout 1 rfl).trans rfl, (hout 2 rfl).trans rfl, (hout 3 rfl).trans rfl, (hout 14 rfl).trans rfl, (hout 4 rfl).trans rfl, trivial⟩ ?_
   refine ZZ 3 [2] rfl rfl ?_
   refine st_ord [1, 1] _ rfl ?_
   exact st_rend (List.Sublist.refl _) hl32 ⟨_, h, (hl22.trans hl32), rfl⟩
  ·rintro p33 τ34 gs22 f22 ht hl35 ⟨hb, rfl⟩ rfl
   subst ht
   replace h := hA22
   refine st_ord [1, 1] _ rfl ?_
   refine ZZ 6 [1] rfl rfl ?_
   refine st_ord [] _ rfl ?_
   obtain rfl := Eq.symm h
   exact st_ret (gs' := []) Tryz.func32 rfl (List.Sublist.refl _) (((hl9.trans hl13).trans hl18).trans hl35) ⟨rfl, rfl⟩
  ·exact fun _ _ _ _ _ _ _ h => h.elim
theorem script_Line_ok {a0 : TyS} {v1 : Value} {v2 : Value} {v3 : Value} {v4 : Value} {r : ByteArray} (h : script_Line a0 r) (σ : Sto) (hs5 : Sl (kP (kI .i64) (kI .i64)) σ v1 a0.2.1.2.2.1) (hs6 : Sl (kI .i64) σ v2 a0.2.1.2.2.2.1) (hs7 : Sl (kI .u8) σ v3 a0.2.2.1.t4) (hs8 : Sl (kI .i64) σ v4 a0.2.2.2) (hT : Tab Tryz.prog σ) :
    Does Tryz.prog 11 [.agg [.I a0.1, .I a0.2.1.1, .I (a0.2.1.2.1.getD 0 0), .I (a0.2.1.2.1.getD 1 0), .I (a0.2.1.2.1.getD 2 0), .I (a0.2.1.2.1.getD 3 0), .I (a0.2.1.2.1.getD 4 0), .I (a0.2.1.2.1.getD 5 0), v1, v2, .string a0.2.1.t4.1, .string a0.2.1.t4.2, .I a0.2.2.1.1, .I a0.2.2.1.2.1, .I a0.2.2.1.2.2.1, .I a0.2.2.1.2.2.2.1, v3, v4].toArray] σ [] (fun v τ gs => gs = [] ∧ .string r = v) := by
 refine call_of Tryz.func11 Tryz.ntmps11 rfl rfl (fun cs fs => ?_)
 refine Z 2 rfl ?_
 refine o_box (cs := [.I a0.1, .I a0.2.1.1, .I (a0.2.1.2.1.getD 0 0), .I (a0.2.1.2.1.getD 1 0), .I (a0.2.1.2.1.getD 2 0), .I (a0.2.1.2.1.getD 3 0), .I (a0.2.1.2.1.getD 4 0), .I (a0.2.1.2.1.getD 5 0), v1, v2, .string a0.2.1.t4.1, .string a0.2.1.t4.2, .I a0.2.2.1.1, .I a0.2.2.1.2.1, .I a0.2.2.1.2.2.1, .I a0.2.2.1.2.2.2.1, v3, v4]) rfl rfl rfl rfl rfl (fun b9 => ?_)
 refine o_assign rfl rfl rfl (ev_str z_str1) ?_
 refine ZZ 5 [0] rfl rfl ?_
 obtain ⟨r10, hr11, h⟩ := h
 refine st_call (foot := []) rfl rfl rfl rfl rfl rfl (callV_fn z_en15 (script_Check_ok hr11 σ hs5 hs6 hs7 hs8 hT)) ?_
 rintro vτ12 τ12 gsτ12 hl13 ⟨rfl, rfl⟩
 refine Z 2 rfl ?_
 refine st_if rfl h (fun h => ?_) (fun h => ?_)
 ·refine Z 2 rfl ?_
  refine o_assign rfl rfl rfl (ev_str z_str1) ?_
  refine st_end ?_
  refine st_ord [] _ rfl ?_
  obtain rfl := Eq.symm h
  exact st_ret (gs' := []) Tryz.func11 rfl (List.Sublist.refl _) hl13 ⟨rfl, rfl⟩
 ·refine ZZ 13 [0] rfl rfl ?_
  refine st_if rfl h (fun h => ?_) (fun h => ?_)
  ·refine ZZ 4 [0] rfl rfl ?_
   obtain ⟨r14, hr15, h⟩ := h
   refine st_call (foot := []) rfl rfl rfl rfl rfl rfl (callV_fn z_en32 (say_Line_ok hr15 τ12 (hs5.up hl13) (hs6.up hl13) (hT.up hl13))) ?_
   rintro vτ16 τ16 gsτ16 hl17 ⟨rfl, rfl⟩
   obtain ⟨hf18, h⟩ := h
   refine o_sadd rfl rfl rfl (ev_str z_str43) rfl hf18 ?_
   refine Z 2 rfl ?_
   refine st_ord [] _ rfl ?_
   obtain rfl := Eq.symm h
   exact st_ret (gs' := []) Tryz.func11 rfl (List.Sublist.refl _) (hl13.trans hl17) ⟨rfl, rfl⟩
  ·refine Z 5 rfl ?_
   refine st_if rfl h (fun h => ?_) (fun h => ?_)
   ·refine ZZ 4 [0] rfl rfl ?_
    obtain ⟨r19, hr20, h⟩ := h
    refine st_call (foot := []) rfl rfl rfl rfl rfl rfl (callV_fn z_en33 (noise_Line_ok hr20 τ12 (hs7.up hl13) (hT.up hl13))) ?_
    rintro vτ21 τ21 gsτ21 hl22 ⟨rfl, rfl⟩
    refine Z 2 rfl ?_
    refine st_ord [] _ rfl ?_
    obtain rfl := Eq.symm h
    exact st_ret (gs' := []) Tryz.func11 rfl (List.Sublist.refl _) (hl13.trans hl22) ⟨rfl, rfl⟩
   ·refine Z 5 rfl ?_
    refine st_if rfl h (fun h => ?_) (fun h => ?_)
    ·refine Z 2 rfl ?_
     refine o_assign rfl rfl rfl (ev_str z_str4) ?_
     refine Z 2 rfl ?_
     refine st_cut (fun ρ τ23 gs => ∃ (s23 : ByteArray), script_Line_j1 s23 r ∧ τ12.Le τ23 ∧ ESub ρ [(1, .Pb b9), (2, .E0), (3, .string s23)] ∧ gs = [[(b9, .cells #[.I a0.1, .I a0.2.1.1, .I (a0.2.1.2.1.getD 0 0), .I (a0.2.1.2.1.getD 1 0), .I (a0.2.1.2.1.getD 2 0), .I (a0.2.1.2.1.getD 3 0), .I (a0.2.1.2.1.getD 4 0), .I (a0.2.1.2.1.getD 5 0), v1, v2, .string a0.2.1.t4.1, .string a0.2.1.t4.2, .I a0.2.2.1.1, .I a0.2.2.1.2.1, .I a0.2.2.1.2.2.1, .I a0.2.2.1.2.2.2.1, v3, v4] 31 (0, 0))]]) ?_ (fun hk23 => ?_)
     ·rintro ρ23 τ23 gs23 ⟨s23, h, hl23, hρ, rfl⟩
      refine st_es hρ ?_
      refine Z 5 rfl ?_
      refine st_ord [] _ rfl ?_
      obtain rfl := Eq.symm h
      exact st_ret (gs' := []) Tryz.func11 rfl (List.Sublist.refl _) (hl13.trans hl23) ⟨rfl, rfl⟩
     refine ZZ 4 [0] rfl rfl ?_
     refine o_lenI rfl rfl rfl z_slT24 rfl (hs8.up hl13) ?_
     refine Z 2 rfl ?_
     obtain ⟨e24, hL24, hA24⟩ := h
     refine st_loop hL24 (fun (s24 : ByteArray × Int) ρ τ24 gs => τ12.Le τ24 ∧ ESub ρ [(1, .Pb b9), (2, .E0), (3, .string s24.1), (25, v4), (26, .I (a0.2.2.2.length : Int)), (27, .I s24.2)] ∧ gs = [[(b9, .cells #[.I a0.1, .I a0.2.1.1, .I (a0.2.1.2.1.getD 0 0), .I (a0.2.1.2.1.getD 1 0), .I (a0.2.1.2.1.getD 2 0), .I (a0.2.1.2.1.getD 3 0), .I (a0.2.1.2.1.getD 4 0), .I (a0.2.1.2.1.getD 5 0), v1, v2, .string a0.2.1.t4.1, .string a0.2.1.t4.2, .I a0.2.2.1.1, .I a0.2.2.1.2.1, .I a0.2.2.1.2.2.1, .I a0.2.2.1.2.2.2.1, v3, v4] 31 (0, 0))]]) ⟨Sto.Le.refl _, rfl, rfl⟩ ?_
     rintro s24 o24 h he24 ρ24 τ24 gs24 ⟨hl24, hρ, rfl⟩ hn24
     refine st_es hρ ?_
     refine Z 5 rfl ?_
     refine st_if rfl h (fun h => ?_) (fun h => ?_)
     ·refine Z 5 rfl ?_
      obtain ⟨q25, hf26, h⟩ := h
      refine o_index rfl rfl rfl z_slT24 rfl rfl (hs8.up (hl13.trans hl24)) rfl hf26 (fun b27 of28 vs hc29 hrep => ?_)
      obtain rfl := hrep
      refine o_loadI (v := .I q25) rfl rfl rfl z_sc3 rfl (hc29 0 _ rfl) ?_
      refine Z 5 rfl ?_
      obtain ⟨r30, hr31, h⟩ := h
      refine st_call (foot := []) rfl rfl rfl rfl rfl rfl (callV_fn z_en34 (say_Number_ok hr31 τ24 (hT.up (hl13.trans hl24)))) ?_
      rintro vτ32 τ32 gsτ32 hl33 ⟨rfl, rfl⟩
      obtain ⟨hf34, h⟩ := h
      refine o_sadd rfl rfl rfl (ev_str z_str0) rfl hf34 ?_
      obtain ⟨hf35, h⟩ := h
      refine o_sadd rfl rfl rfl rfl rfl hf35 ?_
      refine Z 7 rfl ?_
      exact hn24 _ _ _ _ h ⟨(hl24.trans hl33), rfl, rfl⟩
     ·refine st_exit rfl ?_
      obtain rfl := he24 _ h
      replace h := hA24
      exact hk23 _ _ _ ⟨s24.1, h, hl24, rfl, rfl⟩
    ·refine ZZ 6 [0] rfl rfl ?_
     obtain ⟨r37, hr38, h⟩ := h
     refine st_call (foot := []) rfl rfl rfl rfl rfl rfl (callV_fn z_en35 (script_word_ok hr38 τ12)) ?_
     rintro vτ39 τ39 gsτ39 hl40 ⟨rfl, rfl⟩
     refine Z 2 rfl ?_
     refine st_ord [] _ rfl ?_
     obtain rfl := Eq.symm h
     exact st_ret (gs' := []) Tryz.func11 rfl (List.Sublist.refl _) (hl13.trans hl40) ⟨rfl, rfl⟩
theorem script_Print_ok {a0 : Int × Int × Int} {a1 : Int × Int} {a2 : List (TyS)} {v1 : Value} {r : ByteArray × Int} (h : script_Print a0 a1 a2 r) (σ : Sto) (hs2 : Sl (kP (kI .i64) (kP (kP (kI .i64) (kP (kA .i64 6) (kP (kSl (kP (kI .i64) (kI .i64))) (kP (kSl (kI .i64)) (kP kS kS))))) (kP (kP (kI .i64) (kP (kI .i64) (kP (kI .i64) (kP (kI .i64) (kSl (kI .u8)))))) (kSl (kI .i64))))) σ v1 a2) (hT : Tab Tryz.prog σ) :
    Does Tryz.prog 22 [.agg [.I a0.1, .I a0.2.1, .int .u32 a0.2.2].toArray, .agg [.int .u32 a1.1, .I a1.2].toArray, v1] σ [] (fun v τ gs => gs = [] ∧ .tuple [.string r.1, .I r.2].toArray = v) := by
 refine call_of Tryz.func22 Tryz.ntmps22 rfl rfl (fun cs fs => ?_)
 refine Z 2 rfl ?_
 refine o_boxC rfl rfl rfl rfl rfl rfl (fun b3 => ?_)
 refine o_boxC rfl rfl rfl rfl rfl rfl (fun b4 => ?_)
 refine o_assign rfl rfl rfl (ev_str z_str1) ?_
 refine ZZ 6 [1] rfl rfl ?_
 obtain ⟨r5, hr6, h⟩ := h
 refine st_call (foot := []) rfl rfl rfl rfl rfl rfl (callV_fn z_en55 (conf_CheckSender_ok hr6 σ)) ?_
 rintro vτ7 τ7 gsτ7 hl8 ⟨rfl, rfl⟩
 refine Z 7 rfl ?_
 refine st_if rfl h (fun h => ?_) (fun h => ?_)
 ·refine Z 3 rfl ?_
  refine o_assign rfl rfl rfl (ev_str z_str1) ?_
  refine Z 2 rfl ?_
  refine st_ord [] _ rfl ?_
  obtain rfl := Eq.symm h
  exact st_ret (gs' := []) Tryz.func22 rfl (List.Sublist.refl _) hl8 ⟨rfl, rfl⟩
 ·refine ZZ 5 [0] rfl rfl ?_
  obtain ⟨r9, hr10, h⟩ := h
  refine st_call (foot := []) rfl rfl rfl rfl rfl rfl (callV_fn z_en56 (conf_CheckReceiver_ok hr10 τ7)) ?_
  rintro vτ11 τ11 gsτ11 hl12 ⟨rfl, rfl⟩
  refine Z 7 rfl ?_
  refine st_if rfl h (fun h => ?_) (fun h => ?_)
  ·refine Z 3 rfl ?_
   refine o_assign rfl rfl rfl (ev_str z_str1) ?_
   refine Z 2 rfl ?_
   refine st_ord [] _ rfl ?_
   obtain rfl := Eq.symm h
   exact st_ret (gs' := []) Tryz.func22 rfl (List.Sublist.refl _) (hl8.trans hl12) ⟨rfl, rfl⟩
  ·refine ZZ 5 [1, 0] rfl rfl ?_
   obtain ⟨r13, hr14, h⟩ := h
   refine st_call (foot := []) rfl rfl rfl rfl rfl rfl (callV_fn z_en57 (conf_Line_ok hr14 τ11 (hT.up (hl8.trans hl12)))) ?_
   rintro vτ15 τ15 gsτ15 hl16 ⟨rfl, rfl⟩
   obtain ⟨hf17, h⟩ := h
   refine o_sadd rfl rfl rfl rfl (ev_str z_str42) hf17 ?_
   refine Z 3 rfl ?_
   refine st_cut (fun ρ τ18 gs => ∃ (s18 : ByteArray), script_Print_j1 s18 r ∧ τ15.Le τ18 ∧ ESub ρ [(6, .E0), (7, .I 0), (10, .string s18)] ∧ gs = []) ?_ (fun hk18 => ?_)
   ·rintro ρ18 τ18 gs18 ⟨s18, h, hl18, hρ, rfl⟩
    refine st_es hρ ?_
    refine Z 6 rfl ?_
    obtain rfl := Eq.symm h
    exact st_ret (gs' := []) Tryz.func22 rfl (List.Sublist.refl _) (((hl8.trans hl12).trans hl16).trans hl18) ⟨rfl, rfl⟩
   refine Z 3 rfl ?_
   refine o_lenI rfl rfl rfl z_slT59 rfl (hs2.up ((hl8.trans hl12).trans hl16)) ?_
   refine Z 2 rfl ?_
   obtain ⟨e19, hL19, hA19⟩ := h
   refine st_ord [] _ rfl ?_
   refine st_loop hL19 (fun (s19 : ByteArray × Int) ρ τ19 gs => τ15.Le τ19 ∧ ESub ρ [(6, .E0), (7, .I 0), (10, .string s19.1), (28, v1), (29, .I (a2.length : Int)), (30, .I s19.2)] ∧ gs = []) ⟨Sto.Le.refl _, rfl, rfl⟩ ?_
   rintro s19 o19 h he19 ρ19 τ19 gs19 ⟨hl19, hρ, rfl⟩ hn19
   refine st_es hρ ?_
   refine Z 5 rfl ?_
   refine st_if rfl h (fun h => ?_) (fun h => ?_)
   ·refine Z 5 rfl ?_
    obtain ⟨q20, hf21, h⟩ := h
    refine o_index rfl rfl rfl z_slT59 rfl rfl (hs2.up (((hl8.trans hl12).trans hl16).trans hl19)) rfl hf21 (fun b22 of23 vs hc28 hrep => ?_)
    obtain ⟨_, _, rfl, rfl, ⟨_, _, rfl, ⟨_, _, rfl, rfl, ⟨_, _, rfl, rfl, ⟨_, _, rfl, ⟨v24, rfl, hs29⟩, ⟨_, _, rfl, ⟨v25, rfl, hs30⟩, ⟨_, _, rfl, rfl, rfl⟩⟩⟩⟩⟩, ⟨_, _, rfl, ⟨_, _, rfl, rfl, ⟨_, _, rfl, rfl, ⟨_, _, rfl, rfl, ⟨_, _, rfl, rfl, ⟨v26, rfl, hs31⟩⟩⟩⟩⟩, ⟨v27, rfl, hs32⟩⟩⟩⟩ := hrep
    refine o_loadIN (vs := [.I q20.1, .I q20.2.1.1, .I (q20.2.1.2.1.getD 0 0), .I (q20.2.1.2.1.getD 1 0), .I (q20.2.1.2.1.getD 2 0), .I (q20.2.1.2.1.getD 3 0), .I (q20.2.1.2.1.getD 4 0), .I (q20.2.1.2.1.getD 5 0), v24, v25, .string q20.2.1.t4.1, .string q20.2.1.t4.2, .I q20.2.2.1.1, .I q20.2.2.1.2.1, .I q20.2.2.1.2.2.1, .I q20.2.2.1.2.2.2.1, v26, v27]) rfl rfl rfl z_agg31 rfl rfl (celn_part 0 rfl hc28) ?_
    refine o_alloc rfl rfl rfl z_zero31 (fun b33 => ?_)
    refine o_store (j := 0) (vs := [.I q20.1, .I q20.2.1.1, .I (q20.2.1.2.1.getD 0 0), .I (q20.2.1.2.1.getD 1 0), .I (q20.2.1.2.1.getD 2 0), .I (q20.2.1.2.1.getD 3 0), .I (q20.2.1.2.1.getD 4 0), .I (q20.2.1.2.1.getD 5 0), v24, v25, .string q20.2.1.t4.1, .string q20.2.1.t4.2, .I q20.2.2.1.1, .I q20.2.2.1.2.1, .I q20.2.2.1.2.2.1, .I q20.2.2.1.2.2.2.1, v26, v27]) (cs' := [.I q20.1, .I q20.2.1.1, .I (q20.2.1.2.1.getD 0 0), .I (q20.2.1.2.1.getD 1 0), .I (q20.2.1.2.1.getD 2 0), .I (q20.2.1.2.1.getD 3 0), .I (q20.2.1.2.1.getD 4 0), .I (q20.2.1.2.1.getD 5 0), v24, v25, .string q20.2.1.t4.1, .string q20.2.1.t4.2, .I q20.2.2.1.1, .I q20.2.2.1.2.1, .I q20.2.2.1.2.2.1, .I q20.2.2.1.2.2.2.1, v26, v27]) rfl rfl rfl z_size31 rfl rfl rfl (ones_cons rfl (ones_cons rfl (ones_cons rfl (ones_cons rfl (ones_cons rfl (ones_cons rfl (ones_cons rfl (ones_cons rfl (ones_cons hs29.one' (ones_cons hs30.one' (ones_cons rfl (ones_cons rfl (ones_cons rfl (ones_cons rfl (ones_cons rfl (ones_cons rfl (ones_cons hs31.one' (ones_cons hs32.one' ones_nil)))))))))))))))))) rfl rfl rfl ?_
    refine st_gs [[(b33, .cells #[.I q20.1, .I q20.2.1.1, .I (q20.2.1.2.1.getD 0 0), .I (q20.2.1.2.1.getD 1 0), .I (q20.2.1.2.1.getD 2 0), .I (q20.2.1.2.1.getD 3 0), .I (q20.2.1.2.1.getD 4 0), .I (q20.2.1.2.1.getD 5 0), v24, v25, .string q20.2.1.t4.1, .string q20.2.1.t4.2, .I q20.2.2.1.1, .I q20.2.2.1.2.1, .I q20.2.2.1.2.2.1, .I q20.2.2.1.2.2.2.1, v26, v27] 31 (0, 0))]] rfl ?_
    refine ZZ 5 [0] rfl rfl ?_
    obtain ⟨r34, hr35, h⟩ := h
    refine st_call (foot := []) rfl rfl rfl rfl rfl rfl (callV_fn z_en15 (script_Check_ok hr35 τ19 hs29 hs30 hs31 hs32 (hT.up (((hl8.trans hl12).trans hl16).trans hl19)))) ?_
    rintro vτ36 τ36 gsτ36 hl37 ⟨rfl, rfl⟩
    refine Z 7 rfl ?_
    refine st_if rfl h (fun h => ?_) (fun h => ?_)
    ·refine Z 3 rfl ?_
     refine o_assign rfl rfl rfl (ev_str z_str1) ?_
     refine Z 2 rfl ?_
     refine st_ord [] _ rfl ?_
     obtain rfl := he19 _ h
     replace h := hA19
     obtain rfl := Eq.symm h
     exact st_ret (gs' := []) Tryz.func22 rfl (List.Sublist.refl _) ((((hl8.trans hl12).trans hl16).trans hl19).trans hl37) ⟨rfl, rfl⟩
    ·refine ZZ 4 [0] rfl rfl ?_
     obtain ⟨r38, hr39, h⟩ := h
     refine st_call (foot := []) rfl rfl rfl rfl rfl rfl (callV_fn z_en11 (script_Line_ok hr39 τ36 (hs29.up hl37) (hs30.up hl37) (hs31.up hl37) (hs32.up hl37) (hT.up ((((hl8.trans hl12).trans hl16).trans hl19).trans hl37)))) ?_
     rintro vτ40 τ40 gsτ40 hl41 ⟨rfl, rfl⟩
     obtain ⟨hf42, h⟩ := h
     refine o_sadd rfl rfl rfl rfl (ev_str z_str42) hf42 ?_
     obtain ⟨hf43, h⟩ := h
     refine o_sadd rfl rfl rfl rfl rfl hf43 ?_
     refine Z 7 rfl ?_
     refine st_ord [] _ rfl ?_
     exact hn19 _ _ _ _ h ⟨((hl19.trans hl37).trans hl41), rfl, rfl⟩
   ·refine st_exit rfl ?_
    obtain rfl := he19 _ h
    replace h := hA19
    exact hk18 _ _ _ ⟨s19.1, h, hl19, rfl, rfl⟩
theorem law27_known_ok  {r : Bool} (h : law27_known r) (σ : Sto) (hT : Tab Tryz.prog σ) :
    Does Tryz.prog 9 [] σ [] (fun v τ gs => gs = [] ∧ .bool r = v) := by
 refine call_of Tryz.func9 Tryz.ntmps9 rfl rfl (fun cs fs => ?_)
 refine ZZ 8 [] rfl rfl ?_
 refine o_buildA (ps := [(0, [.I 1]), (1, [.I 2]), (2, [.I 3])]) (cs := [.I 1, .I 2, .I 3, .I 0, .I 0, .I 0]) rfl rfl rfl z_arrz22 ⟨rfl, ⟨_, rfl, rfl⟩, ⟨rfl, ⟨_, rfl, rfl⟩, ⟨rfl, ⟨_, rfl, rfl⟩, trivial⟩⟩⟩ rfl ?_
 refine ZZ 2 [] rfl rfl ?_
 refine o_litE (eI .i64) [1, 2] rfl rfl rfl z_slT24 z_zero3 ⟨rfl, ⟨_, rfl, rfl⟩, ⟨rfl, ⟨_, rfl, rfl⟩, trivial⟩⟩ rfl rfl rfl rfl (fun v1 g2 ho3 => ?_)
 refine o_build (ps := [(0, [.I 4]), (3, [v1])]) (cs := [.I 4, .I 0, .I 0, .I 0, .I 0, .I 0, .I 0, .I 0, .N0, .N0, .E0, .E0, .I 0, .I 0, .I 0, .I 0, .N0, v1]) rfl rfl rfl z_struct31 ⟨rfl, ⟨_, rfl, rfl⟩, ⟨rfl, ⟨_, rfl, (oneL_ow ho3)⟩, trivial⟩⟩ rfl ?_
 refine ZZ 1 [] rfl rfl ?_
 refine st_freeze (fun τ4 hl5 hg6 => ?_)
 have hs7 := ho3.freeze hl5 hg6
 refine o_lit (dk := (kP (kI .i64) (kP (kP (kI .i64) (kP (kA .i64 6) (kP (kSl (kP (kI .i64) (kI .i64))) (kP (kSl (kI .i64)) (kP kS kS))))) (kP (kP (kI .i64) (kP (kI .i64) (kP (kI .i64) (kP (kI .i64) (kSl (kI .u8)))))) (kSl (kI .i64)))))) (xs := [(1, (2, [1, 2, 3, 0, 0, 0], [], [], (bstr []), (bstr [])), (0, 0, 0, 0, []), []), (4, (0, (List.replicate 6 0), [], [], (bstr []), (bstr [])), (0, 0, 0, 0, []), [1, 2]), (3, (0, (List.replicate 6 0), [], [], (bstr []), (bstr [])), (0, 0, 0, 0, []), [])]) (ps := [(0, [.I 1, .I 2, .I 1, .I 2, .I 3, .I 0, .I 0, .I 0, .N0, .N0, .E0, .E0, .I 0, .I 0, .I 0, .I 0, .N0, .N0]), (1, [.I 4, .I 0, .I 0, .I 0, .I 0, .I 0, .I 0, .I 0, .N0, .N0, .E0, .E0, .I 0, .I 0, .I 0, .I 0, .N0, v1]), (2, [.I 3, .I 0, .I 0, .I 0, .I 0, .I 0, .I 0, .I 0, .N0, .N0, .E0, .E0, .I 0, .I 0, .I 0, .I 0, .N0, .N0])]) (cs := ((.I 1) :: (.I 2) :: (.I 1) :: (.I 2) :: (.I 3) :: (.I 0) :: (.I 0) :: (.I 0) :: (.N0) :: (.N0) :: (.E0) :: (.E0) :: (.I 0) :: (.I 0) :: (.I 0) :: (.I 0) :: (.N0) :: (.N0) :: (.I 4) :: (.I 0) :: (.I 0) :: (.I 0) :: (.I 0) :: (.I 0) :: (.I 0) :: (.I 0) :: (.N0) :: (.N0) :: (.E0) :: (.E0) :: (.I 0) :: (.I 0) :: (.I 0) :: (.I 0) :: (.N0) :: v1 :: (.I 3) :: (.I 0) :: (.I 0) :: (.I 0) :: (.I 0) :: (.I 0) :: (.I 0) :: (.I 0) :: (.N0) :: (.N0) :: (.E0) :: (.E0) :: (.I 0) :: (.I 0) :: (.I 0) :: (.I 0) :: (.N0) :: (.N0) :: [])) rfl rfl rfl z_slT59 z_zero31 ⟨rfl, ⟨_, rfl, rfl⟩, ⟨rfl, ⟨_, rfl, rfl⟩, ⟨rfl, ⟨_, rfl, rfl⟩, trivial⟩⟩⟩ rfl rfl rfl rfl (Kd.Many.cons (d := (kP (kI .i64) (kP (kP (kI .i64) (kP (kA .i64 6) (kP (kSl (kP (kI .i64) (kI .i64))) (kP (kSl (kI .i64)) (kP kS kS))))) (kP (kP (kI .i64) (kP (kI .i64) (kP (kI .i64) (kP (kI .i64) (kSl (kI .u8)))))) (kSl (kI .i64)))))) (x := (1, (2, [1, 2, 3, 0, 0, 0], [], [], (bstr []), (bstr [])), (0, 0, 0, 0, []), [])) (a := [.I 1, .I 2, .I 1, .I 2, .I 3, .I 0, .I 0, .I 0, .N0, .N0, .E0, .E0, .I 0, .I 0, .I 0, .I 0, .N0, .N0]) ⟨[.I 1], _, rfl, rfl, ⟨[.I 2, .I 1, .I 2, .I 3, .I 0, .I 0, .I 0, .N0, .N0, .E0, .E0], _, rfl, ⟨[.I 2], _, rfl, rfl, ⟨[.I 1, .I 2, .I 3, .I 0, .I 0, .I 0], _, rfl, rfl, ⟨[.N0], _, rfl, ⟨_, rfl, Sl.nil⟩, ⟨[.N0], _, rfl, ⟨_, rfl, Sl.nil⟩, ⟨[.E0], _, rfl, rfl, rfl⟩⟩⟩⟩⟩, ⟨[.I 0, .I 0, .I 0, .I 0, .N0], _, rfl, ⟨[.I 0], _, rfl, rfl, ⟨[.I 0], _, rfl, rfl, ⟨[.I 0], _, rfl, rfl, ⟨[.I 0], _, rfl, rfl, ⟨_, rfl, Sl.nil⟩⟩⟩⟩⟩, ⟨_, rfl, Sl.nil⟩⟩⟩⟩ (Kd.Many.cons (d := (kP (kI .i64) (kP (kP (kI .i64) (kP (kA .i64 6) (kP (kSl (kP (kI .i64) (kI .i64))) (kP (kSl (kI .i64)) (kP kS kS))))) (kP (kP (kI .i64) (kP (kI .i64) (kP (kI .i64) (kP (kI .i64) (kSl (kI .u8)))))) (kSl (kI .i64)))))) (x := (4, (0, (List.replicate 6 0), [], [], (bstr []), (bstr [])), (0, 0, 0, 0, []), [1, 2])) (a := [.I 4, .I 0, .I 0, .I 0, .I 0, .I 0, .I 0, .I 0, .N0, .N0, .E0, .E0, .I 0, .I 0, .I 0, .I 0, .N0, v1]) ⟨[.I 4], _, rfl, rfl, ⟨[.I 0, .I 0, .I 0, .I 0, .I 0, .I 0, .I 0, .N0, .N0, .E0, .E0], _, rfl, ⟨[.I 0], _, rfl, rfl, ⟨[.I 0, .I 0, .I 0, .I 0, .I 0, .I 0], _, rfl, rfl, ⟨[.N0], _, rfl, ⟨_, rfl, Sl.nil⟩, ⟨[.N0], _, rfl, ⟨_, rfl, Sl.nil⟩, ⟨[.E0], _, rfl, rfl, rfl⟩⟩⟩⟩⟩, ⟨[.I 0, .I 0, .I 0, .I 0, .N0], _, rfl, ⟨[.I 0], _, rfl, rfl, ⟨[.I 0], _, rfl, rfl, ⟨[.I 0], _, rfl, rfl, ⟨[.I 0], _, rfl, rfl, ⟨_, rfl, Sl.nil⟩⟩⟩⟩⟩, ⟨_, rfl, hs7⟩⟩⟩⟩ (Kd.Many.cons (d := (kP (kI .i64) (kP (kP (kI .i64) (kP (kA .i64 6) (kP (kSl (kP (kI .i64) (kI .i64))) (kP (kSl (kI .i64)) (kP kS kS))))) (kP (kP (kI .i64) (kP (kI .i64) (kP (kI .i64) (kP (kI .i64) (kSl (kI .u8)))))) (kSl (kI .i64)))))) (x := (3, (0, (List.replicate 6 0), [], [], (bstr []), (bstr [])), (0, 0, 0, 0, []), [])) (a := [.I 3, .I 0, .I 0, .I 0, .I 0, .I 0, .I 0, .I 0, .N0, .N0, .E0, .E0, .I 0, .I 0, .I 0, .I 0, .N0, .N0]) ⟨[.I 3], _, rfl, rfl, ⟨[.I 0, .I 0, .I 0, .I 0, .I 0, .I 0, .I 0, .N0, .N0, .E0, .E0], _, rfl, ⟨[.I 0], _, rfl, rfl, ⟨[.I 0, .I 0, .I 0, .I 0, .I 0, .I 0], _, rfl, rfl, ⟨[.N0], _, rfl, ⟨_, rfl, Sl.nil⟩, ⟨[.N0], _, rfl, ⟨_, rfl, Sl.nil⟩, ⟨[.E0], _, rfl, rfl, rfl⟩⟩⟩⟩⟩, ⟨[.I 0, .I 0, .I 0, .I 0, .N0], _, rfl, ⟨[.I 0], _, rfl, rfl, ⟨[.I 0], _, rfl, rfl, ⟨[.I 0], _, rfl, rfl, ⟨[.I 0], _, rfl, rfl, ⟨_, rfl, Sl.nil⟩⟩⟩⟩⟩, ⟨_, rfl, Sl.nil⟩⟩⟩⟩ Kd.Many.nil))) (fun v9 g10 ho11 => ?_)
 obtain ⟨r16, hr17, h⟩ := h
 refine st_freeze (fun τ12 hl13 hg14 => ?_)
 have hs15 := ho11.freeze hl13 hg14
 refine st_call (foot := []) rfl rfl rfl rfl rfl rfl (callV_fn z_en22 (script_Print_ok hr17 τ12 hs15 (hT.up (hl5.trans hl13)))) ?_
 rintro vτ18 τ18 gsτ18 hl19 ⟨rfl, rfl⟩
 refine Z 7 rfl ?_
 refine st_cut (fun ρ τ20 gs => ∃ (s20 : Bool), law27_known_j1 s20 r ∧ τ18.Le τ20 ∧ ESub ρ [(0, .bool s20)] ∧ gs = []) ?_ (fun hk20 => ?_)
 ·rintro ρ20 τ20 gs20 ⟨s20, h, hl20, hρ, rfl⟩
  refine st_es hρ ?_
  obtain rfl := Eq.symm h
  exact st_ret (gs' := []) Tryz.func9 rfl (List.Sublist.refl _) (((hl5.trans hl13).trans hl19).trans hl20) ⟨rfl, rfl⟩
 refine Z 3 rfl ?_
 refine o_mif rfl rfl rfl rfl h (fun h => ?_) (fun h => ?_)
 ·refine o_move rfl rfl rfl rfl ?_
  refine o_sbin (v := .bool (decide (r16.1 = (bstr [108, 105, 110, 107, 32, 50, 32, 54, 52, 32, 49, 48, 32, 49, 48, 32, 52, 10, 115, 101, 110, 100, 32, 104, 111, 108, 100, 32, 114, 111, 98, 111, 116, 32, 49, 32, 114, 101, 97, 115, 111, 110, 32, 50, 32, 122, 111, 110, 101, 32, 51, 10, 99, 104, 117, 110, 107, 32, 49, 32, 50, 10, 97, 108, 108, 10])))) rfl rfl rfl rfl (ev_str z_str44) rfl ?_
  refine Z 3 rfl ?_
  exact hk20 _ _ _ ⟨(decide (r16.1 = (bstr [108, 105, 110, 107, 32, 50, 32, 54, 52, 32, 49, 48, 32, 49, 48, 32, 52, 10, 115, 101, 110, 100, 32, 104, 111, 108, 100, 32, 114, 111, 98, 111, 116, 32, 49, 32, 114, 101, 97, 115, 111, 110, 32, 50, 32, 122, 111, 110, 101, 32, 51, 10, 99, 104, 117, 110, 107, 32, 49, 32, 50, 10, 97, 108, 108, 10]))), h, (Sto.Le.refl _), rfl, rfl⟩
 ·refine Z 5 rfl ?_
  exact hk20 _ _ _ ⟨false, h, (Sto.Le.refl _), rfl, rfl⟩
theorem law17_Of_ok {a0 : TyM} {v1 : Value} {v2 : Value} {r : (TyR)} (h : law17_Of a0 r) (σ : Sto) (hs3 : Sl (kP (kI .i64) (kI .i64)) σ v1 a0.2.2.1) (hs4 : Sl (kI .i64) σ v2 a0.2.2.2.1) :
    Does Tryz.prog 39 [.agg [.I a0.1, .I (a0.2.1.getD 0 0), .I (a0.2.1.getD 1 0), .I (a0.2.1.getD 2 0), .I (a0.2.1.getD 3 0), .I (a0.2.1.getD 4 0), .I (a0.2.1.getD 5 0), v1, v2, .string a0.t4.1, .string a0.t4.2].toArray] σ [] (fun v τ gs => ∃ (v49 : Value) (v50 : Value), gs = [] ∧ .agg [.I r.1, .I (r.2.1.getD 0 0), .I (r.2.1.getD 1 0), .I (r.2.1.getD 2 0), .I (r.2.1.getD 3 0), .I (r.2.1.getD 4 0), .I (r.2.1.getD 5 0), v49, v50, .string r.t4.1, .string r.t4.2].toArray = v ∧ Sl (kA .i64 2) τ v49 r.2.2.1 ∧ Sl (kI .i64) τ v50 r.2.2.2.1) := by
 refine call_of Tryz.func39 Tryz.ntmps39 rfl rfl (fun cs fs => ?_)
 refine Z 2 rfl ?_
 refine o_box (cs := [.I a0.1, .I (a0.2.1.getD 0 0), .I (a0.2.1.getD 1 0), .I (a0.2.1.getD 2 0), .I (a0.2.1.getD 3 0), .I (a0.2.1.getD 4 0), .I (a0.2.1.getD 5 0), v1, v2, .string a0.t4.1, .string a0.t4.2]) rfl rfl rfl rfl rfl (fun b5 => ?_)
 refine o_alloc rfl rfl rfl z_zero37 (fun b6 => ?_)
 refine ZZ 13 [1, 1, 1, 1, 1] rfl rfl ?_
 refine o_build (ps := [(0, [.I a0.1]), (1, [.I (a0.2.1.getD 0 0), .I (a0.2.1.getD 1 0), .I (a0.2.1.getD 2 0), .I (a0.2.1.getD 3 0), .I (a0.2.1.getD 4 0), .I (a0.2.1.getD 5 0)]), (3, [v2]), (4, [.string a0.t4.1]), (5, [.string a0.t4.2])]) (cs := [.I a0.1, .I (a0.2.1.getD 0 0), .I (a0.2.1.getD 1 0), .I (a0.2.1.getD 2 0), .I (a0.2.1.getD 3 0), .I (a0.2.1.getD 4 0), .I (a0.2.1.getD 5 0), .N0, v2, .string a0.t4.1, .string a0.t4.2]) rfl rfl rfl z_struct37 ⟨rfl, ⟨_, rfl, rfl⟩, ⟨rfl, ⟨_, rfl, rfl⟩, ⟨rfl, ⟨_, rfl, (oneL_sl hs4)⟩, ⟨rfl, ⟨_, rfl, rfl⟩, ⟨rfl, ⟨_, rfl, rfl⟩, trivial⟩⟩⟩⟩⟩ rfl ?_
 refine o_alloc rfl rfl rfl z_zero37 (fun b7 => ?_)
 refine o_store (j := 0) (vs := [.I a0.1, .I (a0.2.1.getD 0 0), .I (a0.2.1.getD 1 0), .I (a0.2.1.getD 2 0), .I (a0.2.1.getD 3 0), .I (a0.2.1.getD 4 0), .I (a0.2.1.getD 5 0), .N0, v2, .string a0.t4.1, .string a0.t4.2]) (cs' := [.I a0.1, .I (a0.2.1.getD 0 0), .I (a0.2.1.getD 1 0), .I (a0.2.1.getD 2 0), .I (a0.2.1.getD 3 0), .I (a0.2.1.getD 4 0), .I (a0.2.1.getD 5 0), .N0, v2, .string a0.t4.1, .string a0.t4.2]) rfl rfl rfl z_size37 rfl rfl rfl (ones_cons rfl (ones_cons rfl (ones_cons rfl (ones_cons rfl (ones_cons rfl (ones_cons rfl (ones_cons rfl (ones_cons rfl (ones_cons hs4.one' (ones_cons rfl (ones_cons rfl ones_nil))))))))))) rfl rfl rfl ?_
 refine st_gs [[(b7, .cells #[.I a0.1, .I (a0.2.1.getD 0 0), .I (a0.2.1.getD 1 0), .I (a0.2.1.getD 2 0), .I (a0.2.1.getD 3 0), .I (a0.2.1.getD 4 0), .I (a0.2.1.getD 5 0), .N0, v2, .string a0.t4.1, .string a0.t4.2] 37 (0, 0))], [(b6, .cells #[.I 0, .I 0, .I 0, .I 0, .I 0, .I 0, .I 0, .N0, .N0, .E0, .E0] 37 (0, 0))], [(b5, .cells #[.I a0.1, .I (a0.2.1.getD 0 0), .I (a0.2.1.getD 1 0), .I (a0.2.1.getD 2 0), .I (a0.2.1.getD 3 0), .I (a0.2.1.getD 4 0), .I (a0.2.1.getD 5 0), v1, v2, .string a0.t4.1, .string a0.t4.2] 26 (0, 0))]] rfl ?_
 refine Z 2 rfl ?_
 refine st_cut (fun ρ τ8 gs => ∃ (s8 : List (List Int)) (v9 : Value) (g10 : Grp), law17_Of_j1 a0 s8 r ∧ σ.Le τ8 ∧ ESub ρ [(2, .Pb b6), (3, .Pb b7)] ∧ gs = [[(b6, .cells #[.I 0, .I 0, .I 0, .I 0, .I 0, .I 0, .I 0, .N0, .N0, .E0, .E0] 37 (0, 0))], [(b7, .cells #[.I a0.1, .I (a0.2.1.getD 0 0), .I (a0.2.1.getD 1 0), .I (a0.2.1.getD 2 0), .I (a0.2.1.getD 3 0), .I (a0.2.1.getD 4 0), .I (a0.2.1.getD 5 0), v9, v2, .string a0.t4.1, .string a0.t4.2] 37 (0, 0))], g10] ∧ Ow (kA .i64 2) 134 τ8 v9 s8 g10) ?_ (fun hk8 => ?_)
 ·rintro ρ8 τ8 gs8 ⟨s8, v9, g10, h, hl8, hρ, rfl, ho11⟩
  refine st_es hρ ?_
  refine ZZ 3 [1] rfl rfl ?_
  refine o_store (j := 0) (vs := [.I a0.1, .I (a0.2.1.getD 0 0), .I (a0.2.1.getD 1 0), .I (a0.2.1.getD 2 0), .I (a0.2.1.getD 3 0), .I (a0.2.1.getD 4 0), .I (a0.2.1.getD 5 0), v9, v2, .string a0.t4.1, .string a0.t4.2]) (cs' := [.I a0.1, .I (a0.2.1.getD 0 0), .I (a0.2.1.getD 1 0), .I (a0.2.1.getD 2 0), .I (a0.2.1.getD 3 0), .I (a0.2.1.getD 4 0), .I (a0.2.1.getD 5 0), v9, v2, .string a0.t4.1, .string a0.t4.2]) rfl rfl rfl z_size37 rfl rfl rfl (ones_cons rfl (ones_cons rfl (ones_cons rfl (ones_cons rfl (ones_cons rfl (ones_cons rfl (ones_cons rfl (ones_cons ho11.one' (ones_cons (hs4.up hl8).one' (ones_cons rfl (ones_cons rfl ones_nil))))))))))) rfl rfl rfl ?_
  refine st_gs [[(b6, .cells #[.I a0.1, .I (a0.2.1.getD 0 0), .I (a0.2.1.getD 1 0), .I (a0.2.1.getD 2 0), .I (a0.2.1.getD 3 0), .I (a0.2.1.getD 4 0), .I (a0.2.1.getD 5 0), v9, v2, .string a0.t4.1, .string a0.t4.2] 37 (0, 0))], [(b7, .cells #[.I a0.1, .I (a0.2.1.getD 0 0), .I (a0.2.1.getD 1 0), .I (a0.2.1.getD 2 0), .I (a0.2.1.getD 3 0), .I (a0.2.1.getD 4 0), .I (a0.2.1.getD 5 0), v9, v2, .string a0.t4.1, .string a0.t4.2] 37 (0, 0))], g10] rfl ?_
  refine st_end ?_
  refine st_ord [2, 0, 0] _ rfl ?_
  refine st_freeze (fun τ12 hl13 hg14 => ?_)
  have hs15 := ho11.freeze hl13 hg14
  obtain rfl := Eq.symm h
  exact st_retC (gs' := []) [.agg #[.I a0.1, .I (a0.2.1.getD 0 0), .I (a0.2.1.getD 1 0), .I (a0.2.1.getD 2 0), .I (a0.2.1.getD 3 0), .I (a0.2.1.getD 4 0), .I (a0.2.1.getD 5 0), v9, v2, .string a0.t4.1, .string a0.t4.2]] Tryz.func39 ⟨⟨_, _, _, _, rfl, mem_flat 0 rfl, fun w hw => cellOfN (vs := [.I a0.1, .I (a0.2.1.getD 0 0), .I (a0.2.1.getD 1 0), .I (a0.2.1.getD 2 0), .I (a0.2.1.getD 3 0), .I (a0.2.1.getD 4 0), .I (a0.2.1.getD 5 0), v9, v2, .string a0.t4.1, .string a0.t4.2]) z_agg37 rfl w hw⟩, trivial⟩ (by simp) (hl8.trans hl13) ⟨_, _, rfl, rfl, hs15, (hs4.up (hl8.trans hl13))⟩
 refine Z 4 rfl ?_
 obtain ⟨e18, hL18, hA18⟩ := h
 refine st_addNil ?_
 refine st_ord [3, 2, 1, 0] _ rfl ?_
 refine st_loop hL18 (fun (s18 : Int × List (List Int)) ρ τ18 gs => σ.Le τ18 ∧ ∃ (v19 : Value) (g20 : Grp), ESub ρ [(1, .Pb b5), (2, .Pb b6), (3, .Pb b7), (4, .I s18.1)] ∧ gs = [[(b5, .cells #[.I a0.1, .I (a0.2.1.getD 0 0), .I (a0.2.1.getD 1 0), .I (a0.2.1.getD 2 0), .I (a0.2.1.getD 3 0), .I (a0.2.1.getD 4 0), .I (a0.2.1.getD 5 0), v1, v2, .string a0.t4.1, .string a0.t4.2] 26 (0, 0))], [(b6, .cells #[.I 0, .I 0, .I 0, .I 0, .I 0, .I 0, .I 0, .N0, .N0, .E0, .E0] 37 (0, 0))], [(b7, .cells #[.I a0.1, .I (a0.2.1.getD 0 0), .I (a0.2.1.getD 1 0), .I (a0.2.1.getD 2 0), .I (a0.2.1.getD 3 0), .I (a0.2.1.getD 4 0), .I (a0.2.1.getD 5 0), v19, v2, .string a0.t4.1, .string a0.t4.2] 37 (0, 0))], g20] ∧ Ow (kA .i64 2) 134 τ18 v19 s18.2 g20) ⟨Sto.Le.refl _, _, _, rfl, rfl, Ow.nil⟩ ?_
 rintro s18 o18 h he18 ρ18 τ18 gs18 ⟨hl18, v19, g20, hρ, rfl, ho21⟩ hn18
 refine st_es hρ ?_
 refine ZZ 6 [0] rfl rfl ?_
 refine o_lenI rfl rfl rfl z_slT23 rfl (hs3.up hl18) ?_
 refine Z 2 rfl ?_
 refine st_if rfl h (fun h => ?_) (fun h => ?_)
 ·refine Z 3 rfl ?_
  obtain ⟨q22, hf23, q27, hf28, hf42, hf43, h⟩ := h
  refine st_d41 [[(b5, .cells #[.I a0.1, .I (a0.2.1.getD 0 0), .I (a0.2.1.getD 1 0), .I (a0.2.1.getD 2 0), .I (a0.2.1.getD 3 0), .I (a0.2.1.getD 4 0), .I (a0.2.1.getD 5 0), v1, v2, .string a0.t4.1, .string a0.t4.2] 26 (0, 0))], [(b6, .cells #[.I 0, .I 0, .I 0, .I 0, .I 0, .I 0, .I 0, .N0, .N0, .E0, .E0] 37 (0, 0))]] [[(b7, .cells #[.I a0.1, .I (a0.2.1.getD 0 0), .I (a0.2.1.getD 1 0), .I (a0.2.1.getD 2 0), .I (a0.2.1.getD 3 0), .I (a0.2.1.getD 4 0), .I (a0.2.1.getD 5 0), v19, v2, .string a0.t4.1, .string a0.t4.2] 37 (0, 0))], g20] 17 2 [none, some (0, 0), none, none, none, none, none, none, none, none, none, none, none, none, none, none, some (0, 1)] [none, none, none, none, none, none, none, none, none, none, none, none, none, none, none, none, none] [[none, some 24, some 39]] [.v (.pointer (some ⟨b7, 7, none⟩)), .v (v19), .v (.pointer (some ⟨b5, 7, none⟩)), .v (v1), .v (.I s18.1), .t fun τ v => ∃ (b24 : Nat) (of25 : Nat) (vsb24 : List Value), (.pointer (some ⟨b24, of25, none⟩) : Value) = v ∧ CelN τ ⟨b24, of25, none⟩ vsb24 ∧ (kP (kI .i64) (kI .i64)).rep τ vsb24 q22, .t fun τ v => ∃ (b24 : Nat) (of25 : Nat) (vsb24 : List Value), (.pointer (some ⟨b24, of25, none⟩) : Value) = v ∧ CelN τ ⟨b24, of25, none⟩ vsb24 ∧ (kP (kI .i64) (kI .i64)).rep τ vsb24 q22, .v (.I q22.1), .v (.pointer (some ⟨b5, 7, none⟩)), .v (v1), .v (.I s18.1), .t fun τ v => ∃ (b29 : Nat) (of30 : Nat) (vsb29 : List Value), (.pointer (some ⟨b29, of30, none⟩) : Value) = v ∧ CelN τ ⟨b29, of30, none⟩ vsb29 ∧ (kP (kI .i64) (kI .i64)).rep τ vsb29 q27, .t fun τ v => ∃ (b29 : Nat) (of30 : Nat) (vsb29 : List Value), (.pointer (some ⟨b29, of30 + 1, none⟩) : Value) = v ∧ CelN τ ⟨b29, of30, none⟩ vsb29 ∧ (kP (kI .i64) (kI .i64)).rep τ vsb29 q27, .v (.I q27.2), .v (.agg #[.I q22.1, .I q27.2]), .t fun τ v => ∃ (v32 : Value), (v32 : Value) = v ∧ Sl (kA .i64 2) τ v32 [[q22.1, q27.2]], .t fun _ _ => True] [[fun τ u F => F = [[(b7, .cells #[.I a0.1, .I (a0.2.1.getD 0 0), .I (a0.2.1.getD 1 0), .I (a0.2.1.getD 2 0), .I (a0.2.1.getD 3 0), .I (a0.2.1.getD 4 0), .I (a0.2.1.getD 5 0), v19, v2, .string a0.t4.1, .string a0.t4.2] 37 (0, 0))], g20], fun τ u F => F = [[(b7, .cells #[.I a0.1, .I (a0.2.1.getD 0 0), .I (a0.2.1.getD 1 0), .I (a0.2.1.getD 2 0), .I (a0.2.1.getD 3 0), .I (a0.2.1.getD 4 0), .I (a0.2.1.getD 5 0), v19, v2, .string a0.t4.1, .string a0.t4.2] 37 (0, 0))], g20], fun τ u F => ∃ (v44 : Value) (g45 : Grp), F = [g45, [(b7, .cells #[.I a0.1, .I (a0.2.1.getD 0 0), .I (a0.2.1.getD 1 0), .I (a0.2.1.getD 2 0), .I (a0.2.1.getD 3 0), .I (a0.2.1.getD 4 0), .I (a0.2.1.getD 5 0), v19, v2, .string a0.t4.1, .string a0.t4.2] 37 (0, 0))]] ∧ v44 = u ∧ Ow (kA .i64 2) 134 τ v44 (s18.2 ++ [[q22.1, q27.2]]) g45]] rfl z_mix rfl ⟨fun _ _ _ hl ⟨b24, of25, vsb24, hv, hc26, hrepb24⟩ => ⟨b24, of25, vsb24, hv, hc26.up hl, Kd.mono _ hl hrepb24⟩, ⟨fun _ _ _ hl ⟨b24, of25, vsb24, hv, hc26, hrepb24⟩ => ⟨b24, of25, vsb24, hv, hc26.up hl, Kd.mono _ hl hrepb24⟩, ⟨fun _ _ _ hl ⟨b29, of30, vsb29, hv, hc31, hrepb29⟩ => ⟨b29, of30, vsb29, hv, hc31.up hl, Kd.mono _ hl hrepb29⟩, ⟨fun _ _ _ hl ⟨b29, of30, vsb29, hv, hc31, hrepb29⟩ => ⟨b29, of30, vsb29, hv, hc31.up hl, Kd.mono _ hl hrepb29⟩, ⟨fun _ _ _ hl ⟨v32, hv, hs38⟩ => ⟨v32, hv, hs38.up hl⟩, ⟨fun _ _ _ _ _ => trivial, trivial⟩⟩⟩⟩⟩⟩ ⟨⟨fun _ _ _ _ hl h => h, ⟨fun _ _ _ _ hl h => h, ⟨fun _ _ _ _ hl h => (let ⟨v44, g45, hF, hU, ho46⟩ := h; ⟨v44, g45, hF, hU, ho46.up hl⟩), trivial⟩⟩⟩, trivial⟩ rfl rfl ?_ (allB_cons (allB_cons (allB_cons (allB_cons (allB_cons (allB_cons (allB_cons (allB_cons (allB_cons (allB_cons (allB_cons (allB_cons (allB_cons (allB_cons (allB_cons (allB_cons (allB_cons allB_nil (p4 dA)) ?_) (p4 dA)) ?_) (p4 dA)) ?_) ?_) ?_) (p4 dA)) ?_) (p4 dA)) ?_) ?_) ?_) ?_) ?_) ?_) ?_
  ·exact rfl
  ·intro ρ' τ u Fv pool rs hl hI hu hd hout hw hk
   obtain ⟨_, e0, rfl⟩ := hd 0 rfl _ rfl
   have hI0 := hI
   obtain rfl := hI
   refine st_gs [[(b5, .cells #[.I a0.1, .I (a0.2.1.getD 0 0), .I (a0.2.1.getD 1 0), .I (a0.2.1.getD 2 0), .I (a0.2.1.getD 3 0), .I (a0.2.1.getD 4 0), .I (a0.2.1.getD 5 0), v1, v2, .string a0.t4.1, .string a0.t4.2] 26 (0, 0))], [(b6, .cells #[.I 0, .I 0, .I 0, .I 0, .I 0, .I 0, .I 0, .N0, .N0, .E0, .E0] 37 (0, 0))], [(b7, .cells #[.I a0.1, .I (a0.2.1.getD 0 0), .I (a0.2.1.getD 1 0), .I (a0.2.1.getD 2 0), .I (a0.2.1.getD 3 0), .I (a0.2.1.getD 4 0), .I (a0.2.1.getD 5 0), v19, v2, .string a0.t4.1, .string a0.t4.2] 37 (0, 0))], g20, pool] rfl ?_
   refine o_load (j := 2) (v := v19) rfl rfl rfl z_sc35 e0 rfl rfl ?_
   exact hk _ _ [[(b7, .cells #[.I a0.1, .I (a0.2.1.getD 0 0), .I (a0.2.1.getD 1 0), .I (a0.2.1.getD 2 0), .I (a0.2.1.getD 3 0), .I (a0.2.1.getD 4 0), .I (a0.2.1.getD 5 0), v19, v2, .string a0.t4.1, .string a0.t4.2] 37 (0, 0))], g20] (Sto.Le.refl _) rfl (by exact hI0)
  ·intro ρ' τ pool rs hl hd hout hw hk
   obtain ⟨_, e2, rfl⟩ := hd 2 rfl _ rfl
   refine o_load (j := 0) (v := v1) rfl rfl rfl z_sc23 e2 rfl rfl ?_
   exact hk _ _ (Sto.Le.refl _) rfl
  ·intro ρ' τ pool rs hl hd hout hw hk
   obtain ⟨_, e3, rfl⟩ := hd 3 rfl _ rfl
   obtain ⟨_, e4, rfl⟩ := hd 4 rfl _ rfl
   refine o_index rfl rfl rfl z_slT23 rfl e3 (hs3.up (hl18.trans hl)) e4 hf23 (fun b24 of25 vsb24 hc26 hrepb24 => ?_)
   exact hk _ _ (Sto.Le.refl _) ⟨b24, of25, _, rfl, hc26, hrepb24⟩
  ·intro ρ' τ pool rs hl hd hout hw hk
   obtain ⟨_, e5, b24, of25, vsb24, rfl, hc26, hrepb24⟩ := hd 5 rfl _ rfl
   have hrepb24 := hrepb24
   obtain ⟨_, _, rfl, rfl, rfl⟩ := hrepb24
   refine o_fieldAddr rfl rfl rfl z_field149_0 e5 ?_
   exact hk _ _ (Sto.Le.refl _) ⟨b24, of25, _, rfl, hc26, hrepb24⟩
  ·intro ρ' τ pool rs hl hd hout hw hk
   obtain ⟨_, e6, b24, of25, vsb24, rfl, hc26, hrepb24⟩ := hd 6 rfl _ rfl
   have hrepb24 := hrepb24
   obtain ⟨_, _, rfl, rfl, rfl⟩ := hrepb24
   refine o_loadI (v := .I q22.1) rfl rfl rfl z_sc3 e6 (hc26 0 _ rfl) ?_
   exact hk _ _ (Sto.Le.refl _) rfl
  ·intro ρ' τ pool rs hl hd hout hw hk
   obtain ⟨_, e8, rfl⟩ := hd 8 rfl _ rfl
   refine o_load (j := 0) (v := v1) rfl rfl rfl z_sc23 e8 rfl rfl ?_
   exact hk _ _ (Sto.Le.refl _) rfl
  ·intro ρ' τ pool rs hl hd hout hw hk
   obtain ⟨_, e9, rfl⟩ := hd 9 rfl _ rfl
   obtain ⟨_, e10, rfl⟩ := hd 10 rfl _ rfl
   refine o_index rfl rfl rfl z_slT23 rfl e9 (hs3.up (hl18.trans hl)) e10 hf28 (fun b29 of30 vsb29 hc31 hrepb29 => ?_)
   exact hk _ _ (Sto.Le.refl _) ⟨b29, of30, _, rfl, hc31, hrepb29⟩
  ·intro ρ' τ pool rs hl hd hout hw hk
   obtain ⟨_, e11, b29, of30, vsb29, rfl, hc31, hrepb29⟩ := hd 11 rfl _ rfl
   have hrepb29 := hrepb29
   obtain ⟨_, _, rfl, rfl, rfl⟩ := hrepb29
   refine o_fieldAddr rfl rfl rfl z_field149_1 e11 ?_
   exact hk _ _ (Sto.Le.refl _) ⟨b29, of30, _, rfl, hc31, hrepb29⟩
  ·intro ρ' τ pool rs hl hd hout hw hk
   obtain ⟨_, e12, b29, of30, vsb29, rfl, hc31, hrepb29⟩ := hd 12 rfl _ rfl
   have hrepb29 := hrepb29
   obtain ⟨_, _, rfl, rfl, rfl⟩ := hrepb29
   refine o_loadI (v := .I q27.2) rfl rfl rfl z_sc3 e12 (hc31 1 _ rfl) ?_
   exact hk _ _ (Sto.Le.refl _) rfl
  ·intro ρ' τ pool rs hl hd hout hw hk
   obtain ⟨_, e7, rfl⟩ := hd 7 rfl _ rfl
   obtain ⟨_, e13, rfl⟩ := hd 13 rfl _ rfl
   refine o_buildA (ps := [(0, [.I q22.1]), (1, [.I q27.2])]) (cs := [.I q22.1, .I q27.2]) rfl rfl rfl z_arrz134 ⟨rfl, ⟨_, e7, rfl⟩, ⟨rfl, ⟨_, e13, rfl⟩, trivial⟩⟩ (fill_all [.I q22.1, .I q27.2] _ rfl) ?_
   exact hk _ _ (Sto.Le.refl _) rfl
  ·intro ρ' τ pool rs hl hd hout hw hk
   obtain ⟨_, e14, rfl⟩ := hd 14 rfl _ rfl
   refine o_litE (eA .i64 2) [[q22.1, q27.2]] rfl rfl rfl z_slT35 z_zero134 ⟨rfl, ⟨_, e14, rfl⟩, trivial⟩ rfl rfl rfl rfl (fun v32 g33 ho34 => ?_)
   refine st_freeze (fun τ35 hl36 hg37 => ?_)
   have hs38 := ho34.freeze hl36 hg37
   exact hk _ _ hl36 ⟨v32, rfl, hs38⟩
  ·intro ρ' τ u Fv pool rs hl hI hu hd hout hw hk
   obtain ⟨_, e1, rfl⟩ := hd 1 rfl _ rfl
   obtain ⟨_, e15, v32, rfl, hs38⟩ := hd 15 rfl _ rfl
   have hI0 := hI
   obtain rfl := hI
   refine st_gs [[(b5, .cells #[.I a0.1, .I (a0.2.1.getD 0 0), .I (a0.2.1.getD 1 0), .I (a0.2.1.getD 2 0), .I (a0.2.1.getD 3 0), .I (a0.2.1.getD 4 0), .I (a0.2.1.getD 5 0), v1, v2, .string a0.t4.1, .string a0.t4.2] 26 (0, 0))], [(b6, .cells #[.I 0, .I 0, .I 0, .I 0, .I 0, .I 0, .I 0, .N0, .N0, .E0, .E0] 37 (0, 0))], [(b7, .cells #[.I a0.1, .I (a0.2.1.getD 0 0), .I (a0.2.1.getD 1 0), .I (a0.2.1.getD 2 0), .I (a0.2.1.getD 3 0), .I (a0.2.1.getD 4 0), .I (a0.2.1.getD 5 0), v19, v2, .string a0.t4.1, .string a0.t4.2] 37 (0, 0))], g20, pool] rfl ?_
   refine st_ord [3, 0, 0, 0, 0] _ rfl ?_
   refine o_append (dk := (kA .i64 2)) (xs := s18.2) (ys := [[q22.1, q27.2]]) rfl rfl rfl rfl z_slT35 e1 (ho21.up hl) e15 (Sl.src hs38) hf42 hf43 (fun v39 g40 ho41 => ?_)
   refine st_ord [1, 1, 0, 0, 0] _ rfl ?_
   exact hk _ _ [g40, [(b7, .cells #[.I a0.1, .I (a0.2.1.getD 0 0), .I (a0.2.1.getD 1 0), .I (a0.2.1.getD 2 0), .I (a0.2.1.getD 3 0), .I (a0.2.1.getD 4 0), .I (a0.2.1.getD 5 0), v19, v2, .string a0.t4.1, .string a0.t4.2] 37 (0, 0))]] (Sto.Le.refl _) trivial (by exact ⟨v39, g40, rfl, rfl, ho41⟩)
  intro ρ' τ47 vals u Fv hl47 hI hu hv hout
  obtain ⟨v44, g45, rfl, rfl, ho46⟩ := hI
  refine st_gs [[(b5, .cells #[.I a0.1, .I (a0.2.1.getD 0 0), .I (a0.2.1.getD 1 0), .I (a0.2.1.getD 2 0), .I (a0.2.1.getD 3 0), .I (a0.2.1.getD 4 0), .I (a0.2.1.getD 5 0), v1, v2, .string a0.t4.1, .string a0.t4.2] 26 (0, 0))], [(b6, .cells #[.I 0, .I 0, .I 0, .I 0, .I 0, .I 0, .I 0, .N0, .N0, .E0, .E0] 37 (0, 0))], g45, [(b7, .cells #[.I a0.1, .I (a0.2.1.getD 0 0), .I (a0.2.1.getD 1 0), .I (a0.2.1.getD 2 0), .I (a0.2.1.getD 3 0), .I (a0.2.1.getD 4 0), .I (a0.2.1.getD 5 0), v19, v2, .string a0.t4.1, .string a0.t4.2] 37 (0, 0))]] rfl ?_
  refine st_env (ρ' := [(1, .Pb b5), (2, .Pb b6), (3, .Pb b7), (4, .I s18.1), (39, v44)]) ⟨(hout 1 rfl).trans rfl, (hout 2 rfl).trans rfl, (hout 3 rfl).trans rfl, (hout 4 rfl).trans rfl, (by exact hu _ rfl), trivial⟩ ?_
  refine o_fieldAddr rfl rfl rfl z_field37_2 rfl ?_
  refine o_store (j := 3) (vs := [v44]) (cs' := [.I a0.1, .I (a0.2.1.getD 0 0), .I (a0.2.1.getD 1 0), .I (a0.2.1.getD 2 0), .I (a0.2.1.getD 3 0), .I (a0.2.1.getD 4 0), .I (a0.2.1.getD 5 0), v44, v2, .string a0.t4.1, .string a0.t4.2]) rfl rfl rfl z_size35 rfl rfl (oneL_ow ho46) (ones_cons ho46.one' ones_nil) rfl rfl rfl ?_
  refine st_gs [[(b5, .cells #[.I a0.1, .I (a0.2.1.getD 0 0), .I (a0.2.1.getD 1 0), .I (a0.2.1.getD 2 0), .I (a0.2.1.getD 3 0), .I (a0.2.1.getD 4 0), .I (a0.2.1.getD 5 0), v1, v2, .string a0.t4.1, .string a0.t4.2] 26 (0, 0))], [(b6, .cells #[.I 0, .I 0, .I 0, .I 0, .I 0, .I 0, .I 0, .N0, .N0, .E0, .E0] 37 (0, 0))], g45, [(b7, .cells #[.I a0.1, .I (a0.2.1.getD 0 0), .I (a0.2.1.getD 1 0), .I (a0.2.1.getD 2 0), .I (a0.2.1.getD 3 0), .I (a0.2.1.getD 4 0), .I (a0.2.1.getD 5 0), v44, v2, .string a0.t4.1, .string a0.t4.2] 37 (0, 0))]] rfl ?_
  refine Z 7 rfl ?_
  refine st_ord [0, 0, 1, 0] _ rfl ?_
  exact hn18 _ _ _ _ h ⟨(hl18.trans hl47), _, _, rfl, rfl, ho46⟩
 ·refine st_exit rfl ?_
  obtain rfl := he18 _ h
  replace h := hA18
  refine st_ord [1, 1, 1] _ rfl ?_
  exact hk8 _ _ _ ⟨s18.2, _, _, h, hl18, rfl, rfl, ho21⟩
theorem law26_Of_ok {a0 : TyI} {v1 : Value} {r : (TyI)} (h : law26_Of a0 r) (σ : Sto) (hs2 : Sl (kI .u8) σ v1 a0.t4) :
    Does Tryz.prog 40 [.agg [.I a0.1, .I a0.2.1, .I a0.2.2.1, .I a0.2.2.2.1, v1].toArray] σ [] (fun v τ gs => ∃ (v5 : Value), gs = [] ∧ .agg [.I r.1, .I r.2.1, .I r.2.2.1, .I r.2.2.2.1, v5].toArray = v ∧ Sl (kI .u8) τ v5 r.t4) := by
 refine call_of Tryz.func40 Tryz.ntmps40 rfl rfl (fun cs fs => ?_)
 refine Z 2 rfl ?_
 refine o_box (cs := [.I a0.1, .I a0.2.1, .I a0.2.2.1, .I a0.2.2.2.1, v1]) rfl rfl rfl rfl rfl (fun b3 => ?_)
 refine o_alloc rfl rfl rfl z_zero38 (fun b4 => ?_)
 refine ZZ 13 [1, 1, 1, 1, 1] rfl rfl ?_
 refine o_build (ps := [(0, [.I a0.1]), (1, [.I a0.2.1]), (2, [.I a0.2.2.1]), (3, [.I a0.2.2.2.1]), (4, [v1])]) (cs := [.I a0.1, .I a0.2.1, .I a0.2.2.1, .I a0.2.2.2.1, v1]) rfl rfl rfl z_struct38 ⟨rfl, ⟨_, rfl, rfl⟩, ⟨rfl, ⟨_, rfl, rfl⟩, ⟨rfl, ⟨_, rfl, rfl⟩, ⟨rfl, ⟨_, rfl, rfl⟩, ⟨rfl, ⟨_, rfl, (oneL_sl hs2)⟩, trivial⟩⟩⟩⟩⟩ rfl ?_
 refine o_store (j := 0) (vs := [.I a0.1, .I a0.2.1, .I a0.2.2.1, .I a0.2.2.2.1, v1]) (cs' := [.I a0.1, .I a0.2.1, .I a0.2.2.1, .I a0.2.2.2.1, v1]) rfl rfl rfl z_size38 rfl rfl rfl (ones_cons rfl (ones_cons rfl (ones_cons rfl (ones_cons rfl (ones_cons hs2.one' ones_nil))))) rfl rfl rfl ?_
 refine st_gs [[(b4, .cells #[.I a0.1, .I a0.2.1, .I a0.2.2.1, .I a0.2.2.2.1, v1] 38 (0, 0))], [(b3, .cells #[.I a0.1, .I a0.2.1, .I a0.2.2.1, .I a0.2.2.2.1, v1] 29 (0, 0))]] rfl ?_
 refine st_end ?_
 obtain rfl := Eq.symm h
 exact st_retC (gs' := []) [.agg #[.I a0.1, .I a0.2.1, .I a0.2.2.1, .I a0.2.2.2.1, v1]] Tryz.func40 ⟨⟨_, _, _, _, rfl, mem_flat 0 rfl, fun w hw => cellOfN (vs := [.I a0.1, .I a0.2.1, .I a0.2.2.1, .I a0.2.2.2.1, v1]) z_agg38 rfl w hw⟩, trivial⟩ (by simp) (Sto.Le.refl _) ⟨_, rfl, rfl, hs2⟩
theorem law27_Of_ok {a0 : TyS} {v1 : Value} {v2 : Value} {v3 : Value} {v4 : Value} {r : (TyZ)} (h : law27_Of a0 r) (σ : Sto) (hs5 : Sl (kP (kI .i64) (kI .i64)) σ v1 a0.2.1.2.2.1) (hs6 : Sl (kI .i64) σ v2 a0.2.1.2.2.2.1) (hs7 : Sl (kI .u8) σ v3 a0.2.2.1.t4) (hs8 : Sl (kI .i64) σ v4 a0.2.2.2) :
    Does Tryz.prog 14 [.agg [.I a0.1, .I a0.2.1.1, .I (a0.2.1.2.1.getD 0 0), .I (a0.2.1.2.1.getD 1 0), .I (a0.2.1.2.1.getD 2 0), .I (a0.2.1.2.1.getD 3 0), .I (a0.2.1.2.1.getD 4 0), .I (a0.2.1.2.1.getD 5 0), v1, v2, .string a0.2.1.t4.1, .string a0.2.1.t4.2, .I a0.2.2.1.1, .I a0.2.2.1.2.1, .I a0.2.2.1.2.2.1, .I a0.2.2.1.2.2.2.1, v3, v4].toArray] σ [] (fun v τ gs => ∃ (v26 : Value) (v27 : Value) (v28 : Value) (v29 : Value), gs = [] ∧ .agg [.I r.1, .I r.2.1.1, .I (r.2.1.2.1.getD 0 0), .I (r.2.1.2.1.getD 1 0), .I (r.2.1.2.1.getD 2 0), .I (r.2.1.2.1.getD 3 0), .I (r.2.1.2.1.getD 4 0), .I (r.2.1.2.1.getD 5 0), v26, v27, .string r.2.1.t4.1, .string r.2.1.t4.2, .I r.2.2.1.1, .I r.2.2.1.2.1, .I r.2.2.1.2.2.1, .I r.2.2.1.2.2.2.1, v28, v29].toArray = v ∧ Sl (kA .i64 2) τ v26 r.2.1.2.2.1 ∧ Sl (kI .i64) τ v27 r.2.1.2.2.2.1 ∧ Sl (kI .u8) τ v28 r.2.2.1.t4 ∧ Sl (kI .i64) τ v29 r.2.2.2) := by
 refine call_of Tryz.func14 Tryz.ntmps14 rfl rfl (fun cs fs => ?_)
 refine Z 2 rfl ?_
 refine o_box (cs := [.I a0.1, .I a0.2.1.1, .I (a0.2.1.2.1.getD 0 0), .I (a0.2.1.2.1.getD 1 0), .I (a0.2.1.2.1.getD 2 0), .I (a0.2.1.2.1.getD 3 0), .I (a0.2.1.2.1.getD 4 0), .I (a0.2.1.2.1.getD 5 0), v1, v2, .string a0.2.1.t4.1, .string a0.2.1.t4.2, .I a0.2.2.1.1, .I a0.2.2.1.2.1, .I a0.2.2.1.2.2.1, .I a0.2.2.1.2.2.2.1, v3, v4]) rfl rfl rfl rfl rfl (fun b9 => ?_)
 refine o_alloc rfl rfl rfl z_zero40 (fun b10 => ?_)
 refine Z 2 rfl ?_
 obtain ⟨r11, hr12, r19, hr20, h⟩ := h
 refine st_draw 11 (dl [.v (.Pb b9), .v (.I a0.1), .v (.pointer (some ⟨b9, 1, none⟩)), .v (.agg #[.I a0.2.1.1, .I (a0.2.1.2.1.getD 0 0), .I (a0.2.1.2.1.getD 1 0), .I (a0.2.1.2.1.getD 2 0), .I (a0.2.1.2.1.getD 3 0), .I (a0.2.1.2.1.getD 4 0), .I (a0.2.1.2.1.getD 5 0), v1, v2, .string a0.2.1.t4.1, .string a0.2.1.t4.2]), .t fun τ v => ∃ (v15 : Value) (v16 : Value), (.agg #[.I r11.1, .I (r11.2.1.getD 0 0), .I (r11.2.1.getD 1 0), .I (r11.2.1.getD 2 0), .I (r11.2.1.getD 3 0), .I (r11.2.1.getD 4 0), .I (r11.2.1.getD 5 0), v15, v16, .string r11.t4.1, .string r11.t4.2] : Value) = v ∧ Sl (kA .i64 2) τ v15 r11.2.2.1 ∧ Sl (kI .i64) τ v16 r11.2.2.2.1, .v (.pointer (some ⟨b9, 12, none⟩)), .v (.agg #[.I a0.2.2.1.1, .I a0.2.2.1.2.1, .I a0.2.2.1.2.2.1, .I a0.2.2.1.2.2.2.1, v3]), .t fun τ v => ∃ (v23 : Value), (.agg #[.I r19.1, .I r19.2.1, .I r19.2.2.1, .I r19.2.2.2.1, v23] : Value) = v ∧ Sl (kI .u8) τ v23 r19.t4, .v (.pointer (some ⟨b9, 17, none⟩)), .v (v4), .t fun τ v => ∃ (v15 : Value) (v16 : Value) (v23 : Value), (.agg #[.I a0.1, .I r11.1, .I (r11.2.1.getD 0 0), .I (r11.2.1.getD 1 0), .I (r11.2.1.getD 2 0), .I (r11.2.1.getD 3 0), .I (r11.2.1.getD 4 0), .I (r11.2.1.getD 5 0), v15, v16, .string r11.t4.1, .string r11.t4.2, .I r19.1, .I r19.2.1, .I r19.2.2.1, .I r19.2.2.2.1, v23, v4] : Value) = v ∧ Sl (kA .i64 2) τ v15 r11.2.2.1 ∧ Sl (kI .i64) τ v16 r11.2.2.2.1 ∧ Sl (kI .u8) τ v23 r19.t4]) (fun _ _ => []) z_mix rfl (dl_mono ⟨fun _ _ _ hl ⟨v15, v16, hv, hs17, hs18⟩ => ⟨v15, v16, hv, hs17.up hl, hs18.up hl⟩, ⟨fun _ _ _ hl ⟨v23, hv, hs24⟩ => ⟨v23, hv, hs24.up hl⟩, ⟨fun _ _ _ hl ⟨v15, v16, v23, hv, hs17, hs18, hs24⟩ => ⟨v15, v16, v23, hv, hs17.up hl, hs18.up hl, hs24.up hl⟩, trivial⟩⟩⟩) (allB_cons (allB_cons (allB_cons (allB_cons (allB_cons (allB_cons (allB_cons (allB_cons (allB_cons (allB_cons (allB_cons allB_nil (p1 dA)) ?_) (p1 dA)) ?_) ?_) (p1 dA)) ?_) ?_) (p1 dA)) ?_) ?_) ?_
 ·intro ρ' τ pool rs hl hd hout hk
  obtain ⟨_, e0, rfl⟩ := hd 0 rfl
  refine o_load (j := 1) (v := .I a0.1) rfl rfl rfl z_sc3 e0 rfl rfl ?_
  exact st_addNil (hk _ _ (Sto.Le.refl _) rfl)
 ·intro ρ' τ pool rs hl hd hout hk
  obtain ⟨_, e2, rfl⟩ := hd 2 rfl
  refine o_loadN (j := 1) (vs := [.I a0.2.1.1, .I (a0.2.1.2.1.getD 0 0), .I (a0.2.1.2.1.getD 1 0), .I (a0.2.1.2.1.getD 2 0), .I (a0.2.1.2.1.getD 3 0), .I (a0.2.1.2.1.getD 4 0), .I (a0.2.1.2.1.getD 5 0), v1, v2, .string a0.2.1.t4.1, .string a0.2.1.t4.2]) rfl rfl rfl z_agg26 e2 rfl rfl ?_
  exact st_addNil (hk _ _ (Sto.Le.refl _) rfl)
 ·intro ρ' τ pool rs hl hd hout hk
  obtain ⟨_, e3, rfl⟩ := hd 3 rfl
  refine st_call (foot := []) rfl rfl rfl rfl (evs_cons e3 rfl) rfl (callV_fn z_en39 (law17_Of_ok hr12 τ (hs5.up hl) (hs6.up hl))) ?_
  rintro vτ13 τ13 gsτ13 hl14 ⟨v15, v16, rfl, rfl, hs17, hs18⟩
  exact st_addNil (hk _ _ hl14 ⟨v15, v16, rfl, hs17, hs18⟩)
 ·intro ρ' τ pool rs hl hd hout hk
  obtain ⟨_, e5, rfl⟩ := hd 5 rfl
  refine o_loadN (j := 1) (vs := [.I a0.2.2.1.1, .I a0.2.2.1.2.1, .I a0.2.2.1.2.2.1, .I a0.2.2.1.2.2.2.1, v3]) rfl rfl rfl z_agg29 e5 rfl rfl ?_
  exact st_addNil (hk _ _ (Sto.Le.refl _) rfl)
 ·intro ρ' τ pool rs hl hd hout hk
  obtain ⟨_, e6, rfl⟩ := hd 6 rfl
  refine st_call (foot := []) rfl rfl rfl rfl (evs_cons e6 rfl) rfl (callV_fn z_en40 (law26_Of_ok hr20 τ (hs7.up hl))) ?_
  rintro vτ21 τ21 gsτ21 hl22 ⟨v23, rfl, rfl, hs24⟩
  exact st_addNil (hk _ _ hl22 ⟨v23, rfl, hs24⟩)
 ·intro ρ' τ pool rs hl hd hout hk
  obtain ⟨_, e8, rfl⟩ := hd 8 rfl
  refine o_load (j := 1) (v := v4) rfl rfl rfl z_sc24 e8 rfl rfl ?_
  exact st_addNil (hk _ _ (Sto.Le.refl _) rfl)
 ·intro ρ' τ pool rs hl hd hout hk
  obtain ⟨_, e1, rfl⟩ := hd 1 rfl
  obtain ⟨_, e4, v15, v16, rfl, hs17, hs18⟩ := hd 4 rfl
  obtain ⟨_, e7, v23, rfl, hs24⟩ := hd 7 rfl
  obtain ⟨_, e9, rfl⟩ := hd 9 rfl
  refine o_build (ps := [(0, [.I a0.1]), (1, [.I r11.1, .I (r11.2.1.getD 0 0), .I (r11.2.1.getD 1 0), .I (r11.2.1.getD 2 0), .I (r11.2.1.getD 3 0), .I (r11.2.1.getD 4 0), .I (r11.2.1.getD 5 0), v15, v16, .string r11.t4.1, .string r11.t4.2]), (2, [.I r19.1, .I r19.2.1, .I r19.2.2.1, .I r19.2.2.2.1, v23]), (3, [v4])]) (cs := [.I a0.1, .I r11.1, .I (r11.2.1.getD 0 0), .I (r11.2.1.getD 1 0), .I (r11.2.1.getD 2 0), .I (r11.2.1.getD 3 0), .I (r11.2.1.getD 4 0), .I (r11.2.1.getD 5 0), v15, v16, .string r11.t4.1, .string r11.t4.2, .I r19.1, .I r19.2.1, .I r19.2.2.1, .I r19.2.2.2.1, v23, v4]) rfl rfl rfl z_struct40 ⟨rfl, ⟨_, e1, rfl⟩, ⟨rfl, ⟨_, e4, rfl⟩, ⟨rfl, ⟨_, e7, rfl⟩, ⟨rfl, ⟨_, e9, (oneL_sl (hs8.up hl))⟩, trivial⟩⟩⟩⟩ rfl ?_
  exact st_addNil (hk _ _ (Sto.Le.refl _) ⟨v15, v16, v23, rfl, hs17, hs18, hs24⟩)
 intro ρ' τ25 vals hl25 hv hout
 obtain ⟨l10, v15, v16, v23, t10, hs17, hs18, hs24⟩ := hv 10 (by decide)
 replace l10 : Eng.look ρ' 13 = some (.agg #[.I a0.1, .I r11.1, .I (r11.2.1.getD 0 0), .I (r11.2.1.getD 1 0), .I (r11.2.1.getD 2 0), .I (r11.2.1.getD 3 0), .I (r11.2.1.getD 4 0), .I (r11.2.1.getD 5 0), v15, v16, .string r11.t4.1, .string r11.t4.2, .I r19.1, .I r19.2.1, .I r19.2.2.1, .I r19.2.2.2.1, v23, v4]) := l10.trans (congrArg some (Eq.symm t10))
 refine st_ord [0, 0] _ rfl ?_
 refine st_env (ρ' := [(13, .agg #[.I a0.1, .I r11.1, .I (r11.2.1.getD 0 0), .I (r11.2.1.getD 1 0), .I (r11.2.1.getD 2 0), .I (r11.2.1.getD 3 0), .I (r11.2.1.getD 4 0), .I (r11.2.1.getD 5 0), v15, v16, .string r11.t4.1, .string r11.t4.2, .I r19.1, .I r19.2.1, .I r19.2.2.1, .I r19.2.2.2.1, v23, v4]), (2, .Pb b10)]) ⟨l10, (hout 2 rfl).trans rfl, trivial⟩ ?_
 refine o_store (j := 0) (vs := [.I a0.1, .I r11.1, .I (r11.2.1.getD 0 0), .I (r11.2.1.getD 1 0), .I (r11.2.1.getD 2 0), .I (r11.2.1.getD 3 0), .I (r11.2.1.getD 4 0), .I (r11.2.1.getD 5 0), v15, v16, .string r11.t4.1, .string r11.t4.2, .I r19.1, .I r19.2.1, .I r19.2.2.1, .I r19.2.2.2.1, v23, v4]) (cs' := [.I a0.1, .I r11.1, .I (r11.2.1.getD 0 0), .I (r11.2.1.getD 1 0), .I (r11.2.1.getD 2 0), .I (r11.2.1.getD 3 0), .I (r11.2.1.getD 4 0), .I (r11.2.1.getD 5 0), v15, v16, .string r11.t4.1, .string r11.t4.2, .I r19.1, .I r19.2.1, .I r19.2.2.1, .I r19.2.2.2.1, v23, v4]) rfl rfl rfl z_size40 rfl rfl rfl (ones_cons rfl (ones_cons rfl (ones_cons rfl (ones_cons rfl (ones_cons rfl (ones_cons rfl (ones_cons rfl (ones_cons rfl (ones_cons hs17.one' (ones_cons hs18.one' (ones_cons rfl (ones_cons rfl (ones_cons rfl (ones_cons rfl (ones_cons rfl (ones_cons rfl (ones_cons hs24.one' (ones_cons (hs8.up hl25).one' ones_nil)))))))))))))))))) rfl rfl rfl ?_
 refine st_gs [[(b10, .cells #[.I a0.1, .I r11.1, .I (r11.2.1.getD 0 0), .I (r11.2.1.getD 1 0), .I (r11.2.1.getD 2 0), .I (r11.2.1.getD 3 0), .I (r11.2.1.getD 4 0), .I (r11.2.1.getD 5 0), v15, v16, .string r11.t4.1, .string r11.t4.2, .I r19.1, .I r19.2.1, .I r19.2.2.1, .I r19.2.2.2.1, v23, v4] 40 (0, 0))], [(b9, .cells #[.I a0.1, .I a0.2.1.1, .I (a0.2.1.2.1.getD 0 0), .I (a0.2.1.2.1.getD 1 0), .I (a0.2.1.2.1.getD 2 0), .I (a0.2.1.2.1.getD 3 0), .I (a0.2.1.2.1.getD 4 0), .I (a0.2.1.2.1.getD 5 0), v1, v2, .string a0.2.1.t4.1, .string a0.2.1.t4.2, .I a0.2.2.1.1, .I a0.2.2.1.2.1, .I a0.2.2.1.2.2.1, .I a0.2.2.1.2.2.2.1, v3, v4] 31 (0, 0))]] rfl ?_
 refine st_end ?_
 obtain rfl := Eq.symm h
 exact st_retC (gs' := []) [.agg #[.I a0.1, .I r11.1, .I (r11.2.1.getD 0 0), .I (r11.2.1.getD 1 0), .I (r11.2.1.getD 2 0), .I (r11.2.1.getD 3 0), .I (r11.2.1.getD 4 0), .I (r11.2.1.getD 5 0), v15, v16, .string r11.t4.1, .string r11.t4.2, .I r19.1, .I r19.2.1, .I r19.2.2.1, .I r19.2.2.2.1, v23, v4]] Tryz.func14 ⟨⟨_, _, _, _, rfl, mem_flat 0 rfl, fun w hw => cellOfN (vs := [.I a0.1, .I r11.1, .I (r11.2.1.getD 0 0), .I (r11.2.1.getD 1 0), .I (r11.2.1.getD 2 0), .I (r11.2.1.getD 3 0), .I (r11.2.1.getD 4 0), .I (r11.2.1.getD 5 0), v15, v16, .string r11.t4.1, .string r11.t4.2, .I r19.1, .I r19.2.1, .I r19.2.2.1, .I r19.2.2.2.1, v23, v4]) z_agg40 rfl w hw⟩, trivial⟩ (by simp) hl25 ⟨_, _, _, _, rfl, rfl, hs17, hs18, hs24, (hs8.up hl25)⟩
theorem ref01_Ints_ok {a0 : List Int} {a1 : List Int} {v1 : Value} {v3 : Value} {r : Bool} (h : ref01_Ints a0 a1 r) (σ : Sto) (hs2 : Sl (kI .i64) σ v1 a0) (hs4 : Sl (kI .i64) σ v3 a1) :
    Does Tryz.prog 31 [v1, v3] σ [] (fun v τ gs => gs = [] ∧ .bool r = v) := by
 refine call_of Tryz.func31 Tryz.ntmps31 rfl rfl (fun cs fs => ?_)
 refine Z 8 rfl ?_
 refine o_lenI rfl rfl rfl z_slT24 rfl hs2 ?_
 refine o_move rfl rfl rfl rfl ?_
 refine o_lenI rfl rfl rfl z_slT24 rfl hs4 ?_
 refine Z 2 rfl ?_
 refine st_if rfl h (fun h => ?_) (fun h => ?_)
 ·refine Z 4 rfl ?_
  obtain rfl := Eq.symm h
  exact st_ret (gs' := []) Tryz.func31 rfl (List.Sublist.refl _) (Sto.Le.refl _) ⟨rfl, rfl⟩
 ·refine Z 2 rfl ?_
  refine st_cut (fun ρ τ5 gs => ∃ (s5 : Unit), ref01_Ints_j1 s5 r ∧ σ.Le τ5 ∧ ESub ρ [(4, .bool false)] ∧ gs = []) ?_ (fun hk5 => ?_)
  ·rintro ρ5 τ5 gs5 ⟨s5, h, hl5, hρ, rfl⟩
   refine st_es hρ ?_
   refine Z 4 rfl ?_
   obtain rfl := Eq.symm h
   exact st_ret (gs' := []) Tryz.func31 rfl (List.Sublist.refl _) hl5 ⟨rfl, rfl⟩
  refine Z 4 rfl ?_
  obtain ⟨e6, hL6, hA6⟩ := h
  refine st_loop hL6 (fun (s6 : Int) ρ τ6 gs => σ.Le τ6 ∧ ESub ρ [(0, v1), (1, v3), (4, .bool false), (5, .I s6)] ∧ gs = []) ⟨Sto.Le.refl _, rfl, rfl⟩ ?_
  rintro s6 o6 h he6 ρ6 τ6 gs6 ⟨hl6, hρ, rfl⟩ hn6
  refine st_es hρ ?_
  refine Z 5 rfl ?_
  refine o_lenI rfl rfl rfl z_slT24 rfl (hs2.up hl6) ?_
  refine Z 2 rfl ?_
  refine st_if rfl h (fun h => ?_) (fun h => ?_)
  ·refine Z 4 rfl ?_
   obtain ⟨q7, hf8, q12, hf13, h⟩ := h
   refine st_draw 9 (dl [.v (v1), .v (.I s6), .t fun τ v => ∃ (b9 : Nat) (of10 : Nat) (vsb9 : List Value), (.pointer (some ⟨b9, of10, none⟩) : Value) = v ∧ CelN τ ⟨b9, of10, none⟩ vsb9 ∧ (kI .i64).rep τ vsb9 q7, .v (.I q7), .v (v3), .v (.I s6), .t fun τ v => ∃ (b14 : Nat) (of15 : Nat) (vsb14 : List Value), (.pointer (some ⟨b14, of15, none⟩) : Value) = v ∧ CelN τ ⟨b14, of15, none⟩ vsb14 ∧ (kI .i64).rep τ vsb14 q12, .v (.I q12), .v (.bool (!(decide (q7 = q12))))]) (fun _ _ => []) z_mix rfl (dl_mono ⟨fun _ _ _ hl ⟨b9, of10, vsb9, hv, hc11, hrepb9⟩ => ⟨b9, of10, vsb9, hv, hc11.up hl, Kd.mono _ hl hrepb9⟩, ⟨fun _ _ _ hl ⟨b14, of15, vsb14, hv, hc16, hrepb14⟩ => ⟨b14, of15, vsb14, hv, hc16.up hl, Kd.mono _ hl hrepb14⟩, trivial⟩⟩) (allB_cons (allB_cons (allB_cons (allB_cons (allB_cons (allB_cons (allB_cons (allB_cons (allB_cons allB_nil (p1 dA)) (p1 dA)) ?_) ?_) (p1 dA)) (p1 dA)) ?_) ?_) (p1 dA)) ?_
   ·intro ρ' τ pool rs hl hd hout hk
    obtain ⟨_, e0, rfl⟩ := hd 0 rfl
    obtain ⟨_, e1, rfl⟩ := hd 1 rfl
    refine o_index rfl rfl rfl z_slT24 rfl e0 (hs2.up (hl6.trans hl)) e1 hf8 (fun b9 of10 vsb9 hc11 hrepb9 => ?_)
    exact st_addNil (hk _ _ (Sto.Le.refl _) ⟨b9, of10, _, rfl, hc11, hrepb9⟩)
   ·intro ρ' τ pool rs hl hd hout hk
    obtain ⟨_, e2, b9, of10, vsb9, rfl, hc11, hrepb9⟩ := hd 2 rfl
    have hrepb9 := hrepb9
    obtain rfl := hrepb9
    refine o_loadI (v := .I q7) rfl rfl rfl z_sc3 e2 (hc11 0 _ rfl) ?_
    exact st_addNil (hk _ _ (Sto.Le.refl _) rfl)
   ·intro ρ' τ pool rs hl hd hout hk
    obtain ⟨_, e4, rfl⟩ := hd 4 rfl
    obtain ⟨_, e5, rfl⟩ := hd 5 rfl
    refine o_index rfl rfl rfl z_slT24 rfl e4 (hs4.up (hl6.trans hl)) e5 hf13 (fun b14 of15 vsb14 hc16 hrepb14 => ?_)
    exact st_addNil (hk _ _ (Sto.Le.refl _) ⟨b14, of15, _, rfl, hc16, hrepb14⟩)
   ·intro ρ' τ pool rs hl hd hout hk
    obtain ⟨_, e6, b14, of15, vsb14, rfl, hc16, hrepb14⟩ := hd 6 rfl
    have hrepb14 := hrepb14
    obtain rfl := hrepb14
    refine o_loadI (v := .I q12) rfl rfl rfl z_sc3 e6 (hc16 0 _ rfl) ?_
    exact st_addNil (hk _ _ (Sto.Le.refl _) rfl)
   intro ρ' τ17 vals hl17 hv hout
   refine st_ord [] _ rfl ?_
   refine st_env (ρ' := [(25, .bool (!(decide (q7 = q12)))), (0, v1), (1, v3), (4, .bool false), (5, .I s6)]) ⟨(lv1 hv 8 rfl rfl), (hout 0 rfl).trans rfl, (hout 1 rfl).trans rfl, (hout 4 rfl).trans rfl, (hout 5 rfl).trans rfl, trivial⟩ ?_
   refine st_end ?_
   refine st_if rfl h (fun h => ?_) (fun h => ?_)
   ·refine Z 4 rfl ?_
    obtain rfl := he6 _ h
    replace h := hA6
    obtain rfl := Eq.symm h
    exact st_ret (gs' := []) Tryz.func31 rfl (List.Sublist.refl _) (hl6.trans hl17) ⟨rfl, rfl⟩
   ·refine Z 7 rfl ?_
    exact hn6 _ _ _ _ h ⟨(hl6.trans hl17), rfl, rfl⟩
  ·refine st_exit rfl ?_
   obtain rfl := he6 _ h
   replace h := hA6
   exact hk5 _ _ _ ⟨(), h, hl6, rfl, rfl⟩
theorem ref01_Same_ok {a0 : List Int} {a1 : List Int} {v1 : Value} {v3 : Value} {r : Bool} (h : ref01_Same a0 a1 r) (σ : Sto) (hs2 : Sl (kI .u8) σ v1 a0) (hs4 : Sl (kI .u8) σ v3 a1) :
    Does Tryz.prog 70 [v1, v3] σ [] (fun v τ gs => gs = [] ∧ .bool r = v) := by
 refine call_of Tryz.func70 Tryz.ntmps70 rfl rfl (fun cs fs => ?_)
 refine Z 8 rfl ?_
 refine o_lenI rfl rfl rfl z_slT27 rfl hs2 ?_
 refine o_move rfl rfl rfl rfl ?_
 refine o_lenI rfl rfl rfl z_slT27 rfl hs4 ?_
 refine Z 2 rfl ?_
 refine st_if rfl h (fun h => ?_) (fun h => ?_)
 ·refine Z 4 rfl ?_
  obtain rfl := Eq.symm h
  exact st_ret (gs' := []) Tryz.func70 rfl (List.Sublist.refl _) (Sto.Le.refl _) ⟨rfl, rfl⟩
 ·refine Z 2 rfl ?_
  refine st_cut (fun ρ τ5 gs => ∃ (s5 : Unit), ref01_Same_j1 s5 r ∧ σ.Le τ5 ∧ ESub ρ [(4, .bool false)] ∧ gs = []) ?_ (fun hk5 => ?_)
  ·rintro ρ5 τ5 gs5 ⟨s5, h, hl5, hρ, rfl⟩
   refine st_es hρ ?_
   refine Z 4 rfl ?_
   obtain rfl := Eq.symm h
   exact st_ret (gs' := []) Tryz.func70 rfl (List.Sublist.refl _) hl5 ⟨rfl, rfl⟩
  refine Z 4 rfl ?_
  obtain ⟨e6, hL6, hA6⟩ := h
  refine st_loop hL6 (fun (s6 : Int) ρ τ6 gs => σ.Le τ6 ∧ ESub ρ [(0, v1), (1, v3), (4, .bool false), (5, .I s6)] ∧ gs = []) ⟨Sto.Le.refl _, rfl, rfl⟩ ?_
  rintro s6 o6 h he6 ρ6 τ6 gs6 ⟨hl6, hρ, rfl⟩ hn6
  refine st_es hρ ?_
  refine Z 5 rfl ?_
  refine o_lenI rfl rfl rfl z_slT27 rfl (hs2.up hl6) ?_
  refine Z 2 rfl ?_
  refine st_if rfl h (fun h => ?_) (fun h => ?_)
  ·refine Z 4 rfl ?_
   obtain ⟨q7, hf8, q12, hf13, h⟩ := h
   refine st_draw 9 (dl [.v (v1), .v (.I s6), .t fun τ v => ∃ (b9 : Nat) (of10 : Nat) (vsb9 : List Value), (.pointer (some ⟨b9, of10, none⟩) : Value) = v ∧ CelN τ ⟨b9, of10, none⟩ vsb9 ∧ (kI .u8).rep τ vsb9 q7, .v (.int .u8 q7), .v (v3), .v (.I s6), .t fun τ v => ∃ (b14 : Nat) (of15 : Nat) (vsb14 : List Value), (.pointer (some ⟨b14, of15, none⟩) : Value) = v ∧ CelN τ ⟨b14, of15, none⟩ vsb14 ∧ (kI .u8).rep τ vsb14 q12, .v (.int .u8 q12), .v (.bool (!(decide (q7 = q12))))]) (fun _ _ => []) z_mix rfl (dl_mono ⟨fun _ _ _ hl ⟨b9, of10, vsb9, hv, hc11, hrepb9⟩ => ⟨b9, of10, vsb9, hv, hc11.up hl, Kd.mono _ hl hrepb9⟩, ⟨fun _ _ _ hl ⟨b14, of15, vsb14, hv, hc16, hrepb14⟩ => ⟨b14, of15, vsb14, hv, hc16.up hl, Kd.mono _ hl hrepb14⟩, trivial⟩⟩) (allB_cons (allB_cons (allB_cons (allB_cons (allB_cons (allB_cons (allB_cons (allB_cons (allB_cons allB_nil (p1 dA)) (p1 dA)) ?_) ?_) (p1 dA)) (p1 dA)) ?_) ?_) (p1 dA)) ?_
   ·intro ρ' τ pool rs hl hd hout hk
    obtain ⟨_, e0, rfl⟩ := hd 0 rfl
    obtain ⟨_, e1, rfl⟩ := hd 1 rfl
    refine o_index rfl rfl rfl z_slT27 rfl e0 (hs2.up (hl6.trans hl)) e1 hf8 (fun b9 of10 vsb9 hc11 hrepb9 => ?_)
    exact st_addNil (hk _ _ (Sto.Le.refl _) ⟨b9, of10, _, rfl, hc11, hrepb9⟩)
   ·intro ρ' τ pool rs hl hd hout hk
    obtain ⟨_, e2, b9, of10, vsb9, rfl, hc11, hrepb9⟩ := hd 2 rfl
    have hrepb9 := hrepb9
    obtain rfl := hrepb9
    refine o_loadI (v := .int .u8 q7) rfl rfl rfl z_sc5 e2 (hc11 0 _ rfl) ?_
    exact st_addNil (hk _ _ (Sto.Le.refl _) rfl)
   ·intro ρ' τ pool rs hl hd hout hk
    obtain ⟨_, e4, rfl⟩ := hd 4 rfl
    obtain ⟨_, e5, rfl⟩ := hd 5 rfl
    refine o_index rfl rfl rfl z_slT27 rfl e4 (hs4.up (hl6.trans hl)) e5 hf13 (fun b14 of15 vsb14 hc16 hrepb14 => ?_)
    exact st_addNil (hk _ _ (Sto.Le.refl _) ⟨b14, of15, _, rfl, hc16, hrepb14⟩)
   ·intro ρ' τ pool rs hl hd hout hk
    obtain ⟨_, e6, b14, of15, vsb14, rfl, hc16, hrepb14⟩ := hd 6 rfl
    have hrepb14 := hrepb14
    obtain rfl := hrepb14
    refine o_loadI (v := .int .u8 q12) rfl rfl rfl z_sc5 e6 (hc16 0 _ rfl) ?_
    exact st_addNil (hk _ _ (Sto.Le.refl _) rfl)
   intro ρ' τ17 vals hl17 hv hout
   refine st_ord [] _ rfl ?_
   refine st_env (ρ' := [(25, .bool (!(decide (q7 = q12)))), (0, v1), (1, v3), (4, .bool false), (5, .I s6)]) ⟨(lv1 hv 8 rfl rfl), (hout 0 rfl).trans rfl, (hout 1 rfl).trans rfl, (hout 4 rfl).trans rfl, (hout 5 rfl).trans rfl, trivial⟩ ?_
   refine st_end ?_
   refine st_if rfl h (fun h => ?_) (fun h => ?_)
   ·refine Z 4 rfl ?_
    obtain rfl := he6 _ h
    replace h := hA6
    obtain rfl := Eq.symm h
    exact st_ret (gs' := []) Tryz.func70 rfl (List.Sublist.refl _) (hl6.trans hl17) ⟨rfl, rfl⟩
   ·refine Z 7 rfl ?_
    exact hn6 _ _ _ _ h ⟨(hl6.trans hl17), rfl, rfl⟩
  ·refine st_exit rfl ?_
   obtain rfl := he6 _ h
   replace h := hA6
   exact hk5 _ _ _ ⟨(), h, hl6, rfl, rfl⟩
theorem ref26_Same_ok {a0 : TyI} {a1 : TyI} {v1 : Value} {v3 : Value} {r : Bool} (h : ref26_Same a0 a1 r) (σ : Sto) (hs2 : Sl (kI .u8) σ v1 a0.t4) (hs4 : Sl (kI .u8) σ v3 a1.t4) :
    Does Tryz.prog 30 [.agg [.I a0.1, .I a0.2.1, .I a0.2.2.1, .I a0.2.2.2.1, v1].toArray, .agg [.I a1.1, .I a1.2.1, .I a1.2.2.1, .I a1.2.2.2.1, v3].toArray] σ [] (fun v τ gs => gs = [] ∧ .bool r = v) := by
 refine call_of Tryz.func30 Tryz.ntmps30 rfl rfl (fun cs fs => ?_)
 refine Z 2 rfl ?_
 refine o_box (cs := [.I a0.1, .I a0.2.1, .I a0.2.2.1, .I a0.2.2.2.1, v1]) rfl rfl rfl rfl rfl (fun b5 => ?_)
 refine o_box (cs := [.I a1.1, .I a1.2.1, .I a1.2.2.1, .I a1.2.2.2.1, v3]) rfl rfl rfl rfl rfl (fun b6 => ?_)
 refine Z 3 rfl ?_
 refine st_cut (fun ρ τ7 gs => ∃ (s7 : Bool), ref26_Same_j1 s7 r ∧ σ.Le τ7 ∧ ESub ρ [(4, .bool s7)] ∧ gs = []) ?_ (fun hk7 => ?_)
 ·rintro ρ7 τ7 gs7 ⟨s7, h, hl7, hρ, rfl⟩
  refine st_es hρ ?_
  obtain rfl := Eq.symm h
  exact st_ret (gs' := []) Tryz.func30 rfl (List.Sublist.refl _) hl7 ⟨rfl, rfl⟩
 refine ZZ 6 [1, 0] rfl rfl ?_
 refine o_mif rfl rfl rfl rfl h (fun h => ?_) (fun h => ?_)
 ·refine ZZ 6 [1, 0] rfl rfl ?_
  refine o_mif rfl rfl rfl rfl h (fun h => ?_) (fun h => ?_)
  ·refine ZZ 6 [1, 0] rfl rfl ?_
   refine o_mif rfl rfl rfl rfl h (fun h => ?_) (fun h => ?_)
   ·refine ZZ 6 [1, 0] rfl rfl ?_
    refine o_mif rfl rfl rfl rfl h (fun h => ?_) (fun h => ?_)
    ·refine ZZ 4 [1, 0] rfl rfl ?_
     obtain ⟨r8, hr9, h⟩ := h
     refine st_call (foot := []) rfl rfl rfl rfl rfl rfl (callV_fn z_en70 (ref01_Same_ok hr9 σ hs2 hs4)) ?_
     rintro vτ10 τ10 gsτ10 hl11 ⟨rfl, rfl⟩
     refine Z 3 rfl ?_
     refine st_ord [] _ rfl ?_
     exact hk7 _ _ _ ⟨r8, h, hl11, rfl, rfl⟩
    ·refine Z 8 rfl ?_
     refine st_ord [] _ rfl ?_
     exact hk7 _ _ _ ⟨false, h, (Sto.Le.refl _), rfl, rfl⟩
   ·refine Z 15 rfl ?_
    refine st_ord [] _ rfl ?_
    exact hk7 _ _ _ ⟨false, h, (Sto.Le.refl _), rfl, rfl⟩
  ·refine Z 22 rfl ?_
   refine st_ord [] _ rfl ?_
   exact hk7 _ _ _ ⟨false, h, (Sto.Le.refl _), rfl, rfl⟩
 ·refine Z 29 rfl ?_
  refine st_ord [] _ rfl ?_
  exact hk7 _ _ _ ⟨false, h, (Sto.Le.refl _), rfl, rfl⟩
theorem ref17_Same_ok {a0 : TyR} {a1 : TyR} {v1 : Value} {v2 : Value} {v5 : Value} {v6 : Value} {r : Bool} (h : ref17_Same a0 a1 r) (σ : Sto) (hs3 : Sl (kA .i64 2) σ v1 a0.2.2.1) (hs4 : Sl (kI .i64) σ v2 a0.2.2.2.1) (hs7 : Sl (kA .i64 2) σ v5 a1.2.2.1) (hs8 : Sl (kI .i64) σ v6 a1.2.2.2.1) :
    Does Tryz.prog 29 [.agg [.I a0.1, .I (a0.2.1.getD 0 0), .I (a0.2.1.getD 1 0), .I (a0.2.1.getD 2 0), .I (a0.2.1.getD 3 0), .I (a0.2.1.getD 4 0), .I (a0.2.1.getD 5 0), v1, v2, .string a0.t4.1, .string a0.t4.2].toArray, .agg [.I a1.1, .I (a1.2.1.getD 0 0), .I (a1.2.1.getD 1 0), .I (a1.2.1.getD 2 0), .I (a1.2.1.getD 3 0), .I (a1.2.1.getD 4 0), .I (a1.2.1.getD 5 0), v5, v6, .string a1.t4.1, .string a1.t4.2].toArray] σ [] (fun v τ gs => gs = [] ∧ .bool r = v) := by
 refine call_of Tryz.func29 Tryz.ntmps29 rfl rfl (fun cs fs => ?_)
 refine Z 2 rfl ?_
 refine o_box (cs := [.I a0.1, .I (a0.2.1.getD 0 0), .I (a0.2.1.getD 1 0), .I (a0.2.1.getD 2 0), .I (a0.2.1.getD 3 0), .I (a0.2.1.getD 4 0), .I (a0.2.1.getD 5 0), v1, v2, .string a0.t4.1, .string a0.t4.2]) rfl rfl rfl rfl rfl (fun b9 => ?_)
 refine o_box (cs := [.I a1.1, .I (a1.2.1.getD 0 0), .I (a1.2.1.getD 1 0), .I (a1.2.1.getD 2 0), .I (a1.2.1.getD 3 0), .I (a1.2.1.getD 4 0), .I (a1.2.1.getD 5 0), v5, v6, .string a1.t4.1, .string a1.t4.2]) rfl rfl rfl rfl rfl (fun b10 => ?_)
 refine Z 4 rfl ?_
 refine st_cut (fun ρ τ11 gs => ∃ (s11 : Bool), ref17_Same_j1 a0 a1 s11 r ∧ σ.Le τ11 ∧ ESub ρ [(2, .Pb b9), (3, .Pb b10), (4, .bool false), (48, .bool s11)] ∧ gs = [[(b9, .cells #[.I a0.1, .I (a0.2.1.getD 0 0), .I (a0.2.1.getD 1 0), .I (a0.2.1.getD 2 0), .I (a0.2.1.getD 3 0), .I (a0.2.1.getD 4 0), .I (a0.2.1.getD 5 0), v1, v2, .string a0.t4.1, .string a0.t4.2] 37 (0, 0))], [(b10, .cells #[.I a1.1, .I (a1.2.1.getD 0 0), .I (a1.2.1.getD 1 0), .I (a1.2.1.getD 2 0), .I (a1.2.1.getD 3 0), .I (a1.2.1.getD 4 0), .I (a1.2.1.getD 5 0), v5, v6, .string a1.t4.1, .string a1.t4.2] 37 (0, 0))]]) ?_ (fun hk11 => ?_)
 ·rintro ρ11 τ11 gs11 ⟨s11, h, hl11, hρ, rfl⟩
  refine st_es hρ ?_
  refine st_if rfl h (fun h => ?_) (fun h => ?_)
  ·refine Z 4 rfl ?_
   refine st_ord [] _ rfl ?_
   obtain rfl := Eq.symm h
   exact st_ret (gs' := []) Tryz.func29 rfl (List.Sublist.refl _) hl11 ⟨rfl, rfl⟩
  ·refine Z 2 rfl ?_
   refine st_cut (fun ρ τ12 gs => ∃ (s12 : Unit), ref17_Same_j2 s12 r ∧ τ11.Le τ12 ∧ ESub ρ [(4, .bool false)] ∧ gs = []) ?_ (fun hk12 => ?_)
   ·rintro ρ12 τ12 gs12 ⟨s12, h, hl12, hρ, rfl⟩
    refine st_es hρ ?_
    refine Z 4 rfl ?_
    obtain rfl := Eq.symm h
    exact st_ret (gs' := []) Tryz.func29 rfl (List.Sublist.refl _) (hl11.trans hl12) ⟨rfl, rfl⟩
   refine Z 4 rfl ?_
   obtain ⟨e13, hL13, hA13⟩ := h
   refine st_loop hL13 (fun (s13 : Int) ρ τ13 gs => τ11.Le τ13 ∧ ESub ρ [(2, .Pb b9), (3, .Pb b10), (4, .bool false), (5, .I s13)] ∧ gs = [[(b9, .cells #[.I a0.1, .I (a0.2.1.getD 0 0), .I (a0.2.1.getD 1 0), .I (a0.2.1.getD 2 0), .I (a0.2.1.getD 3 0), .I (a0.2.1.getD 4 0), .I (a0.2.1.getD 5 0), v1, v2, .string a0.t4.1, .string a0.t4.2] 37 (0, 0))], [(b10, .cells #[.I a1.1, .I (a1.2.1.getD 0 0), .I (a1.2.1.getD 1 0), .I (a1.2.1.getD 2 0), .I (a1.2.1.getD 3 0), .I (a1.2.1.getD 4 0), .I (a1.2.1.getD 5 0), v5, v6, .string a1.t4.1, .string a1.t4.2] 37 (0, 0))]]) ⟨Sto.Le.refl _, rfl, rfl⟩ ?_
   rintro s13 o13 h he13 ρ13 τ13 gs13 ⟨hl13, hρ, rfl⟩ hn13
   refine st_es hρ ?_
   refine ZZ 6 [0] rfl rfl ?_
   refine o_lenI rfl rfl rfl z_slT35 rfl (hs3.up (hl11.trans hl13)) ?_
   refine Z 2 rfl ?_
   refine st_if rfl h (fun h => ?_) (fun h => ?_)
   ·refine Z 4 rfl ?_
    obtain ⟨q14, hf15, q19, hf20, h⟩ := h
    refine st_draw 11 (dl [.v (.pointer (some ⟨b9, 7, none⟩)), .v (v1), .v (.I s13), .t fun τ v => ∃ (b16 : Nat) (of17 : Nat) (vsb16 : List Value), (.pointer (some ⟨b16, of17, none⟩) : Value) = v ∧ CelN τ ⟨b16, of17, none⟩ vsb16 ∧ (kA .i64 2).rep τ vsb16 q14, .v (.agg #[.I (q14.getD 0 0), .I (q14.getD 1 0)]), .v (.pointer (some ⟨b10, 7, none⟩)), .v (v5), .v (.I s13), .t fun τ v => ∃ (b21 : Nat) (of22 : Nat) (vsb21 : List Value), (.pointer (some ⟨b21, of22, none⟩) : Value) = v ∧ CelN τ ⟨b21, of22, none⟩ vsb21 ∧ (kA .i64 2).rep τ vsb21 q19, .v (.agg #[.I (q19.getD 0 0), .I (q19.getD 1 0)]), .v (.bool (!(eqN 2 0 q14 q19)))]) (fun _ _ => []) z_mix rfl (dl_mono ⟨fun _ _ _ hl ⟨b16, of17, vsb16, hv, hc18, hrepb16⟩ => ⟨b16, of17, vsb16, hv, hc18.up hl, Kd.mono _ hl hrepb16⟩, ⟨fun _ _ _ hl ⟨b21, of22, vsb21, hv, hc23, hrepb21⟩ => ⟨b21, of22, vsb21, hv, hc23.up hl, Kd.mono _ hl hrepb21⟩, trivial⟩⟩) (allB_cons (allB_cons (allB_cons (allB_cons (allB_cons (allB_cons (allB_cons (allB_cons (allB_cons (allB_cons (allB_cons allB_nil (p1 dA)) ?_) (p1 dA)) ?_) ?_) (p1 dA)) ?_) (p1 dA)) ?_) ?_) ?_) ?_
    ·intro ρ' τ pool rs hl hd hout hk
     obtain ⟨_, e0, rfl⟩ := hd 0 rfl
     refine o_load (j := 0) (v := v1) rfl rfl rfl z_sc35 e0 rfl rfl ?_
     exact st_addNil (hk _ _ (Sto.Le.refl _) rfl)
    ·intro ρ' τ pool rs hl hd hout hk
     obtain ⟨_, e1, rfl⟩ := hd 1 rfl
     obtain ⟨_, e2, rfl⟩ := hd 2 rfl
     refine o_index rfl rfl rfl z_slT35 rfl e1 (hs3.up ((hl11.trans hl13).trans hl)) e2 hf15 (fun b16 of17 vsb16 hc18 hrepb16 => ?_)
     exact st_addNil (hk _ _ (Sto.Le.refl _) ⟨b16, of17, _, rfl, hc18, hrepb16⟩)
    ·intro ρ' τ pool rs hl hd hout hk
     obtain ⟨_, e3, b16, of17, vsb16, rfl, hc18, hrepb16⟩ := hd 3 rfl
     have hrepb16 := hrepb16
     obtain rfl := hrepb16
     refine o_loadIN (vs := [.I (q14.getD 0 0), .I (q14.getD 1 0)]) rfl rfl rfl z_agg134 e3 rfl (celn_part 0 rfl hc18) ?_
     exact st_addNil (hk _ _ (Sto.Le.refl _) rfl)
    ·intro ρ' τ pool rs hl hd hout hk
     obtain ⟨_, e5, rfl⟩ := hd 5 rfl
     refine o_load (j := 1) (v := v5) rfl rfl rfl z_sc35 e5 rfl rfl ?_
     exact st_addNil (hk _ _ (Sto.Le.refl _) rfl)
    ·intro ρ' τ pool rs hl hd hout hk
     obtain ⟨_, e6, rfl⟩ := hd 6 rfl
     obtain ⟨_, e7, rfl⟩ := hd 7 rfl
     refine o_index rfl rfl rfl z_slT35 rfl e6 (hs7.up ((hl11.trans hl13).trans hl)) e7 hf20 (fun b21 of22 vsb21 hc23 hrepb21 => ?_)
     exact st_addNil (hk _ _ (Sto.Le.refl _) ⟨b21, of22, _, rfl, hc23, hrepb21⟩)
    ·intro ρ' τ pool rs hl hd hout hk
     obtain ⟨_, e8, b21, of22, vsb21, rfl, hc23, hrepb21⟩ := hd 8 rfl
     have hrepb21 := hrepb21
     obtain rfl := hrepb21
     refine o_loadIN (vs := [.I (q19.getD 0 0), .I (q19.getD 1 0)]) rfl rfl rfl z_agg134 e8 rfl (celn_part 0 rfl hc23) ?_
     exact st_addNil (hk _ _ (Sto.Le.refl _) rfl)
    ·intro ρ' τ pool rs hl hd hout hk
     obtain ⟨_, e4, rfl⟩ := hd 4 rfl
     obtain ⟨_, e9, rfl⟩ := hd 9 rfl
     refine o_aggEq (b := (eqN 2 0 q14 q19)) (e := (!(eqN 2 0 q14 q19))) rfl rfl rfl z_eqg134 e4 e9 (fun w => by exact eq_arr (xs := q14) (ys := q19) Tryz.underlying134 Tryz.underlying3 z_info3 z_cell3) rfl ?_
     exact st_addNil (hk _ _ (Sto.Le.refl _) rfl)
    intro ρ' τ24 vals hl24 hv hout
    refine st_ord [0, 0] _ rfl ?_
    refine st_env (ρ' := [(66, .bool (!(eqN 2 0 q14 q19))), (2, .Pb b9), (3, .Pb b10), (4, .bool false), (5, .I s13)]) ⟨(lv1 hv 10 rfl rfl), (hout 2 rfl).trans rfl, (hout 3 rfl).trans rfl, (hout 4 rfl).trans rfl, (hout 5 rfl).trans rfl, trivial⟩ ?_
    refine st_end ?_
    refine st_if rfl h (fun h => ?_) (fun h => ?_)
    ·refine Z 4 rfl ?_
     refine st_ord [] _ rfl ?_
     obtain rfl := he13 _ h
     replace h := hA13
     obtain rfl := Eq.symm h
     exact st_ret (gs' := []) Tryz.func29 rfl (List.Sublist.refl _) ((hl11.trans hl13).trans hl24) ⟨rfl, rfl⟩
    ·refine Z 7 rfl ?_
     exact hn13 _ _ _ _ h ⟨(hl13.trans hl24), rfl, rfl⟩
   ·refine st_exit rfl ?_
    obtain rfl := he13 _ h
    replace h := hA13
    refine st_ord [] _ rfl ?_
    exact hk12 _ _ _ ⟨(), h, hl13, rfl, rfl⟩
 refine ZZ 6 [1, 0] rfl rfl ?_
 refine o_mif rfl rfl rfl rfl h (fun h => ?_) (fun h => ?_)
 ·refine Z 38 rfl ?_
  refine st_ord [1, 0] _ rfl ?_
  exact hk11 _ _ _ ⟨true, h, (Sto.Le.refl _), rfl, rfl⟩
 ·refine ZZ 4 [1, 0] rfl rfl ?_
  refine o_aggEq (b := (eqN 6 0 a0.2.1 a1.2.1)) (e := (!(eqN 6 0 a0.2.1 a1.2.1))) rfl rfl rfl z_eqg22 rfl rfl (fun w => by exact eq_arr (xs := a0.2.1) (ys := a1.2.1) Tryz.underlying22 Tryz.underlying3 z_info3 z_cell3) rfl ?_
  refine o_pick rfl rfl rfl rfl rfl ?_
  refine o_mif rfl rfl rfl rfl h (fun h => ?_) (fun h => ?_)
  ·refine Z 31 rfl ?_
   refine st_ord [1, 0] _ rfl ?_
   exact hk11 _ _ _ ⟨true, h, (Sto.Le.refl _), rfl, rfl⟩
  ·refine ZZ 2 [1] rfl rfl ?_
   refine o_lenI rfl rfl rfl z_slT35 rfl hs3 ?_
   refine ZZ 2 [0] rfl rfl ?_
   refine o_lenI rfl rfl rfl z_slT35 rfl hs7 ?_
   refine Z 2 rfl ?_
   refine o_mif rfl rfl rfl rfl h (fun h => ?_) (fun h => ?_)
   ·refine Z 22 rfl ?_
    refine st_ord [1, 0] _ rfl ?_
    exact hk11 _ _ _ ⟨true, h, (Sto.Le.refl _), rfl, rfl⟩
   ·refine ZZ 4 [1, 0] rfl rfl ?_
    obtain ⟨r27, hr28, h⟩ := h
    refine st_call (foot := []) rfl rfl rfl rfl rfl rfl (callV_fn z_en31 (ref01_Ints_ok hr28 σ hs4 hs8)) ?_
    rintro vτ29 τ29 gsτ29 hl30 ⟨rfl, rfl⟩
    refine Z 2 rfl ?_
    refine o_mif rfl rfl rfl rfl h (fun h => ?_) (fun h => ?_)
    ·refine Z 14 rfl ?_
     refine st_ord [1, 0] _ rfl ?_
     exact hk11 _ _ _ ⟨true, h, hl30, rfl, rfl⟩
    ·refine ZZ 6 [1, 0] rfl rfl ?_
     refine o_mif rfl rfl rfl rfl h (fun h => ?_) (fun h => ?_)
     ·refine Z 7 rfl ?_
      refine st_ord [1, 0] _ rfl ?_
      exact hk11 _ _ _ ⟨true, h, hl30, rfl, rfl⟩
     ·refine ZZ 7 [1, 0] rfl rfl ?_
      refine st_ord [1, 0] _ rfl ?_
      exact hk11 _ _ _ ⟨(!(decide (a0.t4.2 = a1.t4.2))), h, hl30, rfl, rfl⟩
theorem law27_same_ok {a0 : TyS} {a1 : TyZ} {v1 : Value} {v2 : Value} {v3 : Value} {v4 : Value} {v9 : Value} {v10 : Value} {v11 : Value} {v12 : Value} {r : Bool} (h : law27_same a0 a1 r) (σ : Sto) (hs5 : Sl (kP (kI .i64) (kI .i64)) σ v1 a0.2.1.2.2.1) (hs6 : Sl (kI .i64) σ v2 a0.2.1.2.2.2.1) (hs7 : Sl (kI .u8) σ v3 a0.2.2.1.t4) (hs8 : Sl (kI .i64) σ v4 a0.2.2.2) (hs13 : Sl (kA .i64 2) σ v9 a1.2.1.2.2.1) (hs14 : Sl (kI .i64) σ v10 a1.2.1.2.2.2.1) (hs15 : Sl (kI .u8) σ v11 a1.2.2.1.t4) (hs16 : Sl (kI .i64) σ v12 a1.2.2.2) :
    Does Tryz.prog 10 [.agg [.I a0.1, .I a0.2.1.1, .I (a0.2.1.2.1.getD 0 0), .I (a0.2.1.2.1.getD 1 0), .I (a0.2.1.2.1.getD 2 0), .I (a0.2.1.2.1.getD 3 0), .I (a0.2.1.2.1.getD 4 0), .I (a0.2.1.2.1.getD 5 0), v1, v2, .string a0.2.1.t4.1, .string a0.2.1.t4.2, .I a0.2.2.1.1, .I a0.2.2.1.2.1, .I a0.2.2.1.2.2.1, .I a0.2.2.1.2.2.2.1, v3, v4].toArray, .agg [.I a1.1, .I a1.2.1.1, .I (a1.2.1.2.1.getD 0 0), .I (a1.2.1.2.1.getD 1 0), .I (a1.2.1.2.1.getD 2 0), .I (a1.2.1.2.1.getD 3 0), .I (a1.2.1.2.1.getD 4 0), .I (a1.2.1.2.1.getD 5 0), v9, v10, .string a1.2.1.t4.1, .string a1.2.1.t4.2, .I a1.2.2.1.1, .I a1.2.2.1.2.1, .I a1.2.2.1.2.2.1, .I a1.2.2.1.2.2.2.1, v11, v12].toArray] σ [] (fun v τ gs => gs = [] ∧ .bool r = v) := by
 refine call_of Tryz.func10 Tryz.ntmps10 rfl rfl (fun cs fs => ?_)
 refine Z 2 rfl ?_
 refine o_box (cs := [.I a0.1, .I a0.2.1.1, .I (a0.2.1.2.1.getD 0 0), .I (a0.2.1.2.1.getD 1 0), .I (a0.2.1.2.1.getD 2 0), .I (a0.2.1.2.1.getD 3 0), .I (a0.2.1.2.1.getD 4 0), .I (a0.2.1.2.1.getD 5 0), v1, v2, .string a0.2.1.t4.1, .string a0.2.1.t4.2, .I a0.2.2.1.1, .I a0.2.2.1.2.1, .I a0.2.2.1.2.2.1, .I a0.2.2.1.2.2.2.1, v3, v4]) rfl rfl rfl rfl rfl (fun b17 => ?_)
 refine o_box (cs := [.I a1.1, .I a1.2.1.1, .I (a1.2.1.2.1.getD 0 0), .I (a1.2.1.2.1.getD 1 0), .I (a1.2.1.2.1.getD 2 0), .I (a1.2.1.2.1.getD 3 0), .I (a1.2.1.2.1.getD 4 0), .I (a1.2.1.2.1.getD 5 0), v9, v10, .string a1.2.1.t4.1, .string a1.2.1.t4.2, .I a1.2.2.1.1, .I a1.2.2.1.2.1, .I a1.2.2.1.2.2.1, .I a1.2.2.1.2.2.2.1, v11, v12]) rfl rfl rfl rfl rfl (fun b18 => ?_)
 refine ZZ 5 [1] rfl rfl ?_
 obtain ⟨r19, hr20, h⟩ := h
 refine st_call (foot := []) rfl rfl rfl rfl rfl rfl (callV_fn z_en14 (law27_Of_ok hr20 σ hs5 hs6 hs7 hs8)) ?_
 rintro vτ21 τ21 gsτ21 hl22 ⟨v23, v24, v25, v26, rfl, rfl, hs27, hs28, hs29, hs30⟩
 refine o_alloc rfl rfl rfl z_zero40 (fun b31 => ?_)
 refine o_store (j := 0) (vs := [.I r19.1, .I r19.2.1.1, .I (r19.2.1.2.1.getD 0 0), .I (r19.2.1.2.1.getD 1 0), .I (r19.2.1.2.1.getD 2 0), .I (r19.2.1.2.1.getD 3 0), .I (r19.2.1.2.1.getD 4 0), .I (r19.2.1.2.1.getD 5 0), v23, v24, .string r19.2.1.t4.1, .string r19.2.1.t4.2, .I r19.2.2.1.1, .I r19.2.2.1.2.1, .I r19.2.2.1.2.2.1, .I r19.2.2.1.2.2.2.1, v25, v26]) (cs' := [.I r19.1, .I r19.2.1.1, .I (r19.2.1.2.1.getD 0 0), .I (r19.2.1.2.1.getD 1 0), .I (r19.2.1.2.1.getD 2 0), .I (r19.2.1.2.1.getD 3 0), .I (r19.2.1.2.1.getD 4 0), .I (r19.2.1.2.1.getD 5 0), v23, v24, .string r19.2.1.t4.1, .string r19.2.1.t4.2, .I r19.2.2.1.1, .I r19.2.2.1.2.1, .I r19.2.2.1.2.2.1, .I r19.2.2.1.2.2.2.1, v25, v26]) rfl rfl rfl z_size40 rfl rfl rfl (ones_cons rfl (ones_cons rfl (ones_cons rfl (ones_cons rfl (ones_cons rfl (ones_cons rfl (ones_cons rfl (ones_cons rfl (ones_cons hs27.one' (ones_cons hs28.one' (ones_cons rfl (ones_cons rfl (ones_cons rfl (ones_cons rfl (ones_cons rfl (ones_cons rfl (ones_cons hs29.one' (ones_cons hs30.one' ones_nil)))))))))))))))))) rfl rfl rfl ?_
 refine st_gs [[(b31, .cells #[.I r19.1, .I r19.2.1.1, .I (r19.2.1.2.1.getD 0 0), .I (r19.2.1.2.1.getD 1 0), .I (r19.2.1.2.1.getD 2 0), .I (r19.2.1.2.1.getD 3 0), .I (r19.2.1.2.1.getD 4 0), .I (r19.2.1.2.1.getD 5 0), v23, v24, .string r19.2.1.t4.1, .string r19.2.1.t4.2, .I r19.2.2.1.1, .I r19.2.2.1.2.1, .I r19.2.2.1.2.2.1, .I r19.2.2.1.2.2.2.1, v25, v26] 40 (0, 0))], [(b18, .cells #[.I a1.1, .I a1.2.1.1, .I (a1.2.1.2.1.getD 0 0), .I (a1.2.1.2.1.getD 1 0), .I (a1.2.1.2.1.getD 2 0), .I (a1.2.1.2.1.getD 3 0), .I (a1.2.1.2.1.getD 4 0), .I (a1.2.1.2.1.getD 5 0), v9, v10, .string a1.2.1.t4.1, .string a1.2.1.t4.2, .I a1.2.2.1.1, .I a1.2.2.1.2.1, .I a1.2.2.1.2.2.1, .I a1.2.2.1.2.2.2.1, v11, v12] 40 (0, 0))], [(b17, .cells #[.I a0.1, .I a0.2.1.1, .I (a0.2.1.2.1.getD 0 0), .I (a0.2.1.2.1.getD 1 0), .I (a0.2.1.2.1.getD 2 0), .I (a0.2.1.2.1.getD 3 0), .I (a0.2.1.2.1.getD 4 0), .I (a0.2.1.2.1.getD 5 0), v1, v2, .string a0.2.1.t4.1, .string a0.2.1.t4.2, .I a0.2.2.1.1, .I a0.2.2.1.2.1, .I a0.2.2.1.2.2.1, .I a0.2.2.1.2.2.2.1, v3, v4] 31 (0, 0))]] rfl ?_
 refine Z 2 rfl ?_
 refine st_cut (fun ρ τ32 gs => ∃ (s32 : Bool), law27_same_j1 s32 r ∧ τ21.Le τ32 ∧ ESub ρ [(4, .bool s32)] ∧ gs = []) ?_ (fun hk32 => ?_)
 ·rintro ρ32 τ32 gs32 ⟨s32, h, hl32, hρ, rfl⟩
  refine st_es hρ ?_
  obtain rfl := Eq.symm h
  exact st_ret (gs' := []) Tryz.func10 rfl (List.Sublist.refl _) (hl22.trans hl32) ⟨rfl, rfl⟩
 refine ZZ 6 [0, 1] rfl rfl ?_
 refine o_mif rfl rfl rfl rfl h (fun h => ?_) (fun h => ?_)
 ·refine ZZ 3 [0] rfl rfl ?_
  refine o_mif rfl rfl rfl rfl h (fun h => ?_) (fun h => ?_)
  ·refine ZZ 11 [0] rfl rfl ?_
   refine o_mif rfl rfl rfl rfl h (fun h => ?_) (fun h => ?_)
   ·refine ZZ 11 [0] rfl rfl ?_
    refine o_mif rfl rfl rfl rfl h (fun h => ?_) (fun h => ?_)
    ·refine Z 9 rfl ?_
     refine st_ord [] _ rfl ?_
     exact hk32 _ _ _ ⟨true, h, (Sto.Le.refl _), rfl, rfl⟩
    ·refine ZZ 4 [0, 1] rfl rfl ?_
     obtain ⟨r33, hr34, h⟩ := h
     refine st_call (foot := []) rfl rfl rfl rfl rfl rfl (callV_fn z_en31 (ref01_Ints_ok hr34 τ21 hs30 (hs16.up hl22))) ?_
     rintro vτ35 τ35 gsτ35 hl36 ⟨rfl, rfl⟩
     refine Z 4 rfl ?_
     refine st_ord [] _ rfl ?_
     exact hk32 _ _ _ ⟨r33, h, hl36, rfl, rfl⟩
   ·refine ZZ 4 [0, 1] rfl rfl ?_
    obtain ⟨r37, hr38, h⟩ := h
    refine st_call (foot := []) rfl rfl rfl rfl rfl rfl (callV_fn z_en30 (ref26_Same_ok hr38 τ21 hs29 (hs15.up hl22))) ?_
    rintro vτ39 τ39 gsτ39 hl40 ⟨rfl, rfl⟩
    refine Z 2 rfl ?_
    refine o_mif rfl rfl rfl rfl h (fun h => ?_) (fun h => ?_)
    ·refine ZZ 3 [0] rfl rfl ?_
     refine o_mif rfl rfl rfl rfl h (fun h => ?_) (fun h => ?_)
     ·refine Z 9 rfl ?_
      refine st_ord [] _ rfl ?_
      exact hk32 _ _ _ ⟨true, h, hl40, rfl, rfl⟩
     ·refine ZZ 4 [0, 1] rfl rfl ?_
      obtain ⟨r41, hr42, h⟩ := h
      refine st_call (foot := []) rfl rfl rfl rfl rfl rfl (callV_fn z_en31 (ref01_Ints_ok hr42 τ39 (hs30.up hl40) (hs16.up (hl22.trans hl40)))) ?_
      rintro vτ43 τ43 gsτ43 hl44 ⟨rfl, rfl⟩
      refine Z 4 rfl ?_
      refine st_ord [] _ rfl ?_
      exact hk32 _ _ _ ⟨r41, h, (hl40.trans hl44), rfl, rfl⟩
    ·refine Z 13 rfl ?_
     refine st_ord [] _ rfl ?_
     exact hk32 _ _ _ ⟨false, h, hl40, rfl, rfl⟩
  ·refine ZZ 4 [0, 1] rfl rfl ?_
   obtain ⟨r45, hr46, h⟩ := h
   refine st_call (foot := []) rfl rfl rfl rfl rfl rfl (callV_fn z_en29 (ref17_Same_ok hr46 τ21 hs27 hs28 (hs13.up hl22) (hs14.up hl22))) ?_
   rintro vτ47 τ47 gsτ47 hl48 ⟨rfl, rfl⟩
   refine Z 2 rfl ?_
   refine o_mif rfl rfl rfl rfl h (fun h => ?_) (fun h => ?_)
   ·refine ZZ 3 [0] rfl rfl ?_
    refine o_mif rfl rfl rfl rfl h (fun h => ?_) (fun h => ?_)
    ·refine ZZ 11 [0] rfl rfl ?_
     refine o_mif rfl rfl rfl rfl h (fun h => ?_) (fun h => ?_)
     ·refine Z 9 rfl ?_
      refine st_ord [] _ rfl ?_
      exact hk32 _ _ _ ⟨true, h, hl48, rfl, rfl⟩
     ·refine ZZ 4 [0, 1] rfl rfl ?_
      obtain ⟨r49, hr50, h⟩ := h
      refine st_call (foot := []) rfl rfl rfl rfl rfl rfl (callV_fn z_en31 (ref01_Ints_ok hr50 τ47 (hs30.up hl48) (hs16.up (hl22.trans hl48)))) ?_
      rintro vτ51 τ51 gsτ51 hl52 ⟨rfl, rfl⟩
      refine Z 4 rfl ?_
      refine st_ord [] _ rfl ?_
      exact hk32 _ _ _ ⟨r49, h, (hl48.trans hl52), rfl, rfl⟩
    ·refine ZZ 4 [0, 1] rfl rfl ?_
     obtain ⟨r53, hr54, h⟩ := h
     refine st_call (foot := []) rfl rfl rfl rfl rfl rfl (callV_fn z_en30 (ref26_Same_ok hr54 τ47 (hs29.up hl48) (hs15.up (hl22.trans hl48)))) ?_
     rintro vτ55 τ55 gsτ55 hl56 ⟨rfl, rfl⟩
     refine Z 2 rfl ?_
     refine o_mif rfl rfl rfl rfl h (fun h => ?_) (fun h => ?_)
     ·refine ZZ 3 [0] rfl rfl ?_
      refine o_mif rfl rfl rfl rfl h (fun h => ?_) (fun h => ?_)
      ·refine Z 9 rfl ?_
       refine st_ord [] _ rfl ?_
       exact hk32 _ _ _ ⟨true, h, (hl48.trans hl56), rfl, rfl⟩
      ·refine ZZ 4 [0, 1] rfl rfl ?_
       obtain ⟨r57, hr58, h⟩ := h
       refine st_call (foot := []) rfl rfl rfl rfl rfl rfl (callV_fn z_en31 (ref01_Ints_ok hr58 τ55 (hs30.up (hl48.trans hl56)) (hs16.up ((hl22.trans hl48).trans hl56)))) ?_
       rintro vτ59 τ59 gsτ59 hl60 ⟨rfl, rfl⟩
       refine Z 4 rfl ?_
       refine st_ord [] _ rfl ?_
       exact hk32 _ _ _ ⟨r57, h, ((hl48.trans hl56).trans hl60), rfl, rfl⟩
     ·refine Z 13 rfl ?_
      refine st_ord [] _ rfl ?_
      exact hk32 _ _ _ ⟨false, h, (hl48.trans hl56), rfl, rfl⟩
   ·refine Z 25 rfl ?_
    refine st_ord [] _ rfl ?_
    exact hk32 _ _ _ ⟨false, h, hl48, rfl, rfl⟩
 ·refine Z 37 rfl ?_
  refine st_ord [] _ rfl ?_
  exact hk32 _ _ _ ⟨false, h, (Sto.Le.refl _), rfl, rfl⟩
theorem law27_ScriptParses_ok {a0 : ByteArray} {r : Bool} (h : law27_ScriptParses a0 r) (σ : Sto) (hT : Tab Tryz.prog σ) (hE : Errs Tryz.prog σ) :
    Does Tryz.prog 3 [.string a0] σ [] (fun v τ gs => gs = [] ∧ .bool r = v) := by
 refine call_of Tryz.func3 Tryz.ntmps3 rfl rfl (fun cs fs => ?_)
 refine Z 10 rfl ?_
 obtain ⟨hf1, hf2, h⟩ := h
 refine o_sliceSh rfl rfl rfl Tryz.underlying9 rfl rfl hf1 hf2 ?_
 refine Z 5 rfl ?_
 obtain ⟨r3, hr4, h⟩ := h
 refine st_call (foot := []) rfl rfl rfl rfl rfl rfl (callV_fn z_en7 (script_Parse_ok hr4 σ hT hE)) ?_
 rintro vτ5 τ5 gsτ5 hl6 ⟨v7, v8, v9, v10, rfl, rfl, hs11, hs12, hs13, hs14⟩
 refine Z 3 rfl ?_
 refine o_alloc rfl rfl rfl z_zero31 (fun b15 => ?_)
 refine o_store (j := 0) (vs := [.I r3.1.1, .I r3.1.2.1.1, .I (r3.1.2.1.2.1.getD 0 0), .I (r3.1.2.1.2.1.getD 1 0), .I (r3.1.2.1.2.1.getD 2 0), .I (r3.1.2.1.2.1.getD 3 0), .I (r3.1.2.1.2.1.getD 4 0), .I (r3.1.2.1.2.1.getD 5 0), v7, v8, .string r3.1.2.1.t4.1, .string r3.1.2.1.t4.2, .I r3.1.2.2.1.1, .I r3.1.2.2.1.2.1, .I r3.1.2.2.1.2.2.1, .I r3.1.2.2.1.2.2.2.1, v9, v10]) (cs' := [.I r3.1.1, .I r3.1.2.1.1, .I (r3.1.2.1.2.1.getD 0 0), .I (r3.1.2.1.2.1.getD 1 0), .I (r3.1.2.1.2.1.getD 2 0), .I (r3.1.2.1.2.1.getD 3 0), .I (r3.1.2.1.2.1.getD 4 0), .I (r3.1.2.1.2.1.getD 5 0), v7, v8, .string r3.1.2.1.t4.1, .string r3.1.2.1.t4.2, .I r3.1.2.2.1.1, .I r3.1.2.2.1.2.1, .I r3.1.2.2.1.2.2.1, .I r3.1.2.2.1.2.2.2.1, v9, v10]) rfl rfl rfl z_size31 rfl rfl rfl (ones_cons rfl (ones_cons rfl (ones_cons rfl (ones_cons rfl (ones_cons rfl (ones_cons rfl (ones_cons rfl (ones_cons rfl (ones_cons hs11.one' (ones_cons hs12.one' (ones_cons rfl (ones_cons rfl (ones_cons rfl (ones_cons rfl (ones_cons rfl (ones_cons rfl (ones_cons hs13.one' (ones_cons hs14.one' ones_nil)))))))))))))))))) rfl rfl rfl ?_
 refine st_gs [[(b15, .cells #[.I r3.1.1, .I r3.1.2.1.1, .I (r3.1.2.1.2.1.getD 0 0), .I (r3.1.2.1.2.1.getD 1 0), .I (r3.1.2.1.2.1.getD 2 0), .I (r3.1.2.1.2.1.getD 3 0), .I (r3.1.2.1.2.1.getD 4 0), .I (r3.1.2.1.2.1.getD 5 0), v7, v8, .string r3.1.2.1.t4.1, .string r3.1.2.1.t4.2, .I r3.1.2.2.1.1, .I r3.1.2.2.1.2.1, .I r3.1.2.2.1.2.2.1, .I r3.1.2.2.1.2.2.2.1, v9, v10] 31 (0, 0))]] rfl ?_
 refine Z 5 rfl ?_
 obtain ⟨r16, hr17, h⟩ := h
 refine st_call (foot := []) rfl rfl rfl rfl rfl rfl (callV_fn z_en8 (ref27_Parse_ok hr17 τ5)) ?_
 rintro vτ18 τ18 gsτ18 hl19 ⟨v20, v21, v22, v23, rfl, rfl, hs24, hs25, hs26, hs27⟩
 refine Z 3 rfl ?_
 refine o_alloc rfl rfl rfl z_zero40 (fun b28 => ?_)
 refine o_store (j := 0) (vs := [.I r16.1.1, .I r16.1.2.1.1, .I (r16.1.2.1.2.1.getD 0 0), .I (r16.1.2.1.2.1.getD 1 0), .I (r16.1.2.1.2.1.getD 2 0), .I (r16.1.2.1.2.1.getD 3 0), .I (r16.1.2.1.2.1.getD 4 0), .I (r16.1.2.1.2.1.getD 5 0), v20, v21, .string r16.1.2.1.t4.1, .string r16.1.2.1.t4.2, .I r16.1.2.2.1.1, .I r16.1.2.2.1.2.1, .I r16.1.2.2.1.2.2.1, .I r16.1.2.2.1.2.2.2.1, v22, v23]) (cs' := [.I r16.1.1, .I r16.1.2.1.1, .I (r16.1.2.1.2.1.getD 0 0), .I (r16.1.2.1.2.1.getD 1 0), .I (r16.1.2.1.2.1.getD 2 0), .I (r16.1.2.1.2.1.getD 3 0), .I (r16.1.2.1.2.1.getD 4 0), .I (r16.1.2.1.2.1.getD 5 0), v20, v21, .string r16.1.2.1.t4.1, .string r16.1.2.1.t4.2, .I r16.1.2.2.1.1, .I r16.1.2.2.1.2.1, .I r16.1.2.2.1.2.2.1, .I r16.1.2.2.1.2.2.2.1, v22, v23]) rfl rfl rfl z_size40 rfl rfl rfl (ones_cons rfl (ones_cons rfl (ones_cons rfl (ones_cons rfl (ones_cons rfl (ones_cons rfl (ones_cons rfl (ones_cons rfl (ones_cons hs24.one' (ones_cons hs25.one' (ones_cons rfl (ones_cons rfl (ones_cons rfl (ones_cons rfl (ones_cons rfl (ones_cons rfl (ones_cons hs26.one' (ones_cons hs27.one' ones_nil)))))))))))))))))) rfl rfl rfl ?_
 refine st_gs [[(b28, .cells #[.I r16.1.1, .I r16.1.2.1.1, .I (r16.1.2.1.2.1.getD 0 0), .I (r16.1.2.1.2.1.getD 1 0), .I (r16.1.2.1.2.1.getD 2 0), .I (r16.1.2.1.2.1.getD 3 0), .I (r16.1.2.1.2.1.getD 4 0), .I (r16.1.2.1.2.1.getD 5 0), v20, v21, .string r16.1.2.1.t4.1, .string r16.1.2.1.t4.2, .I r16.1.2.2.1.1, .I r16.1.2.2.1.2.1, .I r16.1.2.2.1.2.2.1, .I r16.1.2.2.1.2.2.2.1, v22, v23] 40 (0, 0))], [(b15, .cells #[.I r3.1.1, .I r3.1.2.1.1, .I (r3.1.2.1.2.1.getD 0 0), .I (r3.1.2.1.2.1.getD 1 0), .I (r3.1.2.1.2.1.getD 2 0), .I (r3.1.2.1.2.1.getD 3 0), .I (r3.1.2.1.2.1.getD 4 0), .I (r3.1.2.1.2.1.getD 5 0), v7, v8, .string r3.1.2.1.t4.1, .string r3.1.2.1.t4.2, .I r3.1.2.2.1.1, .I r3.1.2.2.1.2.1, .I r3.1.2.2.1.2.2.1, .I r3.1.2.2.1.2.2.2.1, v9, v10] 31 (0, 0))]] rfl ?_
 refine Z 3 rfl ?_
 refine st_cut (fun ρ τ29 gs => ∃ (s29 : Bool), law27_ScriptParses_j1 s29 r ∧ τ18.Le τ29 ∧ ESub ρ [(2, .bool s29)] ∧ gs = []) ?_ (fun hk29 => ?_)
 ·rintro ρ29 τ29 gs29 ⟨s29, h, hl29, hρ, rfl⟩
  refine st_es hρ ?_
  obtain rfl := Eq.symm h
  exact st_ret (gs' := []) Tryz.func3 rfl (List.Sublist.refl _) ((hl6.trans hl19).trans hl29) ⟨rfl, rfl⟩
 refine st_region ?_
 obtain ⟨r30, hr31, h⟩ := h
 refine st_call (foot := []) rfl rfl rfl rfl rfl rfl (callV_fn z_en9 (law27_known_ok hr31 τ18 (hT.up (hl6.trans hl19)))) ?_
 rintro vτ32 τ32 gsτ32 hl33 ⟨rfl, rfl⟩
 refine o_mif rfl rfl rfl rfl h (fun h => ?_) (fun h => ?_)
 ·refine Z 4 rfl ?_
  refine o_mif rfl rfl rfl rfl h (fun h => ?_) (fun h => ?_)
  ·refine ZZ 2 [1, 0] rfl rfl ?_
   obtain ⟨r34, hr35, h⟩ := h
   refine st_call (foot := []) rfl rfl rfl rfl rfl rfl (callV_fn z_en10 (law27_same_ok hr35 τ32 (hs11.up (hl19.trans hl33)) (hs12.up (hl19.trans hl33)) (hs13.up (hl19.trans hl33)) (hs14.up (hl19.trans hl33)) (hs24.up hl33) (hs25.up hl33) (hs26.up hl33) (hs27.up hl33))) ?_
   rintro vτ36 τ36 gsτ36 hl37 ⟨rfl, rfl⟩
   refine o_pick rfl rfl rfl rfl rfl ?_
   refine o_mif rfl rfl rfl rfl h (fun h => ?_) (fun h => ?_)
   ·refine Z 2 rfl ?_
    refine o_mif rfl rfl rfl rfl h (fun h => ?_) (fun h => ?_)
    ·refine Z 8 rfl ?_
     refine st_ord [] _ rfl ?_
     exact hk29 _ _ _ ⟨true, h, (hl33.trans hl37), rfl, rfl⟩
    ·refine ZZ 1 [1] rfl rfl ?_
     obtain ⟨r38, hr39, h⟩ := h
     refine st_call (foot := []) rfl rfl rfl rfl rfl rfl (callV_fn z_en11 (script_Line_ok hr39 τ36 (hs11.up ((hl19.trans hl33).trans hl37)) (hs12.up ((hl19.trans hl33).trans hl37)) (hs13.up ((hl19.trans hl33).trans hl37)) (hs14.up ((hl19.trans hl33).trans hl37)) (hT.up (((hl6.trans hl19).trans hl33).trans hl37)))) ?_
     rintro vτ40 τ40 gsτ40 hl41 ⟨rfl, rfl⟩
     refine Z 6 rfl ?_
     refine st_ord [] _ rfl ?_
     exact hk29 _ _ _ ⟨(decide (r38 = (a0.extract 0 (min (a0.size : Int) 600).toNat))), h, ((hl33.trans hl37).trans hl41), rfl, rfl⟩
   ·refine Z 11 rfl ?_
    refine st_ord [] _ rfl ?_
    exact hk29 _ _ _ ⟨false, h, (hl33.trans hl37), rfl, rfl⟩
  ·refine Z 16 rfl ?_
   refine st_ord [] _ rfl ?_
   exact hk29 _ _ _ ⟨false, h, hl33, rfl, rfl⟩
 ·refine Z 21 rfl ?_
  refine st_ord [] _ rfl ?_
  exact hk29 _ _ _ ⟨false, h, hl33, rfl, rfl⟩
end Go.Rel
