import Derived.Test.YtemehkcopcjekaaGreatDoorURel
import Derived.Test.YtemehkcopcjekaaGreatDoorUFacts
import Derived.Test.YtemehkcopcjekaaGreatDoorUWalk1
import Derived.Test.YtemehkcopcjekaaGreatDoorEngO
/-! The walks. -/
set_option linter.unusedVariables false
set_option linter.unusedSimpArgs false
set_option maxRecDepth 4000
set_option maxHeartbeats 4000000
namespace Go.Rel
open Go Go.Eng Go.Proofs Go.Proofs.Tryz
open Go.IntKind (i64 u8 u16 u32 u64)
theorem ref27_Parse_ok {a0 : ByteArray} {r : (TyZ) × Int} (h : ref27_Parse a0 r) (σ : Sto)  :
    Does prog 8 [.string a0] σ [] (fun v τ gs => ∃ (v83 v84 : Value) (v85 v86 : Value), gs = [] ∧ .tuple [.agg (lS r.1 v83 v84 v85 v86).toArray, .I r.2].toArray = v ∧ Sl (kA .i64 2) τ v83 r.1.2.1.2.2.1 ∧ Sl (kI .i64) τ v84 r.1.2.1.2.2.2.1 ∧ Sl (kI .u8) τ v85 r.1.2.2.1.t4 ∧ Sl (kI .i64) τ v86 r.1.2.2.2) := by
 refine CO func8 ntmps8 rfl (fun cs fs => Z 2 ?_)
 refine o_alloc rfl rfl rfl z_zero40 (fun b1 => Z 5 ?_)
 obtain ⟨r2, hr3, h⟩ := h
 refine SC z_en20 (ref20_Split_ok hr3 σ) ?_
 rintro _ τ4 _ hl5 ⟨v6, rfl, rfl, hs7⟩
 refine Z 6 ?_
 obtain ⟨q8, hf9, h⟩ := h
 refine o_index rfl rfl rfl z_slT67 rfl rfl hs7 rfl hf9 (fun b10 of11 vs hc12 hrep => ?_)
 obtain rfl := hrep
 refine o_loadI (v := .string q8) rfl rfl rfl z_sc9 rfl (hc12 0 _ rfl) (Z 4 ?_)
 refine o_sbin (v := .bool (decide (q8 = (bstr [115, 101, 110, 100])))) rfl rfl rfl rfl (ev_str z_str2) rfl (Z 2 ?_)
 refine I2 h (fun h => ?_) (fun h => ?_)
 ·refine Z 2 ?_
  refine o_assign rfl rfl rfl (ev_str z_str1) (Z 2 ?_)
  refine cutS τ4 (fun (s13 : ByteArray) => ref27_Parse_j1 s13 r) (fun s13 => [(0, .string a0), (2, .Pb b1), (3, .I 0), (5, .string s13)]) (fun s13 => [[(b1, .cells lZ.toArray 40 (0, 0))]]) (fun s13 τ13 h hl13 => (Z 3 ?_)) (fun hk13 => ?_)
  ·obtain ⟨r14, hr15, h⟩ := h
   refine SC z_en26 (ref20_Parse_ok hr15 τ13) ?_
   rintro _ τ16 _ hl17 ⟨v18, v19, rfl, rfl, hs20, hs21⟩
   refine Z 3 ?_
   refine o_alloc rfl rfl rfl z_zero37 (fun b22 => ?_)
   refine o_store (j := 0) (vs := (lM r14.1 v18 v19)) (cs' := (lM r14.1 v18 v19)) rfl rfl rfl z_size37 rfl rfl rfl (o4 (ones_cons rfl (ones_cons rfl (ones_cons rfl (ones_cons hs20.one' (ones_cons hs21.one' (ones_cons rfl (ones_cons rfl ones_nil)))))))) rfl rfl rfl (Z 8 ?_)
   refine I2 h (fun h => ?_) (fun h => ?_)
   ·refine ZZ 7 [1] ?_
    obtain rfl := h.symm
    exact RC [.agg lZ.toArray, .I r14.2] func8 ⟨cN 1 z_agg40, rfl, trivial⟩ ((hl5.trans hl13).trans hl17) ⟨_, _, _, _, rfl, rfl, Sl.nil, Sl.nil, Sl.nil, Sl.nil⟩
   ·refine ZZ 5 [0] ?_
    refine o_store (j := 1) (vs := [.I 1, .I r14.1.1, .I (r14.1.2.1.getD 0 0), .I (r14.1.2.1.getD 1 0), .I (r14.1.2.1.getD 2 0), .I (r14.1.2.1.getD 3 0), .I (r14.1.2.1.getD 4 0), .I (r14.1.2.1.getD 5 0), v18, v19, .string r14.1.t4.1, .string r14.1.t4.2, .I 0, .I 0, .I 0, .I 0, .N0, .N0]) (cs' := [.I 1, .I r14.1.1, .I (r14.1.2.1.getD 0 0), .I (r14.1.2.1.getD 1 0), .I (r14.1.2.1.getD 2 0), .I (r14.1.2.1.getD 3 0), .I (r14.1.2.1.getD 4 0), .I (r14.1.2.1.getD 5 0), v18, v19, .string r14.1.t4.1, .string r14.1.t4.2, .I 0, .I 0, .I 0, .I 0, .N0, .N0]) rfl rfl rfl z_size40 rfl rfl rfl (o4 (o4 (ones_cons hs20.one' (ones_cons hs21.one' (o4 (o4 ones_nil)))))) rfl rfl rfl (Z 2 ?_)
    obtain rfl := h.symm
    exact RC [.agg #[.I 1, .I r14.1.1, .I (r14.1.2.1.getD 0 0), .I (r14.1.2.1.getD 1 0), .I (r14.1.2.1.getD 2 0), .I (r14.1.2.1.getD 3 0), .I (r14.1.2.1.getD 4 0), .I (r14.1.2.1.getD 5 0), v18, v19, .string r14.1.t4.1, .string r14.1.t4.2, .I 0, .I 0, .I 0, .I 0, .N0, .N0], .I 0] func8 ⟨cN 1 z_agg40, rfl, trivial⟩ ((hl5.trans hl13).trans hl17) ⟨_, _, _, _, rfl, rfl, hs20, hs21, Sl.nil, Sl.nil⟩
  refine Z 3 ?_
  refine o_lenI rfl rfl rfl z_slT67 rfl hs7 (Z 2 ?_)
  refine I2 h (fun h => ?_) (fun h => ?_)
  ·refine Z 2 ?_
   obtain ⟨hf23, h⟩ := h
   refine o_sliceSl rfl rfl rfl underlying9 rfl rfl (by decide) hf23 (Z 2 ?_)
   exact hk13 _ _ _ ⟨(a0.extract (5 : Int).toNat a0.size), h, LR, rfl, rfl⟩
  ·refine st_skip ?_
   exact hk13 _ _ _ ⟨(bstr []), h, LR, rfl, rfl⟩
 ·refine st_seq ?_
  refine cutS τ4 (fun (s24 : Bool) => ref27_Parse_j2 a0 r2 q8 s24 r) (fun s24 => [(0, .string a0), (2, .Pb b1), (3, .I 0), (4, v6), (18, .string q8), (37, .bool s24)]) (fun s24 => [[(b1, .cells lZ.toArray 40 (0, 0))]]) (fun s24 τ24 h hl24 => ?_) (fun hk24 => ?_)
  ·refine I2 h (fun h => ?_) (fun h => ?_)
   ·refine Z 4 ?_
    refine o_lenI rfl rfl rfl z_slT67 rfl (hs7.up hl24) (Z 2 ?_)
    refine I2 h (fun h => ?_) (fun h => ?_)
    ·refine ZZ 6 [0] ?_
     obtain rfl := h.symm
     exact RC [.agg lZ.toArray, .I 3] func8 ⟨cN 0 z_agg40, rfl, trivial⟩ (hl5.trans hl24) ⟨_, _, _, _, rfl, rfl, Sl.nil, Sl.nil, Sl.nil, Sl.nil⟩
    ·refine Z 5 ?_
     obtain ⟨q25, hf26, h⟩ := h
     refine o_index rfl rfl rfl z_slT67 rfl rfl (hs7.up hl24) rfl hf26 (fun b27 of28 vs hc29 hrep => ?_)
     obtain rfl := hrep
     refine o_loadI (v := .string q25) rfl rfl rfl z_sc9 rfl (hc29 0 _ rfl) ?_
     refine o_sbin (v := .bool (decide (q25 = (bstr [97, 108, 108])))) rfl rfl rfl rfl (ev_str z_str3) rfl ?_
     refine st_end ?_
     refine I2 h (fun h => ?_) (fun h => ?_)
     ·refine ZZ 6 [0] ?_
      obtain rfl := h.symm
      exact RC [.agg #[.I 3, .I 0, .I 0, .I 0, .I 0, .I 0, .I 0, .I 0, .N0, .N0, .E0, .E0, .I 0, .I 0, .I 0, .I 0, .N0, .N0], .I 0] func8 ⟨cN 0 z_agg40, rfl, trivial⟩ (hl5.trans hl24) ⟨_, _, _, _, rfl, rfl, Sl.nil, Sl.nil, Sl.nil, Sl.nil⟩
     ·refine Z 5 ?_
      obtain ⟨q30, hf31, h⟩ := h
      refine o_index rfl rfl rfl z_slT67 rfl rfl (hs7.up hl24) rfl hf31 (fun b32 of33 vs hc34 hrep => ?_)
      obtain rfl := hrep
      refine o_loadI (v := .string q30) rfl rfl rfl z_sc9 rfl (hc34 0 _ rfl) ?_
      refine o_sbin (v := .bool (decide (q30 = (bstr [115, 116, 97, 116, 101])))) rfl rfl rfl rfl (ev_str z_str5) rfl ?_
      refine st_end ?_
      refine I2 h (fun h => ?_) (fun h => ?_)
      ·refine ZZ 6 [0] ?_
       obtain rfl := h.symm
       exact RC [.agg #[.I 5, .I 0, .I 0, .I 0, .I 0, .I 0, .I 0, .I 0, .N0, .N0, .E0, .E0, .I 0, .I 0, .I 0, .I 0, .N0, .N0], .I 0] func8 ⟨cN 0 z_agg40, rfl, trivial⟩ (hl5.trans hl24) ⟨_, _, _, _, rfl, rfl, Sl.nil, Sl.nil, Sl.nil, Sl.nil⟩
      ·refine ZZ 7 [0] ?_
       obtain rfl := h.symm
       exact RC [.agg #[.I 6, .I 0, .I 0, .I 0, .I 0, .I 0, .I 0, .I 0, .N0, .N0, .E0, .E0, .I 0, .I 0, .I 0, .I 0, .N0, .N0], .I 0] func8 ⟨cN 0 z_agg40, rfl, trivial⟩ (hl5.trans hl24) ⟨_, _, _, _, rfl, rfl, Sl.nil, Sl.nil, Sl.nil, Sl.nil⟩
   ·refine Z 2 ?_
    refine o_sbin (v := .bool (decide (q8 = (bstr [99, 104, 117, 110, 107])))) rfl rfl rfl rfl (ev_str z_str4) rfl (Z 2 ?_)
    refine I2 h (fun h => ?_) (fun h => ?_)
    ·refine ZZ 3 [] ?_
     refine o_alloc rfl rfl rfl z_zero40 (fun b35 => ZZ 3 [0] ?_)
     refine st_cut (fun ρ τ36 gs => ∃ (s36 : List Int) (v37 : Value) (g38 : Grp), ref27_Parse_j3 s36 r ∧ τ24.Le τ36 ∧ ESub ρ [(0, .string a0), (2, .Pb b1), (3, .I 0), (8, .Pb b35)] ∧ gs = [[(b1, .cells lZ.toArray 40 (0, 0))], [(b35, .cells #[.I 4, .I 0, .I 0, .I 0, .I 0, .I 0, .I 0, .I 0, .N0, .N0, .E0, .E0, .I 0, .I 0, .I 0, .I 0, .N0, v37] 40 (0, 0))], g38] ∧ Ow (kI .i64) 3 τ36 v37 s36 g38) ?_ (fun hk36 => ?_)
     ·rintro ρ36 τ36 gs36 ⟨s36, v37, g38, h, hl36, hρ, rfl, ho39⟩
      refine st_es hρ (ZZ 4 [1] ?_)
      obtain ⟨r45, hr46, h⟩ := h
      refine st_ord [2, 0, 0] _ rfl ?_
      refine st_freeze (fun τ40 hl41 hg42 => ?_)
      have hs43 := ho39.freeze hl41 hg42
      refine SC z_en13 (ref27_Check_ok hr46 τ40 Sl.nil Sl.nil Sl.nil hs43) ?_
      rintro _ τ47 _ hl48 ⟨rfl, rfl⟩
      refine Z 2 ?_
      refine I2 h (fun h => ?_) (fun h => ?_)
      ·refine ZZ 4 [1] ?_
       obtain ⟨r49, hr50, h⟩ := h
       refine SC z_en13 (ref27_Check_ok hr50 τ47 Sl.nil Sl.nil Sl.nil (hs43.up hl48)) ?_
       rintro _ τ51 _ hl52 ⟨rfl, rfl⟩
       refine ZZ 3 [0] ?_
       obtain rfl := h.symm
       exact RC [.agg lZ.toArray, .I r49] func8 ⟨cN 0 z_agg40, rfl, trivial⟩ (((((hl5.trans hl24).trans hl36).trans hl41).trans hl48).trans hl52) ⟨_, _, _, _, rfl, rfl, Sl.nil, Sl.nil, Sl.nil, Sl.nil⟩
      ·refine ZZ 4 [1] ?_
       refine o_store (j := 0) (vs := [.I 4, .I 0, .I 0, .I 0, .I 0, .I 0, .I 0, .I 0, .N0, .N0, .E0, .E0, .I 0, .I 0, .I 0, .I 0, .N0, v37]) (cs' := [.I 4, .I 0, .I 0, .I 0, .I 0, .I 0, .I 0, .I 0, .N0, .N0, .E0, .E0, .I 0, .I 0, .I 0, .I 0, .N0, v37]) rfl rfl rfl z_size40 rfl rfl rfl (o4 (o4 (o4 (o4 (ones_cons rfl (ones_cons (hs43.up hl48).one' ones_nil)))))) rfl rfl rfl (Z 2 ?_)
       obtain rfl := h.symm
       exact RC [.agg #[.I 4, .I 0, .I 0, .I 0, .I 0, .I 0, .I 0, .I 0, .N0, .N0, .E0, .E0, .I 0, .I 0, .I 0, .I 0, .N0, v37], .I 0] func8 ⟨cN 0 z_agg40, rfl, trivial⟩ ((((hl5.trans hl24).trans hl36).trans hl41).trans hl48) ⟨_, _, _, _, rfl, rfl, Sl.nil, Sl.nil, Sl.nil, (hs43.up hl48)⟩
     refine Z 4 ?_
     obtain ⟨e53, hL53, hA53⟩ := h
     refine st_addNil ?_
     refine st_ord [2, 1, 0] _ rfl ?_
     refine st_loop hL53 (fun (s53 : K41) ρ τ53 gs => τ24.Le τ53 ∧ ∃ (v54 : Value) (g55 : Grp), ESub ρ [(0, .string a0), (2, .Pb b1), (3, .I 0), (4, v6), (8, .Pb b35), (9, .I s53.1)] ∧ gs = [[(b1, .cells lZ.toArray 40 (0, 0))], [(b35, .cells #[.I 4, .I 0, .I 0, .I 0, .I 0, .I 0, .I 0, .I 0, .N0, .N0, .E0, .E0, .I 0, .I 0, .I 0, .I 0, .N0, v54] 40 (0, 0))], g55] ∧ Ow (kI .i64) 3 τ53 v54 s53.2 g55) ⟨LR, _, _, rfl, rfl, Ow.nil⟩ ?_
     rintro s53 o53 h he53 ρ53 τ53 gs53 ⟨hl53, v54, g55, hρ, rfl, ho56⟩ hn53
     refine st_es hρ (Z 5 ?_)
     refine o_lenI rfl rfl rfl z_slT67 rfl (hs7.up (hl24.trans hl53)) (Z 2 ?_)
     refine I2 h (fun h => ?_) (fun h => ?_)
     ·refine Z 7 ?_
      obtain ⟨q57, hf58, h⟩ := h
      refine o_index rfl rfl rfl z_slT67 rfl rfl (hs7.up (hl24.trans hl53)) rfl hf58 (fun b59 of60 vs hc61 hrep => ?_)
      obtain rfl := hrep
      refine o_loadI (v := .string q57) rfl rfl rfl z_sc9 rfl (hc61 0 _ rfl) ?_
      obtain ⟨r62, hr63, h⟩ := h
      refine SC z_en27 (ref20_Read_ok hr63 τ53) ?_
      rintro _ τ64 _ hl65 ⟨rfl, rfl⟩
      refine Z 12 ?_
      refine I2 h (fun h => ?_) (fun h => ?_)
      ·refine ZZ 7 [0] ?_
       obtain rfl := he53 _ h
       replace h := hA53
       obtain rfl := h.symm
       exact RC [.agg lZ.toArray, .I r62.2] func8 ⟨cN 0 z_agg40, rfl, trivial⟩ (((hl5.trans hl24).trans hl53).trans hl65) ⟨_, _, _, _, rfl, rfl, Sl.nil, Sl.nil, Sl.nil, Sl.nil⟩
      ·refine ZZ 5 [1] ?_
       refine o_litE (eI .i64) [r62.1] rfl rfl rfl z_slT24 z_zero3 ⟨rfl, ⟨_, rfl, rfl⟩, trivial⟩ rfl rfl rfl rfl (fun v66 g67 ho68 => ?_)
       obtain ⟨hf72, hf73, h⟩ := h
       refine st_ord [3, 0, 0, 0] _ rfl ?_
       refine o_append (dk := (kI .i64)) (xs := s53.2) (ys := [r62.1]) rfl rfl rfl rfl z_slT24 rfl (ho56.up hl65) rfl (Ow.src (j := 1) ho68 rfl) hf72 hf73 (fun v69 g70 ho71 => ?_)
       refine o_fieldAddr rfl rfl rfl z_field40_3 rfl ?_
       refine o_store (j := 3) (vs := [v69]) (cs' := [.I 4, .I 0, .I 0, .I 0, .I 0, .I 0, .I 0, .I 0, .N0, .N0, .E0, .E0, .I 0, .I 0, .I 0, .I 0, .N0, v69]) rfl rfl rfl z_size24 rfl rfl (oneL_ow ho71) (ones_cons ho71.one' ones_nil) rfl rfl rfl (Z 7 ?_)
       refine st_ord [2, 2, 0] _ rfl ?_
       exact hn53 _ _ _ _ h ⟨(hl53.trans hl65), _, _, rfl, rfl, ho71⟩
     ·refine st_exit rfl ?_
      obtain rfl := he53 _ h
      replace h := hA53
      exact hk36 _ _ _ ⟨s53.2, _, _, h, hl53, rfl, rfl, ho56⟩
    ·refine Z 5 ?_
     obtain ⟨r76, hr77, h⟩ := h
     refine SC z_en28 (ref26_Parse_ok hr77 τ24) ?_
     rintro _ τ78 _ hl79 ⟨v80, rfl, rfl, hs81⟩
     refine Z 3 ?_
     refine o_alloc rfl rfl rfl z_zero38 (fun b82 => ?_)
     refine o_store (j := 0) (vs := (lI r76.1 v80)) (cs' := (lI r76.1 v80)) rfl rfl rfl z_size38 rfl rfl rfl (o4 (ones_cons hs81.one' ones_nil)) rfl rfl rfl (Z 8 ?_)
     refine I2 h (fun h => ?_) (fun h => ?_)
     ·refine ZZ 7 [1] ?_
      obtain rfl := h.symm
      exact RC [.agg lZ.toArray, .I r76.2] func8 ⟨cN 1 z_agg40, rfl, trivial⟩ ((hl5.trans hl24).trans hl79) ⟨_, _, _, _, rfl, rfl, Sl.nil, Sl.nil, Sl.nil, Sl.nil⟩
     ·refine ZZ 5 [0] ?_
      refine o_store (j := 1) (vs := [.I 2, .I 0, .I 0, .I 0, .I 0, .I 0, .I 0, .I 0, .N0, .N0, .E0, .E0, .I r76.1.1, .I r76.1.2.1, .I r76.1.2.2.1, .I r76.1.2.2.2.1, v80, .N0]) (cs' := [.I 2, .I 0, .I 0, .I 0, .I 0, .I 0, .I 0, .I 0, .N0, .N0, .E0, .E0, .I r76.1.1, .I r76.1.2.1, .I r76.1.2.2.1, .I r76.1.2.2.2.1, v80, .N0]) rfl rfl rfl z_size40 rfl rfl rfl (o4 (o4 (o4 (o4 (ones_cons hs81.one' (ones_cons rfl ones_nil)))))) rfl rfl rfl (Z 2 ?_)
      obtain rfl := h.symm
      exact RC [.agg #[.I 2, .I 0, .I 0, .I 0, .I 0, .I 0, .I 0, .I 0, .N0, .N0, .E0, .E0, .I r76.1.1, .I r76.1.2.1, .I r76.1.2.2.1, .I r76.1.2.2.2.1, v80, .N0], .I 0] func8 ⟨cN 1 z_agg40, rfl, trivial⟩ ((hl5.trans hl24).trans hl79) ⟨_, _, _, _, rfl, rfl, Sl.nil, Sl.nil, hs81, Sl.nil⟩
  refine Z 2 ?_
  refine o_sbin (v := .bool (decide (q8 = (bstr [97, 108, 108])))) rfl rfl rfl rfl (ev_str z_str3) rfl (Z 2 ?_)
  refine I2 h (fun h => ?_) (fun h => ?_)
  ·refine st_skip ?_
   exact hk24 _ _ _ ⟨(decide (q8 = (bstr [97, 108, 108]))), h, LR, rfl, rfl⟩
  ·refine Z 2 ?_
   refine o_sbin (v := .bool (decide (q8 = (bstr [115, 116, 97, 116, 101])))) rfl rfl rfl rfl (ev_str z_str5) rfl (Z 2 ?_)
   refine I2 h (fun h => ?_) (fun h => ?_)
   ·refine st_skip ?_
    exact hk24 _ _ _ ⟨(decide (q8 = (bstr [115, 116, 97, 116, 101]))), h, LR, rfl, rfl⟩
   ·refine st_region ?_
    refine o_sbin (v := .bool (decide (q8 = (bstr [116, 97, 108, 108, 121])))) rfl rfl rfl rfl (ev_str z_str6) rfl (Z 2 ?_)
    exact hk24 _ _ _ ⟨(decide (q8 = (bstr [116, 97, 108, 108, 121]))), h, LR, rfl, rfl⟩
theorem conf_CheckSender_ok {a0 : Int × Int × Int} {r : Int} (h : conf_CheckSender a0 r) (σ : Sto)  :
    Does prog 55 [.agg [.I a0.1, .I a0.2.1, .int .u32 a0.2.2].toArray] σ [] (fun v τ gs => gs = [] ∧ .I r = v) := by
 refine CO func55 ntmps55 rfl (fun cs fs => Z 2 ?_)
 refine o_boxC rfl rfl rfl rfl rfl rfl (fun b1 => Z 5 ?_)
 refine cutS σ (fun (s2 : Bool) => conf_CheckSender_j1 a0 s2 r) (fun s2 => [(1, .Pb b1), (2, .I 0), (3, .bool s2)]) (fun s2 => [[(b1, .cells #[.I a0.1, .I a0.2.1, .int .u32 a0.2.2] 56 (0, 0))]]) (fun s2 τ2 h hl2 => ?_) (fun hk2 => ?_)
 ·refine I2 h (fun h => ?_) (fun h => ?_)
  ·refine Z 4 ?_
   obtain rfl := h.symm
   exact RT func55 rfl hl2 ⟨rfl, rfl⟩
  ·refine st_seq ?_
   refine cutS τ2 (fun (s3 : Bool) => conf_CheckSender_j2 s3 r) (fun s3 => [(2, .I 0), (12, .bool s3)]) (fun s3 => []) (fun s3 τ3 h hl3 => ?_) (fun hk3 => ?_)
   ·refine I2 h (fun h => ?_) (fun h => ?_)
    ·refine Z 4 ?_
     obtain rfl := h.symm
     exact RT func55 rfl (hl2.trans hl3) ⟨rfl, rfl⟩
    ·refine Z 6 ?_
     obtain rfl := h.symm
     exact RT func55 rfl (hl2.trans hl3) ⟨rfl, rfl⟩
   refine ZZ 4 [0] ?_
   refine M2 h (fun h => ?_) (fun h => ?_)
   ·refine Z 6 ?_
    refine st_ord [] _ rfl ?_
    exact hk3 _ _ _ ⟨true, h, LR, rfl, rfl⟩
   ·refine ZZ 6 [0] ?_
    refine st_ord [] _ rfl ?_
    exact hk3 _ _ _ ⟨(decide (257 < a0.2.1)), h, LR, rfl, rfl⟩
 refine ZZ 4 [0] ?_
 refine M2 h (fun h => ?_) (fun h => ?_)
 ·refine ZZ 6 [0] ?_
  exact hk2 _ _ _ ⟨(!(decide (a0.1 = 2))), h, LR, rfl, rfl⟩
 ·refine Z 6 ?_
  exact hk2 _ _ _ ⟨false, h, LR, rfl, rfl⟩
theorem conf_CheckReceiver_ok {a0 : Int × Int} {r : Int} (h : conf_CheckReceiver a0 r) (σ : Sto)  :
    Does prog 56 [.agg [.int .u32 a0.1, .I a0.2].toArray] σ [] (fun v τ gs => gs = [] ∧ .I r = v) := by
 refine CO func56 ntmps56 rfl (fun cs fs => Z 2 ?_)
 refine o_boxC rfl rfl rfl rfl rfl rfl (fun b1 => Z 4 ?_)
 refine cutS σ (fun (s2 : Bool) => conf_CheckReceiver_j1 s2 r) (fun s2 => [(2, .I 0), (10, .bool s2)]) (fun s2 => []) (fun s2 τ2 h hl2 => ?_) (fun hk2 => ?_)
 ·refine I2 h (fun h => ?_) (fun h => ?_)
  ·refine Z 4 ?_
   obtain rfl := h.symm
   exact RT func56 rfl hl2 ⟨rfl, rfl⟩
  ·refine Z 5 ?_
   obtain rfl := h.symm
   exact RT func56 rfl hl2 ⟨rfl, rfl⟩
 refine ZZ 4 [0] ?_
 refine M2 h (fun h => ?_) (fun h => ?_)
 ·refine Z 5 ?_
  refine st_ord [] _ rfl ?_
  exact hk2 _ _ _ ⟨true, h, LR, rfl, rfl⟩
 ·refine ZZ 5 [0] ?_
  refine st_ord [] _ rfl ?_
  exact hk2 _ _ _ ⟨(decide (16 < a0.2)), h, LR, rfl, rfl⟩
theorem conf_Line_ok {a0 : Int × Int × Int} {a1 : Int × Int} {r : ByteArray} (h : conf_Line a0 a1 r) (σ : Sto) (hT : Tab prog σ) :
    Does prog 57 [.agg [.I a0.1, .I a0.2.1, .int .u32 a0.2.2].toArray, .agg [.int .u32 a1.1, .I a1.2].toArray] σ [] (fun v τ gs => gs = [] ∧ .string r = v) := by
 refine CO func57 ntmps57 rfl (fun cs fs => Z 2 ?_)
 refine o_boxC rfl rfl rfl rfl rfl rfl (fun b1 => ?_)
 refine o_boxC rfl rfl rfl rfl rfl rfl (fun b2 => ?_)
 refine o_assign rfl rfl rfl (ev_str z_str1) (Z 3 ?_)
 refine cutS σ (fun (s3 : Bool) => conf_Line_j1 a0 a1 s3 r) (fun s3 => [(2, .Pb b1), (3, .Pb b2), (4, .E0), (15, .bool s3)]) (fun s3 => [[(b1, .cells #[.I a0.1, .I a0.2.1, .int .u32 a0.2.2] 56 (0, 0))], [(b2, .cells #[.int .u32 a1.1, .I a1.2] 58 (0, 0))]]) (fun s3 τ3 h hl3 => ?_) (fun hk3 => ?_)
 ·refine I2 h (fun h => ?_) (fun h => ?_)
  ·refine Z 2 ?_
   refine o_assign rfl rfl rfl (ev_str z_str1) ?_
   refine st_end ?_
   obtain rfl := h.symm
   exact RT func57 rfl hl3 ⟨rfl, rfl⟩
  ·refine Z 3 ?_
   refine o_assign rfl rfl rfl (ev_str z_str41) (Z 2 ?_)
   refine cutS τ3 (fun (s4 : ByteArray) => conf_Line_j2 s4 r) (fun s4 => [(4, .E0), (5, .string s4)]) (fun s4 => []) (fun s4 τ4 h hl4 => (Z 5 ?_)) (fun hk4 => ?_)
   ·obtain rfl := h.symm
    exact RT func57 rfl (hl3.trans hl4) ⟨rfl, rfl⟩
   refine ZZ 14 [0, 0, 0, 1, 1] ?_
   refine o_buildA (ps := [(0, [.I a0.1]), (1, [.I a0.2.1]), (2, [.I (i64.wrap a0.2.2)]), (3, [.I (i64.wrap a1.1)]), (4, [.I a1.2])]) (cs := [.I a0.1, .I a0.2.1, .I (i64.wrap a0.2.2), .I (i64.wrap a1.1), .I a1.2]) rfl rfl rfl z_arrz157 ⟨rfl, ⟨_, rfl, rfl⟩, ⟨rfl, ⟨_, rfl, rfl⟩, ⟨rfl, ⟨_, rfl, rfl⟩, ⟨rfl, ⟨_, rfl, rfl⟩, ⟨rfl, ⟨_, rfl, rfl⟩, trivial⟩⟩⟩⟩⟩ (fill_all [.I a0.1, .I a0.2.1, .I (i64.wrap a0.2.2), .I (i64.wrap a1.1), .I a1.2] _ rfl) (Z 2 ?_)
   obtain ⟨e5, hL5, hA5⟩ := h
   refine st_ord [] _ rfl ?_
   refine st_loop hL5 (fun (s5 : K15) ρ τ5 gs => τ3.Le τ5 ∧ ESub ρ [(4, .E0), (5, .string s5.1), (28, .agg #[.I a0.1, .I a0.2.1, .I (i64.wrap a0.2.2), .I (i64.wrap a1.1), .I a1.2]), (29, .I s5.2)] ∧ gs = []) ⟨LR, rfl, rfl⟩ ?_
   rintro s5 o5 h he5 ρ5 τ5 gs5 ⟨hl5, hρ, rfl⟩ hn5
   refine st_es hρ (Z 5 ?_)
   refine I2 h (fun h => ?_) (fun h => ?_)
   ·refine Z 5 ?_
    obtain ⟨hf6, hf7, h⟩ := h
    refine o_indexV (f := (Value.int .i64)) (zz := 0) (l := 5) (xs := [a0.1, a0.2.1, (i64.wrap a0.2.2), (i64.wrap a1.1), a1.2]) (cs := [.I a0.1, .I a0.2.1, .I (i64.wrap a0.2.2), .I (i64.wrap a1.1), .I a1.2]) rfl rfl rfl z_arr157 z_sc3 rfl rfl rfl hf6 hf7 (Z 5 ?_)
    obtain ⟨r8, hr9, h⟩ := h
    refine SC z_en34 (say_Number_ok hr9 τ5 (hT.up (hl3.trans hl5))) ?_
    rintro _ τ10 _ hl11 ⟨rfl, rfl⟩
    obtain ⟨hf12, h⟩ := h
    refine o_sadd rfl rfl rfl (ev_str z_str0) rfl hf12 ?_
    obtain ⟨hf13, h⟩ := h
    refine o_sadd rfl rfl rfl rfl rfl hf13 (Z 7 ?_)
    exact hn5 _ _ _ _ h ⟨(hl5.trans hl11), rfl, rfl⟩
   ·refine st_exit rfl ?_
    obtain rfl := he5 _ h
    replace h := hA5
    exact hk4 _ _ _ ⟨s5.1, h, hl5, rfl, rfl⟩
 refine ZZ 2 [1] ?_
 obtain ⟨r15, hr16, h⟩ := h
 refine SC z_en55 (conf_CheckSender_ok hr16 σ) ?_
 rintro _ τ17 _ hl18 ⟨rfl, rfl⟩
 refine o_ibin (v := .bool (!(decide (r15 = 0)))) rfl rfl rfl rfl rfl rfl ?_
 refine M2 h (fun h => ?_) (fun h => ?_)
 ·refine Z 5 ?_
  refine st_ord [1, 0] _ rfl ?_
  exact hk3 _ _ _ ⟨true, h, hl18, rfl, rfl⟩
 ·refine ZZ 1 [0] ?_
  obtain ⟨r19, hr20, h⟩ := h
  refine SC z_en56 (conf_CheckReceiver_ok hr20 τ17) ?_
  rintro _ τ21 _ hl22 ⟨rfl, rfl⟩
  refine Z 3 ?_
  refine st_ord [1, 0] _ rfl ?_
  exact hk3 _ _ _ ⟨(!(decide (r19 = 0))), h, (hl18.trans hl22), rfl, rfl⟩
theorem strings_Join_ok {a0 : List ByteArray} {a1 : ByteArray} {v1 : Value} {r : ByteArray} (h : strings_Join a0 a1 r) (σ : Sto) (hs2 : Sl kS σ v1 a0) :
    Does prog 104 [v1, .string a1] σ [] (fun v τ gs => gs = [] ∧ .string r = v) := by
 obtain ⟨h1, h2, rfl⟩ := h
 exact join_does Tryz.strings_Join_none Tryz.strings_Join hs2 h1 h2
theorem say_hex_ok {a0 r : ByteArray} (h : say_hex a0 r) (σ : Sto)  :
    Does prog 105 [.string a0] σ [] (fun v τ gs => gs = [] ∧ .string r = v) := by
 refine CO func105 ntmps105 rfl (fun cs fs => Z 2 ?_)
 refine o_assign rfl rfl rfl (ev_str z_str1) (Z 5 ?_)
 refine o_sbin (v := .bool (decide (a0 = (bstr [])))) rfl rfl rfl rfl (ev_str z_str1) rfl ?_
 refine st_end ?_
 refine I2 h (fun h => ?_) (fun h => ?_)
 ·refine Z 2 ?_
  refine o_assign rfl rfl rfl (ev_str z_str33) ?_
  refine st_end ?_
  obtain rfl := h.symm
  exact RT func105 rfl LR ⟨rfl, rfl⟩
 ·refine Z 6 ?_
  refine st_cut (fun ρ τ1 gs => ∃ (s1 : List Int) (v2 : Value) (g3 : Grp), say_hex_j1 s1 r ∧ σ.Le τ1 ∧ ESub ρ [(2, .E0), (3, v2)] ∧ gs = [g3] ∧ Ow (kI .u8) 5 τ1 v2 s1 g3) ?_ (fun hk1 => ?_)
  ·rintro ρ1 τ1 gs1 ⟨s1, v2, g3, h, hl1, hρ, rfl, ho4⟩
   refine st_es hρ (Z 3 ?_)
   refine st_freeze (fun τ5 hl6 hg7 => ?_)
   have hs8 := ho4.freeze hl6 hg7
   refine o_bstr (xs := s1) rfl rfl rfl underlying27 underlying5 underlying9 rfl hs8 (Z 2 ?_)
   obtain rfl := h.symm
   exact RT func105 rfl (hl1.trans hl6) ⟨rfl, rfl⟩
  refine Z 3 ?_
  obtain ⟨hf14, h⟩ := h
  refine o_bytes rfl rfl rfl underlying9 underlying27 underlying5 rfl hf14 (fun v10 τ11 hl12 hs13 => ?_)
  refine o_lenI rfl rfl rfl z_slT27 rfl hs13 (Z 2 ?_)
  obtain ⟨e15, hL15, hA15⟩ := h
  refine st_addNil ?_
  refine st_loop hL15 (fun (s15 : K7) ρ τ15 gs => τ11.Le τ15 ∧ ∃ (v16 : Value) (g17 : Grp), ESub ρ [(2, .E0), (3, v16), (9, v10), (10, .I ((bints a0).length : Int)), (11, .I s15.2)] ∧ gs = [g17] ∧ Ow (kI .u8) 5 τ15 v16 s15.1 g17) ⟨LR, _, _, rfl, rfl, Ow.nil⟩ ?_
  rintro s15 o15 h he15 ρ15 τ15 gs15 ⟨hl15, v16, g17, hρ, rfl, ho18⟩ hn15
  refine st_es hρ (Z 5 ?_)
  refine I2 h (fun h => ?_) (fun h => ?_)
  ·refine Z 5 ?_
   obtain ⟨q19, hf20, h⟩ := h
   refine o_index rfl rfl rfl z_slT27 rfl rfl (hs13.up hl15) rfl hf20 (fun b21 of22 vs hc23 hrep => ?_)
   obtain rfl := hrep
   refine o_loadI (v := .int .u8 q19) rfl rfl rfl z_sc5 rfl (hc23 0 _ rfl) (Z 2 ?_)
   obtain ⟨q24, hf25, q26, hf27, hf38, hf39, h⟩ := h
   refine st_d41 [] [g17] 9 1 [none, none, none, none, none, none, none, none, some (0, 0)] [none, none, none, none, none, none, none, none, none] [[none, some 23]] [.v (v16), .v (.int .u8 q19), .v (.int .u8 (ishr .u8 q19 4)), .v (.int .u8 q24), .v (.int .u8 q19), .v (.int .u8 (iand .u8 q19 15)), .v (.int .u8 q26), .t fun τ v => ∃ (v28 : Value), (v28 : Value) = v ∧ Sl (kI .u8) τ v28 [q24, q26], .t fun _ _ => True] [[fun τ u F => F = [g17], fun τ u F => ∃ (v40 : Value) (g41 : Grp), F = [g41] ∧ v40 = u ∧ Ow (kI .u8) 5 τ v40 (s15.1 ++ [q24, q26]) g41]] rfl z_mix rfl ⟨fun _ _ _ hl ⟨v28, hv, hs34⟩ => ⟨v28, hv, hs34.up hl⟩, ⟨fun _ _ _ _ _ => trivial, trivial⟩⟩ ⟨⟨fun _ _ _ _ hl h => h, ⟨fun _ _ _ _ hl h => (let ⟨v40, g41, hF, hU, ho42⟩ := h; ⟨v40, g41, hF, hU, ho42.up hl⟩), trivial⟩⟩, trivial⟩ rfl rfl ?_ (allB_cons (allB_cons (allB_cons (allB_cons (allB_cons (allB_cons (allB_cons (allB_cons (allB_cons allB_nil (p4 dA)) (p4 dA)) (p4 dA)) ?_) (p4 dA)) (p4 dA)) ?_) ?_) ?_) ?_
   ·exact rfl
   ·intro ρ' τ pq rs hl hd hq hw hk
    obtain ⟨_, e2, rfl⟩ := hd 2 rfl _ rfl
    refine o_indexS rfl rfl rfl underlying9 (ev_str z_str36) e2 hf25 ?_
    exact hk _ _ LR rfl
   ·intro ρ' τ pq rs hl hd hq hw hk
    obtain ⟨_, e5, rfl⟩ := hd 5 rfl _ rfl
    refine o_indexS rfl rfl rfl underlying9 (ev_str z_str36) e5 hf27 ?_
    exact hk _ _ LR rfl
   ·intro ρ' τ pq rs hl hd hq hw hk
    obtain ⟨_, e3, rfl⟩ := hd 3 rfl _ rfl
    obtain ⟨_, e6, rfl⟩ := hd 6 rfl _ rfl
    refine o_litE (eI .u8) [q24, q26] rfl rfl rfl z_slT27 z_zero5 ⟨rfl, ⟨_, e3, rfl⟩, ⟨rfl, ⟨_, e6, rfl⟩, trivial⟩⟩ rfl rfl rfl rfl (fun v28 g29 ho30 => ?_)
    refine st_freeze (fun τ31 hl32 hg33 => ?_)
    have hs34 := ho30.freeze hl32 hg33
    exact hk _ _ hl32 ⟨v28, rfl, hs34⟩
   ·intro ρ' τ u Fv pq rs hl hI hu hd hq hw hk
    obtain ⟨_, e0, rfl⟩ := hd 0 rfl _ rfl
    obtain ⟨_, e7, v28, rfl, hs34⟩ := hd 7 rfl _ rfl
    have hI0 := hI
    obtain rfl := hI
    refine o_append (dk := (kI .u8)) (xs := s15.1) (ys := [q24, q26]) rfl rfl rfl rfl z_slT27 e0 (ho18.up hl) e7 (Sl.src hs34) hf38 hf39 (fun v35 g36 ho37 => ?_)
    exact hk _ _ [g36] LR trivial (by exact ⟨v35, g36, rfl, rfl, ho37⟩)
   intro ρ' τ43 vals u Fv hl43 hI hu hv hq
   obtain ⟨v40, g41, rfl, rfl, ho42⟩ := hI
   refine st_env (ρ' := [(2, .E0), (9, v10), (10, .I ((bints a0).length : Int)), (11, .I s15.2), (23, v40)]) ⟨oT hq 2, oT hq 9, oT hq 10, oT hq 11, (by exact hu _ rfl), trivial⟩ (Z 7 ?_)
   exact hn15 _ _ _ _ h ⟨(hl15.trans hl43), _, _, rfl, rfl, ho42⟩
  ·refine st_exit rfl ?_
   obtain rfl := he15 _ h
   replace h := hA15
   exact hk1 _ _ _ ⟨s15.1, _, _, h, (hl12.trans hl15), rfl, rfl, ho18⟩
theorem say_value_ok {a0 : TyM} {a1 : TyA} {v1 v2 : Value} {r : ByteArray} (h : say_value a0 a1 r) (σ : Sto) (hs3 : Sl (kP (kI .i64) (kI .i64)) σ v1 a0.2.2.1) (hs4 : Sl (kI .i64) σ v2 a0.2.2.2.1) (hT : Tab prog σ) :
    Does prog 73 [.agg (lM a0 v1 v2).toArray, .agg (lA a1).toArray] σ [] (fun v τ gs => gs = [] ∧ .string r = v) := by
 refine CO func73 ntmps73 rfl (fun cs fs => Z 2 ?_)
 refine o_box (cs := (lM a0 v1 v2)) rfl rfl rfl rfl rfl (fun b5 => ?_)
 refine o_boxC rfl rfl rfl rfl rfl rfl (fun b6 => ?_)
 refine o_assign rfl rfl rfl (ev_str z_str1) (ZZ 17 [0] ?_)
 refine I2 h (fun h => ?_) (fun h => ?_)
 ·refine st_seq ?_
  refine st_cut (fun ρ τ7 gs => ∃ (s7 : K0) (v8 : Value) (g9 : Grp), say_value_j1 s7 r ∧ σ.Le τ7 ∧ ESub ρ [(2, .Pb b5), (3, .Pb b6), (4, .E0), (5, v8)] ∧ gs = [[(b5, .cells (lM a0 v1 v2).toArray 26 (0, 0))], [(b6, .cells (lA a1).toArray 139 (0, 0))], g9] ∧ Ow kS 9 τ7 v8 s7 g9) ?_ (fun hk7 => ?_)
  ·rintro ρ7 τ7 gs7 ⟨s7, v8, g9, h, hl7, hρ, rfl, ho10⟩
   refine st_es hρ (Z 3 ?_)
   obtain ⟨r16, hr17, h⟩ := h
   refine st_ord [2, 0, 0] _ rfl ?_
   refine st_freeze (fun τ11 hl12 hg13 => ?_)
   have hs14 := ho10.freeze hl12 hg13
   refine st_call (foot := []) rfl rfl rfl rfl (evs_cons rfl (evs_cons (ev_str z_str31) rfl)) rfl (callV_fn z_en104 (strings_Join_ok hr17 τ11 hs14)) ?_
   rintro _ τ18 _ hl19 ⟨rfl, rfl⟩
   refine Z 2 ?_
   obtain rfl := h.symm
   exact RT func73 rfl ((hl7.trans hl12).trans hl19) ⟨rfl, rfl⟩
  refine ZZ 4 [1] ?_
  refine o_lenI rfl rfl rfl z_slT23 rfl hs3 (Z 2 ?_)
  obtain ⟨e20, hL20, hA20⟩ := h
  refine st_addNil ?_
  refine st_ord [2, 1, 0] _ rfl ?_
  refine st_loop hL20 (fun (s20 : K40) ρ τ20 gs => σ.Le τ20 ∧ ∃ (v21 : Value) (g22 : Grp), ESub ρ [(2, .Pb b5), (3, .Pb b6), (4, .E0), (5, v21), (15, v1), (16, .I (a0.2.2.1.length : Int)), (17, .I s20.2)] ∧ gs = [[(b5, .cells (lM a0 v1 v2).toArray 26 (0, 0))], [(b6, .cells (lA a1).toArray 139 (0, 0))], g22] ∧ Ow kS 9 τ20 v21 s20.1 g22) ⟨LR, _, _, rfl, rfl, Ow.nil⟩ ?_
  rintro s20 o20 h he20 ρ20 τ20 gs20 ⟨hl20, v21, g22, hρ, rfl, ho23⟩ hn20
  refine st_es hρ (Z 5 ?_)
  refine I2 h (fun h => ?_) (fun h => ?_)
  ·refine Z 5 ?_
   obtain ⟨q24, hf25, h⟩ := h
   refine o_index rfl rfl rfl z_slT23 rfl rfl (hs3.up hl20) rfl hf25 (fun b26 of27 vs hc28 hrep => ?_)
   obtain ⟨_, _, rfl, rfl, rfl⟩ := hrep
   refine o_loadIN (vs := [.I q24.1, .I q24.2]) rfl rfl rfl z_agg149 rfl rfl (celn_part 0 rfl hc28) ?_
   refine o_alloc rfl rfl rfl z_zero149 (fun b29 => ZZ 2 [0] ?_)
   obtain ⟨r30, hr31, hf34, r35, hr36, hf39, hf50, hf51, h⟩ := h
   refine st_d41 [[(b29, .cells #[.I q24.1, .I q24.2] 149 (0, 0))], [(b5, .cells (lM a0 v1 v2).toArray 26 (0, 0))], [(b6, .cells (lA a1).toArray 139 (0, 0))]] [g22] 11 1 [none, none, none, none, none, none, none, none, none, none, some (0, 0)] [none, none, none, none, none, none, none, none, none, none, none] [[none, some 31]] [.v (v21), .v (.Pb b29), .v (.I q24.1), .v (.string r30), .v (.string (r30 ++ (bstr [44]))), .v (.pointer (some ⟨b29, 1, none⟩)), .v (.I q24.2), .v (.string r35), .v (.string ((r30 ++ (bstr [44])) ++ r35)), .t fun τ v => ∃ (v40 : Value), (v40 : Value) = v ∧ Sl kS τ v40 [((r30 ++ (bstr [44])) ++ r35)], .t fun _ _ => True] [[fun τ u F => F = [g22], fun τ u F => ∃ (v52 : Value) (g53 : Grp), F = [g53] ∧ v52 = u ∧ Ow kS 9 τ v52 (s20.1 ++ [((r30 ++ (bstr [44])) ++ r35)]) g53]] rfl z_mix rfl ⟨fun _ _ _ hl ⟨v40, hv, hs46⟩ => ⟨v40, hv, hs46.up hl⟩, ⟨fun _ _ _ _ _ => trivial, trivial⟩⟩ ⟨⟨fun _ _ _ _ hl h => h, ⟨fun _ _ _ _ hl h => (let ⟨v52, g53, hF, hU, ho54⟩ := h; ⟨v52, g53, hF, hU, ho54.up hl⟩), trivial⟩⟩, trivial⟩ rfl rfl ?_ (allB_cons (allB_cons (allB_cons (allB_cons (allB_cons (allB_cons (allB_cons (allB_cons (allB_cons (allB_cons (allB_cons allB_nil (p4 dA)) (p4 dA)) ?_) ?_) ?_) (p4 dA)) ?_) ?_) ?_) ?_) ?_) ?_
   ·exact rfl
   ·intro ρ' τ pq rs hl hd hq hw hk
    obtain ⟨_, e1, rfl⟩ := hd 1 rfl _ rfl
    refine o_load (j := 0) (v := .I q24.1) rfl rfl rfl z_sc3 e1 rfl rfl ?_
    exact hk _ _ LR rfl
   ·intro ρ' τ pq rs hl hd hq hw hk
    obtain ⟨_, e2, rfl⟩ := hd 2 rfl _ rfl
    refine st_call (foot := []) rfl rfl rfl rfl (evs_cons e2 rfl) rfl (callV_fn z_en34 (say_Number_ok hr31 τ (hT.up (hl20.trans hl)))) ?_
    rintro _ τ32 _ hl33 ⟨rfl, rfl⟩
    exact hk _ _ hl33 rfl
   ·intro ρ' τ pq rs hl hd hq hw hk
    obtain ⟨_, e3, rfl⟩ := hd 3 rfl _ rfl
    refine o_sadd rfl rfl rfl e3 (ev_str z_str32) hf34 ?_
    exact hk _ _ LR rfl
   ·intro ρ' τ pq rs hl hd hq hw hk
    obtain ⟨_, e5, rfl⟩ := hd 5 rfl _ rfl
    refine o_load (j := 0) (v := .I q24.2) rfl rfl rfl z_sc3 e5 rfl rfl ?_
    exact hk _ _ LR rfl
   ·intro ρ' τ pq rs hl hd hq hw hk
    obtain ⟨_, e6, rfl⟩ := hd 6 rfl _ rfl
    refine st_call (foot := []) rfl rfl rfl rfl (evs_cons e6 rfl) rfl (callV_fn z_en34 (say_Number_ok hr36 τ (hT.up (hl20.trans hl)))) ?_
    rintro _ τ37 _ hl38 ⟨rfl, rfl⟩
    exact hk _ _ hl38 rfl
   ·intro ρ' τ pq rs hl hd hq hw hk
    obtain ⟨_, e4, rfl⟩ := hd 4 rfl _ rfl
    obtain ⟨_, e7, rfl⟩ := hd 7 rfl _ rfl
    refine o_sadd rfl rfl rfl e4 e7 hf39 ?_
    exact hk _ _ LR rfl
   ·intro ρ' τ pq rs hl hd hq hw hk
    obtain ⟨_, e8, rfl⟩ := hd 8 rfl _ rfl
    refine o_litE eS [((r30 ++ (bstr [44])) ++ r35)] rfl rfl rfl z_slT67 z_zero9 ⟨rfl, ⟨_, e8, rfl⟩, trivial⟩ rfl rfl rfl rfl (fun v40 g41 ho42 => ?_)
    refine st_freeze (fun τ43 hl44 hg45 => ?_)
    have hs46 := ho42.freeze hl44 hg45
    exact hk _ _ hl44 ⟨v40, rfl, hs46⟩
   ·intro ρ' τ u Fv pq rs hl hI hu hd hq hw hk
    obtain ⟨_, e0, rfl⟩ := hd 0 rfl _ rfl
    obtain ⟨_, e9, v40, rfl, hs46⟩ := hd 9 rfl _ rfl
    have hI0 := hI
    obtain rfl := hI
    refine st_ord [3, 0, 0, 0, 0] _ rfl ?_
    refine o_append (dk := kS) (xs := s20.1) (ys := [((r30 ++ (bstr [44])) ++ r35)]) rfl rfl rfl rfl z_slT67 e0 (ho23.up hl) e9 (Sl.src hs46) hf50 hf51 (fun v47 g48 ho49 => ?_)
    refine st_ord [1, 1, 1, 0, 0] _ rfl ?_
    exact hk _ _ [g48] LR trivial (by exact ⟨v47, g48, rfl, rfl, ho49⟩)
   intro ρ' τ55 vals u Fv hl55 hI hu hv hq
   obtain ⟨v52, g53, rfl, rfl, ho54⟩ := hI
   refine st_env (ρ' := [(2, .Pb b5), (3, .Pb b6), (4, .E0), (15, v1), (16, .I (a0.2.2.1.length : Int)), (17, .I s20.2), (31, v52)]) ⟨oT hq 2, oT hq 3, oT hq 4, oT hq 15, oT hq 16, oT hq 17, (by exact hu _ rfl), trivial⟩ (Z 7 ?_)
   refine st_ord [1, 1, 1] _ rfl ?_
   exact hn20 _ _ _ _ h ⟨(hl20.trans hl55), _, _, rfl, rfl, ho54⟩
  ·refine st_exit rfl ?_
   obtain rfl := he20 _ h
   replace h := hA20
   exact hk7 _ _ _ ⟨s20.1, _, _, h, hl20, rfl, rfl, ho23⟩
 ·refine Z 5 ?_
  refine I2 h (fun h => ?_) (fun h => ?_)
  ·refine st_seq ?_
   refine st_cut (fun ρ τ57 gs => ∃ (s57 : K0) (v58 : Value) (g59 : Grp), say_value_j3 s57 r ∧ σ.Le τ57 ∧ ESub ρ [(2, .Pb b5), (3, .Pb b6), (4, .E0), (5, v58)] ∧ gs = [[(b5, .cells (lM a0 v1 v2).toArray 26 (0, 0))], [(b6, .cells (lA a1).toArray 139 (0, 0))], g59] ∧ Ow kS 9 τ57 v58 s57 g59) ?_ (fun hk57 => ?_)
   ·rintro ρ57 τ57 gs57 ⟨s57, v58, g59, h, hl57, hρ, rfl, ho60⟩
    refine st_es hρ (Z 3 ?_)
    obtain ⟨r66, hr67, h⟩ := h
    refine st_ord [2, 0, 0] _ rfl ?_
    refine st_freeze (fun τ61 hl62 hg63 => ?_)
    have hs64 := ho60.freeze hl62 hg63
    refine st_call (foot := []) rfl rfl rfl rfl (evs_cons rfl (evs_cons (ev_str z_str32) rfl)) rfl (callV_fn z_en104 (strings_Join_ok hr67 τ61 hs64)) ?_
    rintro _ τ68 _ hl69 ⟨rfl, rfl⟩
    refine Z 2 ?_
    obtain rfl := h.symm
    exact RT func73 rfl ((hl57.trans hl62).trans hl69) ⟨rfl, rfl⟩
   refine ZZ 4 [1] ?_
   refine o_lenI rfl rfl rfl z_slT24 rfl hs4 (Z 2 ?_)
   obtain ⟨e70, hL70, hA70⟩ := h
   refine st_addNil ?_
   refine st_ord [2, 1, 0] _ rfl ?_
   refine st_loop hL70 (fun (s70 : K40) ρ τ70 gs => σ.Le τ70 ∧ ∃ (v71 : Value) (g72 : Grp), ESub ρ [(2, .Pb b5), (3, .Pb b6), (4, .E0), (5, v71), (38, v2), (39, .I (a0.2.2.2.1.length : Int)), (40, .I s70.2)] ∧ gs = [[(b5, .cells (lM a0 v1 v2).toArray 26 (0, 0))], [(b6, .cells (lA a1).toArray 139 (0, 0))], g72] ∧ Ow kS 9 τ70 v71 s70.1 g72) ⟨LR, _, _, rfl, rfl, Ow.nil⟩ ?_
   rintro s70 o70 h he70 ρ70 τ70 gs70 ⟨hl70, v71, g72, hρ, rfl, ho73⟩ hn70
   refine st_es hρ (Z 5 ?_)
   refine I2 h (fun h => ?_) (fun h => ?_)
   ·refine Z 5 ?_
    obtain ⟨q74, hf75, h⟩ := h
    refine o_index rfl rfl rfl z_slT24 rfl rfl (hs4.up hl70) rfl hf75 (fun b76 of77 vs hc78 hrep => ?_)
    obtain rfl := hrep
    refine o_loadI (v := .I q74) rfl rfl rfl z_sc3 rfl (hc78 0 _ rfl) (Z 5 ?_)
    obtain ⟨r79, hr80, h⟩ := h
    refine SC z_en34 (say_Number_ok hr80 τ70 (hT.up hl70)) ?_
    rintro _ τ81 _ hl82 ⟨rfl, rfl⟩
    refine o_litE eS [r79] rfl rfl rfl z_slT67 z_zero9 ⟨rfl, ⟨_, rfl, rfl⟩, trivial⟩ rfl rfl rfl rfl (fun v83 g84 ho85 => ?_)
    obtain ⟨hf89, hf90, h⟩ := h
    refine st_ord [3, 0, 0, 0] _ rfl ?_
    refine o_append (dk := kS) (xs := s70.1) (ys := [r79]) rfl rfl rfl rfl z_slT67 rfl (ho73.up hl82) rfl (Ow.src (j := 1) ho85 rfl) hf89 hf90 (fun v86 g87 ho88 => Z 7 ?_)
    refine st_ord [2, 2, 0] _ rfl ?_
    exact hn70 _ _ _ _ h ⟨(hl70.trans hl82), _, _, rfl, rfl, ho88⟩
   ·refine st_exit rfl ?_
    obtain rfl := he70 _ h
    replace h := hA70
    exact hk57 _ _ _ ⟨s70.1, _, _, h, hl70, rfl, rfl, ho73⟩
  ·refine Z 5 ?_
   refine I2 h (fun h => ?_) (fun h => ?_)
   ·refine ZZ 4 [1] ?_
    obtain ⟨r92, hr93, h⟩ := h
    refine SC z_en105 (say_hex_ok hr93 σ) ?_
    rintro _ τ94 _ hl95 ⟨rfl, rfl⟩
    refine Z 2 ?_
    obtain rfl := h.symm
    exact RT func73 rfl hl95 ⟨rfl, rfl⟩
   ·refine Z 5 ?_
    refine I2 h (fun h => ?_) (fun h => ?_)
    ·refine ZZ 4 [1] ?_
     obtain ⟨r96, hr97, h⟩ := h
     refine SC z_en105 (say_hex_ok hr97 σ) ?_
     rintro _ τ98 _ hl99 ⟨rfl, rfl⟩
     refine Z 2 ?_
     obtain rfl := h.symm
     exact RT func73 rfl hl99 ⟨rfl, rfl⟩
    ·refine ZZ 7 [0] ?_
     obtain ⟨hf100, hf101, h⟩ := h
     refine o_indexA rfl rfl rfl z_arr22 rfl rfl hf100 hf101 ?_
     refine o_loadV (j := 1) (a1.2.2.1.toNat) (f := (Value.int .i64)) (zz := 0) (l := 6) (xs := a0.2.1) [.I a0.1] [v1, v2, .string a0.t4.1, .string a0.t4.2] rfl rfl rfl z_sc3 rfl rfl (by simp only [List.length_cons, List.length_nil] <;> omega) (by omega) ?_
     obtain ⟨r102, hr103, h⟩ := h
     refine SC z_en34 (say_Number_ok hr103 σ hT) ?_
     rintro _ τ104 _ hl105 ⟨rfl, rfl⟩
     refine Z 2 ?_
     obtain rfl := h.symm
     exact RT func73 rfl hl105 ⟨rfl, rfl⟩
theorem say_Line_ok {a0 : TyM} {v1 v2 : Value} {r : ByteArray} (h : say_Line a0 r) (σ : Sto) (hs3 : Sl (kP (kI .i64) (kI .i64)) σ v1 a0.2.2.1) (hs4 : Sl (kI .i64) σ v2 a0.2.2.2.1) (hT : Tab prog σ) :
    Does prog 32 [.agg (lM a0 v1 v2).toArray] σ [] (fun v τ gs => gs = [] ∧ .string r = v) := by
 refine CO func32 ntmps32 rfl (fun cs fs => Z 2 ?_)
 refine o_box (cs := (lM a0 v1 v2)) rfl rfl rfl rfl rfl (fun b5 => ?_)
 refine o_assign rfl rfl rfl (ev_str z_str1) (ZZ 5 [0] ?_)
 obtain ⟨r6, hr7, h⟩ := h
 refine SC z_en41 (msg_Check_ok hr7 σ hs3 hs4) ?_
 rintro _ τ8 _ hl9 ⟨rfl, rfl⟩
 refine Z 2 ?_
 refine I2 h (fun h => ?_) (fun h => ?_)
 ·refine Z 2 ?_
  refine o_assign rfl rfl rfl (ev_str z_str1) ?_
  refine st_end ?_
  obtain rfl := h.symm
  exact RT func32 rfl hl9 ⟨rfl, rfl⟩
 ·refine ZZ 5 [0] ?_
  obtain ⟨r10, hr11, h⟩ := h
  refine SC z_en71 (field_Word_ok hr11 τ8) ?_
  rintro _ τ12 _ hl13 ⟨rfl, rfl⟩
  refine o_alloc rfl rfl rfl z_zero9 (fun b14 => ZZ 7 [0, 1] ?_)
  obtain ⟨r15, hr16, h⟩ := h
  refine SC z_en72 (field_All_ok hr16 τ12) ?_
  rintro _ τ17 _ hl18 ⟨f19, q20, rfl, rfl, hit21⟩
  refine Z 2 ?_
  obtain ⟨t22, w22, hR22, hA22⟩ := h
  refine st_env (ρ' := [(1, .Pb b5), (2, .E0), (3, .Pb b14), (13, .func (.func f19) #[] q20)]) ⟨rfl, rfl, rfl, rfl, trivial⟩ ?_
  refine st_ord [1, 0] _ rfl ?_
  refine st_addNil ?_
  refine st_range (B := say_Line_l1 a0) (s0 := r10) ranges_fctx rfl hit21 LR hR22 rfl (fun _ _ _ h => by cases h; rfl) (fun (s22 : ByteArray) τ22 gs => τ17.Le τ22 ∧ gs = [[(b5, .cells (lM a0 v1 v2).toArray 26 (0, 0))], [(b14, .cells #[.string s22] 9 (0, 0))]]) (fun _ _ _ _ => False) (fun _ _ _ _ hl ⟨hb, hg⟩ => ⟨hb.trans hl, hg⟩) (fun _ _ _ _ _ _ h => h.elim) ⟨LR, rfl⟩ ?_ ?_ ?_
  ·rintro x22 s22 o22 τ22 gs22 vx22 hl22 h rfl ⟨hb22, rfl⟩ l22 rc22 caller22 cs22 fs22
   refine st_region ?_
   refine o_alloc rfl rfl rfl z_zero139 (fun b23 => ZZ 2 [0] ?_)
   refine st_begin ?_
   refine st_block ?_
   obtain ⟨hf24, hf25, r26, hr27, hf30, hf31, h⟩ := h
   refine st_draw 10 (dl [.v (.string s22), .v (.Pb b23), .v (.string x22.1), .v (.string ((bstr [32]) ++ x22.1)), .v (.string (((bstr [32]) ++ x22.1) ++ (bstr [32]))), .v (.agg (lM a0 v1 v2).toArray), .v (.agg (lA x22).toArray), .v (.string r26), .v (.string ((((bstr [32]) ++ x22.1) ++ (bstr [32])) ++ r26)), .v (.string (s22 ++ ((((bstr [32]) ++ x22.1) ++ (bstr [32])) ++ r26)))]) (fun _ _ => []) z_mix rfl (dl_mono trivial) (allB_cons (allB_cons (allB_cons (allB_cons (allB_cons (allB_cons (allB_cons (allB_cons (allB_cons (allB_cons allB_nil ?_) (p1 dA)) ?_) ?_) ?_) ?_) ?_) ?_) ?_) ?_) ?_
   ·intro ρ' τ pq rs hl hd hq hk
    refine o_load (j := 2) (v := .string s22) rfl rfl rfl z_sc9 (oT hq 3) rfl rfl ?_
    exact st_addNil (hk _ _ LR rfl)
   ·intro ρ' τ pq rs hl hd hq hk
    obtain ⟨_, e1, rfl⟩ := hd 1 rfl
    refine o_load (j := 0) (v := .string x22.1) rfl rfl rfl z_sc9 e1 rfl rfl ?_
    exact st_addNil (hk _ _ LR rfl)
   ·intro ρ' τ pq rs hl hd hq hk
    obtain ⟨_, e2, rfl⟩ := hd 2 rfl
    refine o_sadd rfl rfl rfl (ev_str z_str0) e2 hf24 ?_
    exact st_addNil (hk _ _ LR rfl)
   ·intro ρ' τ pq rs hl hd hq hk
    obtain ⟨_, e3, rfl⟩ := hd 3 rfl
    refine o_sadd rfl rfl rfl e3 (ev_str z_str0) hf25 ?_
    exact st_addNil (hk _ _ LR rfl)
   ·intro ρ' τ pq rs hl hd hq hk
    refine o_loadN (j := 1) (vs := (lM a0 v1 v2)) rfl rfl rfl z_agg26 (oT hq 1) rfl rfl ?_
    exact st_addNil (hk _ _ LR rfl)
   ·intro ρ' τ pq rs hl hd hq hk
    refine o_loadN (j := 0) (vs := (lA x22)) rfl rfl rfl z_agg139 (oT hq 4) rfl rfl ?_
    exact st_addNil (hk _ _ LR rfl)
   ·intro ρ' τ pq rs hl hd hq hk
    obtain ⟨_, e5, rfl⟩ := hd 5 rfl
    obtain ⟨_, e6, rfl⟩ := hd 6 rfl
    refine st_call (foot := []) rfl rfl rfl rfl (evs_cons e5 (evs_cons e6 rfl)) rfl (callV_fn z_en73 (say_value_ok hr27 τ (hs3.up ((((hl9.trans hl13).trans hl18).trans hl22).trans hl)) (hs4.up ((((hl9.trans hl13).trans hl18).trans hl22).trans hl)) (hT.up ((((hl9.trans hl13).trans hl18).trans hl22).trans hl)))) ?_
    rintro _ τ28 _ hl29 ⟨rfl, rfl⟩
    exact st_addNil (hk _ _ hl29 rfl)
   ·intro ρ' τ pq rs hl hd hq hk
    obtain ⟨_, e4, rfl⟩ := hd 4 rfl
    obtain ⟨_, e7, rfl⟩ := hd 7 rfl
    refine o_sadd rfl rfl rfl e4 e7 hf30 ?_
    exact st_addNil (hk _ _ LR rfl)
   ·intro ρ' τ pq rs hl hd hq hk
    obtain ⟨_, e0, rfl⟩ := hd 0 rfl
    obtain ⟨_, e8, rfl⟩ := hd 8 rfl
    refine o_sadd rfl rfl rfl e0 e8 hf31 ?_
    exact st_addNil (hk _ _ LR rfl)
   intro ρ' τ32 vals hl32 hv hq
   refine st_ord [0, 0, 0] _ rfl ?_
   refine st_env (ρ' := [(24, .string (s22 ++ ((((bstr [32]) ++ x22.1) ++ (bstr [32])) ++ r26))), (1, .Pb b5), (2, .E0), (3, .Pb b14), (14, .agg (lA x22).toArray), (4, .Pb b23)]) ⟨(lv1 hv 9 rfl rfl), oT hq 1, oT hq 2, oT hq 3, oT hq 14, oT hq 4, trivial⟩ (ZZ 3 [2] ?_)
   refine st_ord [1, 1] _ rfl ?_
   exact st_rend (List.Sublist.refl _) hl32 ⟨_, h, (hl22.trans hl32), rfl⟩
  ·rintro p33 τ34 gs22 f22 ht hl35 ⟨hb, rfl⟩ rfl
   subst ht
   replace h := hA22
   refine st_ord [1, 1] _ rfl (ZZ 6 [1] ?_)
   obtain rfl := h.symm
   exact RT func32 rfl (((hl9.trans hl13).trans hl18).trans hl35) ⟨rfl, rfl⟩
  ·exact fun _ _ _ _ _ _ _ h => h.elim
theorem script_Line_ok {a0 : TyS} {v1 v2 : Value} {v3 v4 : Value} {r : ByteArray} (h : script_Line a0 r) (σ : Sto) (hs5 : Sl (kP (kI .i64) (kI .i64)) σ v1 a0.2.1.2.2.1) (hs6 : Sl (kI .i64) σ v2 a0.2.1.2.2.2.1) (hs7 : Sl (kI .u8) σ v3 a0.2.2.1.t4) (hs8 : Sl (kI .i64) σ v4 a0.2.2.2) (hT : Tab prog σ) :
    Does prog 11 [.agg (lS a0 v1 v2 v3 v4).toArray] σ [] (fun v τ gs => gs = [] ∧ .string r = v) := by
 refine CO func11 ntmps11 rfl (fun cs fs => Z 2 ?_)
 refine o_box (cs := (lS a0 v1 v2 v3 v4)) rfl rfl rfl rfl rfl (fun b9 => ?_)
 refine o_assign rfl rfl rfl (ev_str z_str1) (ZZ 5 [0] ?_)
 obtain ⟨r10, hr11, h⟩ := h
 refine SC z_en15 (script_Check_ok hr11 σ hs5 hs6 hs7 hs8 hT) ?_
 rintro _ τ12 _ hl13 ⟨rfl, rfl⟩
 refine Z 2 ?_
 refine I2 h (fun h => ?_) (fun h => ?_)
 ·refine Z 2 ?_
  refine o_assign rfl rfl rfl (ev_str z_str1) ?_
  refine st_end ?_
  obtain rfl := h.symm
  exact RT func11 rfl hl13 ⟨rfl, rfl⟩
 ·refine ZZ 13 [0] ?_
  refine I2 h (fun h => ?_) (fun h => ?_)
  ·refine ZZ 4 [0] ?_
   obtain ⟨r14, hr15, h⟩ := h
   refine SC z_en32 (say_Line_ok hr15 τ12 (hs5.up hl13) (hs6.up hl13) (hT.up hl13)) ?_
   rintro _ τ16 _ hl17 ⟨rfl, rfl⟩
   obtain ⟨hf18, h⟩ := h
   refine o_sadd rfl rfl rfl (ev_str z_str43) rfl hf18 (Z 2 ?_)
   obtain rfl := h.symm
   exact RT func11 rfl (hl13.trans hl17) ⟨rfl, rfl⟩
  ·refine Z 5 ?_
   refine I2 h (fun h => ?_) (fun h => ?_)
   ·refine ZZ 4 [0] ?_
    obtain ⟨r19, hr20, h⟩ := h
    refine SC z_en33 (noise_Line_ok hr20 τ12 (hs7.up hl13) (hT.up hl13)) ?_
    rintro _ τ21 _ hl22 ⟨rfl, rfl⟩
    refine Z 2 ?_
    obtain rfl := h.symm
    exact RT func11 rfl (hl13.trans hl22) ⟨rfl, rfl⟩
   ·refine Z 5 ?_
    refine I2 h (fun h => ?_) (fun h => ?_)
    ·refine Z 2 ?_
     refine o_assign rfl rfl rfl (ev_str z_str4) (Z 2 ?_)
     refine cutS τ12 (fun (s23 : ByteArray) => script_Line_j1 s23 r) (fun s23 => [(1, .Pb b9), (2, .E0), (3, .string s23)]) (fun s23 => [[(b9, .cells (lS a0 v1 v2 v3 v4).toArray 31 (0, 0))]]) (fun s23 τ23 h hl23 => (Z 5 ?_)) (fun hk23 => ?_)
     ·obtain rfl := h.symm
      exact RT func11 rfl (hl13.trans hl23) ⟨rfl, rfl⟩
     refine ZZ 4 [0] ?_
     refine o_lenI rfl rfl rfl z_slT24 rfl (hs8.up hl13) (Z 2 ?_)
     obtain ⟨e24, hL24, hA24⟩ := h
     refine st_loop hL24 (fun (s24 : K15) ρ τ24 gs => τ12.Le τ24 ∧ ESub ρ [(1, .Pb b9), (2, .E0), (3, .string s24.1), (25, v4), (26, .I (a0.2.2.2.length : Int)), (27, .I s24.2)] ∧ gs = [[(b9, .cells (lS a0 v1 v2 v3 v4).toArray 31 (0, 0))]]) ⟨LR, rfl, rfl⟩ ?_
     rintro s24 o24 h he24 ρ24 τ24 gs24 ⟨hl24, hρ, rfl⟩ hn24
     refine st_es hρ (Z 5 ?_)
     refine I2 h (fun h => ?_) (fun h => ?_)
     ·refine Z 5 ?_
      obtain ⟨q25, hf26, h⟩ := h
      refine o_index rfl rfl rfl z_slT24 rfl rfl (hs8.up (hl13.trans hl24)) rfl hf26 (fun b27 of28 vs hc29 hrep => ?_)
      obtain rfl := hrep
      refine o_loadI (v := .I q25) rfl rfl rfl z_sc3 rfl (hc29 0 _ rfl) (Z 5 ?_)
      obtain ⟨r30, hr31, h⟩ := h
      refine SC z_en34 (say_Number_ok hr31 τ24 (hT.up (hl13.trans hl24))) ?_
      rintro _ τ32 _ hl33 ⟨rfl, rfl⟩
      obtain ⟨hf34, h⟩ := h
      refine o_sadd rfl rfl rfl (ev_str z_str0) rfl hf34 ?_
      obtain ⟨hf35, h⟩ := h
      refine o_sadd rfl rfl rfl rfl rfl hf35 (Z 7 ?_)
      exact hn24 _ _ _ _ h ⟨(hl24.trans hl33), rfl, rfl⟩
     ·refine st_exit rfl ?_
      obtain rfl := he24 _ h
      replace h := hA24
      exact hk23 _ _ _ ⟨s24.1, h, hl24, rfl, rfl⟩
    ·refine ZZ 6 [0] ?_
     obtain ⟨r37, hr38, h⟩ := h
     refine SC z_en35 (script_word_ok hr38 τ12) ?_
     rintro _ τ39 _ hl40 ⟨rfl, rfl⟩
     refine Z 2 ?_
     obtain rfl := h.symm
     exact RT func11 rfl (hl13.trans hl40) ⟨rfl, rfl⟩
theorem script_Print_ok {a0 : Int × Int × Int} {a1 : Int × Int} {a2 : List (TyS)} {v1 : Value} {r : ByteArray × Int} (h : script_Print a0 a1 a2 r) (σ : Sto) (hs2 : Sl (kP (kI .i64) (kP (kP (kI .i64) (kP (kA .i64 6) (kP (kSl (kP (kI .i64) (kI .i64))) (kP (kSl (kI .i64)) (kP kS kS))))) (kP (kP (kI .i64) (kP (kI .i64) (kP (kI .i64) (kP (kI .i64) (kSl (kI .u8)))))) (kSl (kI .i64))))) σ v1 a2) (hT : Tab prog σ) :
    Does prog 22 [.agg [.I a0.1, .I a0.2.1, .int .u32 a0.2.2].toArray, .agg [.int .u32 a1.1, .I a1.2].toArray, v1] σ [] (fun v τ gs => gs = [] ∧ .tuple [.string r.1, .I r.2].toArray = v) := by
 refine CO func22 ntmps22 rfl (fun cs fs => Z 2 ?_)
 refine o_boxC rfl rfl rfl rfl rfl rfl (fun b3 => ?_)
 refine o_boxC rfl rfl rfl rfl rfl rfl (fun b4 => ?_)
 refine o_assign rfl rfl rfl (ev_str z_str1) (ZZ 6 [1] ?_)
 obtain ⟨r5, hr6, h⟩ := h
 refine SC z_en55 (conf_CheckSender_ok hr6 σ) ?_
 rintro _ τ7 _ hl8 ⟨rfl, rfl⟩
 refine Z 7 ?_
 refine I2 h (fun h => ?_) (fun h => ?_)
 ·refine Z 3 ?_
  refine o_assign rfl rfl rfl (ev_str z_str1) (Z 2 ?_)
  obtain rfl := h.symm
  exact RT func22 rfl hl8 ⟨rfl, rfl⟩
 ·refine ZZ 5 [0] ?_
  obtain ⟨r9, hr10, h⟩ := h
  refine SC z_en56 (conf_CheckReceiver_ok hr10 τ7) ?_
  rintro _ τ11 _ hl12 ⟨rfl, rfl⟩
  refine Z 7 ?_
  refine I2 h (fun h => ?_) (fun h => ?_)
  ·refine Z 3 ?_
   refine o_assign rfl rfl rfl (ev_str z_str1) (Z 2 ?_)
   obtain rfl := h.symm
   exact RT func22 rfl (hl8.trans hl12) ⟨rfl, rfl⟩
  ·refine ZZ 5 [1, 0] ?_
   obtain ⟨r13, hr14, h⟩ := h
   refine SC z_en57 (conf_Line_ok hr14 τ11 (hT.up (hl8.trans hl12))) ?_
   rintro _ τ15 _ hl16 ⟨rfl, rfl⟩
   obtain ⟨hf17, h⟩ := h
   refine o_sadd rfl rfl rfl rfl (ev_str z_str42) hf17 (Z 3 ?_)
   refine cutS τ15 (fun (s18 : ByteArray) => script_Print_j1 s18 r) (fun s18 => [(6, .E0), (7, .I 0), (10, .string s18)]) (fun s18 => []) (fun s18 τ18 h hl18 => (Z 6 ?_)) (fun hk18 => ?_)
   ·obtain rfl := h.symm
    exact RT func22 rfl (((hl8.trans hl12).trans hl16).trans hl18) ⟨rfl, rfl⟩
   refine Z 3 ?_
   refine o_lenI rfl rfl rfl z_slT59 rfl (hs2.up ((hl8.trans hl12).trans hl16)) (Z 2 ?_)
   obtain ⟨e19, hL19, hA19⟩ := h
   refine st_ord [] _ rfl ?_
   refine st_loop hL19 (fun (s19 : K15) ρ τ19 gs => τ15.Le τ19 ∧ ESub ρ [(6, .E0), (7, .I 0), (10, .string s19.1), (28, v1), (29, .I (a2.length : Int)), (30, .I s19.2)] ∧ gs = []) ⟨LR, rfl, rfl⟩ ?_
   rintro s19 o19 h he19 ρ19 τ19 gs19 ⟨hl19, hρ, rfl⟩ hn19
   refine st_es hρ (Z 5 ?_)
   refine I2 h (fun h => ?_) (fun h => ?_)
   ·refine Z 5 ?_
    obtain ⟨q20, hf21, h⟩ := h
    refine o_index rfl rfl rfl z_slT59 rfl rfl (hs2.up (((hl8.trans hl12).trans hl16).trans hl19)) rfl hf21 (fun b22 of23 vs hc28 hrep => ?_)
    obtain ⟨_, _, rfl, rfl, ⟨_, _, rfl, ⟨_, _, rfl, rfl, ⟨_, _, rfl, rfl, ⟨_, _, rfl, ⟨v24, rfl, hs29⟩, ⟨_, _, rfl, ⟨v25, rfl, hs30⟩, ⟨_, _, rfl, rfl, rfl⟩⟩⟩⟩⟩, ⟨_, _, rfl, ⟨_, _, rfl, rfl, ⟨_, _, rfl, rfl, ⟨_, _, rfl, rfl, ⟨_, _, rfl, rfl, ⟨v26, rfl, hs31⟩⟩⟩⟩⟩, ⟨v27, rfl, hs32⟩⟩⟩⟩ := hrep
    refine o_loadIN (vs := (lS q20 v24 v25 v26 v27)) rfl rfl rfl z_agg31 rfl rfl (celn_part 0 rfl hc28) ?_
    refine o_alloc rfl rfl rfl z_zero31 (fun b33 => ?_)
    refine o_store (j := 0) (vs := (lS q20 v24 v25 v26 v27)) (cs' := (lS q20 v24 v25 v26 v27)) rfl rfl rfl z_size31 rfl rfl rfl (o4 (o4 (ones_cons hs29.one' (ones_cons hs30.one' (o4 (ones_cons rfl (ones_cons rfl (ones_cons hs31.one' (ones_cons hs32.one' ones_nil))))))))) rfl rfl rfl (ZZ 5 [0] ?_)
    obtain ⟨r34, hr35, h⟩ := h
    refine st_call (foot := []) rfl rfl rfl rfl rfl rfl (callV_fn z_en15 (script_Check_ok hr35 τ19 hs29 hs30 hs31 hs32 (hT.up (((hl8.trans hl12).trans hl16).trans hl19)))) ?_
    rintro _ τ36 _ hl37 ⟨rfl, rfl⟩
    refine Z 7 ?_
    refine I2 h (fun h => ?_) (fun h => ?_)
    ·refine Z 3 ?_
     refine o_assign rfl rfl rfl (ev_str z_str1) (Z 2 ?_)
     refine st_ord [] _ rfl ?_
     obtain rfl := he19 _ h
     replace h := hA19
     obtain rfl := h.symm
     exact RT func22 rfl ((((hl8.trans hl12).trans hl16).trans hl19).trans hl37) ⟨rfl, rfl⟩
    ·refine ZZ 4 [0] ?_
     obtain ⟨r38, hr39, h⟩ := h
     refine st_call (foot := []) rfl rfl rfl rfl rfl rfl (callV_fn z_en11 (script_Line_ok hr39 τ36 (hs29.up hl37) (hs30.up hl37) (hs31.up hl37) (hs32.up hl37) (hT.up ((((hl8.trans hl12).trans hl16).trans hl19).trans hl37)))) ?_
     rintro _ τ40 _ hl41 ⟨rfl, rfl⟩
     obtain ⟨hf42, h⟩ := h
     refine o_sadd rfl rfl rfl rfl (ev_str z_str42) hf42 ?_
     obtain ⟨hf43, h⟩ := h
     refine o_sadd rfl rfl rfl rfl rfl hf43 (Z 7 ?_)
     refine st_ord [] _ rfl ?_
     exact hn19 _ _ _ _ h ⟨((hl19.trans hl37).trans hl41), rfl, rfl⟩
   ·refine st_exit rfl ?_
    obtain rfl := he19 _ h
    replace h := hA19
    exact hk18 _ _ _ ⟨s19.1, h, hl19, rfl, rfl⟩
theorem law27_known_ok  {r : Bool} (h : law27_known r) (σ : Sto) (hT : Tab prog σ) :
    Does prog 9 [] σ [] (fun v τ gs => gs = [] ∧ .bool r = v) := by
 refine CO func9 ntmps9 rfl (fun cs fs => ZZ 8 [] ?_)
 refine o_buildA (ps := [(0, [.I 1]), (1, [.I 2]), (2, [.I 3])]) (cs := [.I 1, .I 2, .I 3, .I 0, .I 0, .I 0]) rfl rfl rfl z_arrz22 ⟨rfl, ⟨_, rfl, rfl⟩, ⟨rfl, ⟨_, rfl, rfl⟩, ⟨rfl, ⟨_, rfl, rfl⟩, trivial⟩⟩⟩ rfl (ZZ 2 [] ?_)
 refine o_litE (eI .i64) [1, 2] rfl rfl rfl z_slT24 z_zero3 ⟨rfl, ⟨_, rfl, rfl⟩, ⟨rfl, ⟨_, rfl, rfl⟩, trivial⟩⟩ rfl rfl rfl rfl (fun v1 g2 ho3 => ?_)
 refine o_build (ps := [(0, [.I 4]), (3, [v1])]) rfl rfl rfl z_struct31 ⟨rfl, ⟨_, rfl, rfl⟩, ⟨rfl, ⟨_, rfl, (oneL_ow ho3)⟩, trivial⟩⟩ rfl (ZZ 1 [] ?_)
 refine st_freeze (fun τ4 hl5 hg6 => ?_)
 have hs7 := ho3.freeze hl5 hg6
 refine o_lit (dk := (kP (kI .i64) (kP (kP (kI .i64) (kP (kA .i64 6) (kP (kSl (kP (kI .i64) (kI .i64))) (kP (kSl (kI .i64)) (kP kS kS))))) (kP (kP (kI .i64) (kP (kI .i64) (kP (kI .i64) (kP (kI .i64) (kSl (kI .u8)))))) (kSl (kI .i64)))))) (xs := [(1, (2, [1, 2, 3, 0, 0, 0], [], [], (bstr []), (bstr [])), (0, 0, 0, 0, []), []), (4, (0, (List.replicate 6 0), [], [], (bstr []), (bstr [])), (0, 0, 0, 0, []), [1, 2]), (3, (0, (List.replicate 6 0), [], [], (bstr []), (bstr [])), (0, 0, 0, 0, []), [])]) (ps := [(0, [.I 1, .I 2, .I 1, .I 2, .I 3, .I 0, .I 0, .I 0, .N0, .N0, .E0, .E0, .I 0, .I 0, .I 0, .I 0, .N0, .N0]), (1, [.I 4, .I 0, .I 0, .I 0, .I 0, .I 0, .I 0, .I 0, .N0, .N0, .E0, .E0, .I 0, .I 0, .I 0, .I 0, .N0, v1]), (2, [.I 3, .I 0, .I 0, .I 0, .I 0, .I 0, .I 0, .I 0, .N0, .N0, .E0, .E0, .I 0, .I 0, .I 0, .I 0, .N0, .N0])]) (cs := ((.I 1) :: (.I 2) :: (.I 1) :: (.I 2) :: (.I 3) :: (.I 0) :: (.I 0) :: (.I 0) :: (.N0) :: (.N0) :: (.E0) :: (.E0) :: (.I 0) :: (.I 0) :: (.I 0) :: (.I 0) :: (.N0) :: (.N0) :: (.I 4) :: (.I 0) :: (.I 0) :: (.I 0) :: (.I 0) :: (.I 0) :: (.I 0) :: (.I 0) :: (.N0) :: (.N0) :: (.E0) :: (.E0) :: (.I 0) :: (.I 0) :: (.I 0) :: (.I 0) :: (.N0) :: v1 :: (.I 3) :: (.I 0) :: (.I 0) :: (.I 0) :: (.I 0) :: (.I 0) :: (.I 0) :: (.I 0) :: (.N0) :: (.N0) :: (.E0) :: (.E0) :: (.I 0) :: (.I 0) :: (.I 0) :: (.I 0) :: (.N0) :: (.N0) :: [])) rfl rfl rfl z_slT59 z_zero31 ⟨rfl, ⟨_, rfl, rfl⟩, ⟨rfl, ⟨_, rfl, rfl⟩, ⟨rfl, ⟨_, rfl, rfl⟩, trivial⟩⟩⟩ rfl rfl rfl rfl (Kd.Many.cons (d := (kP (kI .i64) (kP (kP (kI .i64) (kP (kA .i64 6) (kP (kSl (kP (kI .i64) (kI .i64))) (kP (kSl (kI .i64)) (kP kS kS))))) (kP (kP (kI .i64) (kP (kI .i64) (kP (kI .i64) (kP (kI .i64) (kSl (kI .u8)))))) (kSl (kI .i64)))))) (x := (1, (2, [1, 2, 3, 0, 0, 0], [], [], (bstr []), (bstr [])), (0, 0, 0, 0, []), [])) (a := [.I 1, .I 2, .I 1, .I 2, .I 3, .I 0, .I 0, .I 0, .N0, .N0, .E0, .E0, .I 0, .I 0, .I 0, .I 0, .N0, .N0]) ⟨[.I 1], _, rfl, rfl, ⟨[.I 2, .I 1, .I 2, .I 3, .I 0, .I 0, .I 0, .N0, .N0, .E0, .E0], _, rfl, ⟨[.I 2], _, rfl, rfl, ⟨[.I 1, .I 2, .I 3, .I 0, .I 0, .I 0], _, rfl, rfl, ⟨[.N0], _, rfl, ⟨_, rfl, Sl.nil⟩, ⟨[.N0], _, rfl, ⟨_, rfl, Sl.nil⟩, ⟨[.E0], _, rfl, rfl, rfl⟩⟩⟩⟩⟩, ⟨[.I 0, .I 0, .I 0, .I 0, .N0], _, rfl, ⟨[.I 0], _, rfl, rfl, ⟨[.I 0], _, rfl, rfl, ⟨[.I 0], _, rfl, rfl, ⟨[.I 0], _, rfl, rfl, ⟨_, rfl, Sl.nil⟩⟩⟩⟩⟩, ⟨_, rfl, Sl.nil⟩⟩⟩⟩ (Kd.Many.cons (d := (kP (kI .i64) (kP (kP (kI .i64) (kP (kA .i64 6) (kP (kSl (kP (kI .i64) (kI .i64))) (kP (kSl (kI .i64)) (kP kS kS))))) (kP (kP (kI .i64) (kP (kI .i64) (kP (kI .i64) (kP (kI .i64) (kSl (kI .u8)))))) (kSl (kI .i64)))))) (x := (4, (0, (List.replicate 6 0), [], [], (bstr []), (bstr [])), (0, 0, 0, 0, []), [1, 2])) (a := [.I 4, .I 0, .I 0, .I 0, .I 0, .I 0, .I 0, .I 0, .N0, .N0, .E0, .E0, .I 0, .I 0, .I 0, .I 0, .N0, v1]) ⟨[.I 4], _, rfl, rfl, ⟨lY, _, rfl, ⟨[.I 0], _, rfl, rfl, ⟨[.I 0, .I 0, .I 0, .I 0, .I 0, .I 0], _, rfl, rfl, ⟨[.N0], _, rfl, ⟨_, rfl, Sl.nil⟩, ⟨[.N0], _, rfl, ⟨_, rfl, Sl.nil⟩, ⟨[.E0], _, rfl, rfl, rfl⟩⟩⟩⟩⟩, ⟨[.I 0, .I 0, .I 0, .I 0, .N0], _, rfl, ⟨[.I 0], _, rfl, rfl, ⟨[.I 0], _, rfl, rfl, ⟨[.I 0], _, rfl, rfl, ⟨[.I 0], _, rfl, rfl, ⟨_, rfl, Sl.nil⟩⟩⟩⟩⟩, ⟨_, rfl, hs7⟩⟩⟩⟩ (Kd.Many.cons (d := (kP (kI .i64) (kP (kP (kI .i64) (kP (kA .i64 6) (kP (kSl (kP (kI .i64) (kI .i64))) (kP (kSl (kI .i64)) (kP kS kS))))) (kP (kP (kI .i64) (kP (kI .i64) (kP (kI .i64) (kP (kI .i64) (kSl (kI .u8)))))) (kSl (kI .i64)))))) (x := (3, (0, (List.replicate 6 0), [], [], (bstr []), (bstr [])), (0, 0, 0, 0, []), [])) (a := [.I 3, .I 0, .I 0, .I 0, .I 0, .I 0, .I 0, .I 0, .N0, .N0, .E0, .E0, .I 0, .I 0, .I 0, .I 0, .N0, .N0]) ⟨[.I 3], _, rfl, rfl, ⟨lY, _, rfl, ⟨[.I 0], _, rfl, rfl, ⟨[.I 0, .I 0, .I 0, .I 0, .I 0, .I 0], _, rfl, rfl, ⟨[.N0], _, rfl, ⟨_, rfl, Sl.nil⟩, ⟨[.N0], _, rfl, ⟨_, rfl, Sl.nil⟩, ⟨[.E0], _, rfl, rfl, rfl⟩⟩⟩⟩⟩, ⟨[.I 0, .I 0, .I 0, .I 0, .N0], _, rfl, ⟨[.I 0], _, rfl, rfl, ⟨[.I 0], _, rfl, rfl, ⟨[.I 0], _, rfl, rfl, ⟨[.I 0], _, rfl, rfl, ⟨_, rfl, Sl.nil⟩⟩⟩⟩⟩, ⟨_, rfl, Sl.nil⟩⟩⟩⟩ Kd.Many.nil))) (fun v9 g10 ho11 => ?_)
 obtain ⟨r16, hr17, h⟩ := h
 refine st_freeze (fun τ12 hl13 hg14 => ?_)
 have hs15 := ho11.freeze hl13 hg14
 refine SC z_en22 (script_Print_ok hr17 τ12 hs15 (hT.up (hl5.trans hl13))) ?_
 rintro _ τ18 _ hl19 ⟨rfl, rfl⟩
 refine Z 7 ?_
 refine cutS τ18 (fun (s20 : Bool) => law27_known_j1 s20 r) (fun s20 => [(0, .bool s20)]) (fun s20 => []) (fun s20 τ20 h hl20 => ?_) (fun hk20 => ?_)
 ·obtain rfl := h.symm
  exact RT func9 rfl (((hl5.trans hl13).trans hl19).trans hl20) ⟨rfl, rfl⟩
 refine Z 3 ?_
 refine M2 h (fun h => ?_) (fun h => ?_)
 ·refine o_move rfl rfl rfl rfl ?_
  refine o_sbin (v := .bool (decide (r16.1 = (bstr [108, 105, 110, 107, 32, 50, 32, 54, 52, 32, 49, 48, 32, 49, 48, 32, 52, 10, 115, 101, 110, 100, 32, 104, 111, 108, 100, 32, 114, 111, 98, 111, 116, 32, 49, 32, 114, 101, 97, 115, 111, 110, 32, 50, 32, 122, 111, 110, 101, 32, 51, 10, 99, 104, 117, 110, 107, 32, 49, 32, 50, 10, 97, 108, 108, 10])))) rfl rfl rfl rfl (ev_str z_str44) rfl (Z 3 ?_)
  exact hk20 _ _ _ ⟨(decide (r16.1 = (bstr [108, 105, 110, 107, 32, 50, 32, 54, 52, 32, 49, 48, 32, 49, 48, 32, 52, 10, 115, 101, 110, 100, 32, 104, 111, 108, 100, 32, 114, 111, 98, 111, 116, 32, 49, 32, 114, 101, 97, 115, 111, 110, 32, 50, 32, 122, 111, 110, 101, 32, 51, 10, 99, 104, 117, 110, 107, 32, 49, 32, 50, 10, 97, 108, 108, 10]))), h, LR, rfl, rfl⟩
 ·refine Z 5 ?_
  exact hk20 _ _ _ ⟨false, h, LR, rfl, rfl⟩
theorem law17_Of_ok {a0 : TyM} {v1 v2 : Value} {r : (TyR)} (h : law17_Of a0 r) (σ : Sto) (hs3 : Sl (kP (kI .i64) (kI .i64)) σ v1 a0.2.2.1) (hs4 : Sl (kI .i64) σ v2 a0.2.2.2.1) :
    Does prog 39 [.agg (lM a0 v1 v2).toArray] σ [] (fun v τ gs => ∃ (v49 v50 : Value), gs = [] ∧ .agg (lM r v49 v50).toArray = v ∧ Sl (kA .i64 2) τ v49 r.2.2.1 ∧ Sl (kI .i64) τ v50 r.2.2.2.1) := by
 refine CO func39 ntmps39 rfl (fun cs fs => Z 2 ?_)
 refine o_box (cs := (lM a0 v1 v2)) rfl rfl rfl rfl rfl (fun b5 => ?_)
 refine o_alloc rfl rfl rfl z_zero37 (fun b6 => ZZ 13 [1, 1, 1, 1, 1] ?_)
 refine o_build (ps := [(0, [.I a0.1]), (1, [.I (a0.2.1.getD 0 0), .I (a0.2.1.getD 1 0), .I (a0.2.1.getD 2 0), .I (a0.2.1.getD 3 0), .I (a0.2.1.getD 4 0), .I (a0.2.1.getD 5 0)]), (3, [v2]), (4, [.string a0.t4.1]), (5, [.string a0.t4.2])]) rfl rfl rfl z_struct37 ⟨rfl, ⟨_, rfl, rfl⟩, ⟨rfl, ⟨_, rfl, rfl⟩, ⟨rfl, ⟨_, rfl, (oneL_sl hs4)⟩, ⟨rfl, ⟨_, rfl, rfl⟩, ⟨rfl, ⟨_, rfl, rfl⟩, trivial⟩⟩⟩⟩⟩ rfl ?_
 refine o_alloc rfl rfl rfl z_zero37 (fun b7 => ?_)
 refine o_store (j := 0) (vs := (lM a0 .N0 v2)) (cs' := (lM a0 .N0 v2)) rfl rfl rfl z_size37 rfl rfl rfl (o4 (o4 (ones_cons hs4.one' (ones_cons rfl (ones_cons rfl ones_nil))))) rfl rfl rfl (Z 2 ?_)
 refine st_cut (fun ρ τ8 gs => ∃ (s8 : List (List Int)) (v9 : Value) (g10 : Grp), law17_Of_j1 a0 s8 r ∧ σ.Le τ8 ∧ ESub ρ [(2, .Pb b6), (3, .Pb b7)] ∧ gs = [[(b6, .cells lY.toArray 37 (0, 0))], [(b7, .cells (lM a0 v9 v2).toArray 37 (0, 0))], g10] ∧ Ow (kA .i64 2) 134 τ8 v9 s8 g10) ?_ (fun hk8 => ?_)
 ·rintro ρ8 τ8 gs8 ⟨s8, v9, g10, h, hl8, hρ, rfl, ho11⟩
  refine st_es hρ (ZZ 3 [1] ?_)
  refine o_store (j := 0) (vs := (lM a0 v9 v2)) (cs' := (lM a0 v9 v2)) rfl rfl rfl z_size37 rfl rfl rfl (o4 (ones_cons rfl (ones_cons rfl (ones_cons rfl (ones_cons ho11.one' (ones_cons (hs4.up hl8).one' (ones_cons rfl (ones_cons rfl ones_nil)))))))) rfl rfl rfl ?_
  refine st_end ?_
  refine st_ord [2, 0, 0] _ rfl ?_
  refine st_freeze (fun τ12 hl13 hg14 => ?_)
  have hs15 := ho11.freeze hl13 hg14
  obtain rfl := h.symm
  exact RC [.agg (lM a0 v9 v2).toArray] func39 ⟨cN 0 z_agg37, trivial⟩ (hl8.trans hl13) ⟨_, _, rfl, rfl, hs15, (hs4.up (hl8.trans hl13))⟩
 refine Z 4 ?_
 obtain ⟨e18, hL18, hA18⟩ := h
 refine st_addNil ?_
 refine st_ord [3, 2, 1, 0] _ rfl ?_
 refine st_loop hL18 (fun (s18 : Int × List (List Int)) ρ τ18 gs => σ.Le τ18 ∧ ∃ (v19 : Value) (g20 : Grp), ESub ρ [(1, .Pb b5), (2, .Pb b6), (3, .Pb b7), (4, .I s18.1)] ∧ gs = [[(b5, .cells (lM a0 v1 v2).toArray 26 (0, 0))], [(b6, .cells lY.toArray 37 (0, 0))], [(b7, .cells (lM a0 v19 v2).toArray 37 (0, 0))], g20] ∧ Ow (kA .i64 2) 134 τ18 v19 s18.2 g20) ⟨LR, _, _, rfl, rfl, Ow.nil⟩ ?_
 rintro s18 o18 h he18 ρ18 τ18 gs18 ⟨hl18, v19, g20, hρ, rfl, ho21⟩ hn18
 refine st_es hρ (ZZ 6 [0] ?_)
 refine o_lenI rfl rfl rfl z_slT23 rfl (hs3.up hl18) (Z 2 ?_)
 refine I2 h (fun h => ?_) (fun h => ?_)
 ·refine Z 3 ?_
  obtain ⟨q22, hf23, q27, hf28, hf42, hf43, h⟩ := h
  refine st_d41 [[(b5, .cells (lM a0 v1 v2).toArray 26 (0, 0))], [(b6, .cells lY.toArray 37 (0, 0))]] [[(b7, .cells (lM a0 v19 v2).toArray 37 (0, 0))], g20] 17 2 [none, some (0, 0), none, none, none, none, none, none, none, none, none, none, none, none, none, none, some (0, 1)] [none, none, none, none, none, none, none, none, none, none, none, none, none, none, none, none, none] [[none, some 24, some 39]] [.v (.pointer (some ⟨b7, 7, none⟩)), .v (v19), .v (.pointer (some ⟨b5, 7, none⟩)), .v (v1), .v (.I s18.1), .t fun τ v => ∃ (b24 of25 : Nat) (vsb24 : K10), (.pointer (some ⟨b24, of25, none⟩) : Value) = v ∧ CelN τ ⟨b24, of25, none⟩ vsb24 ∧ (kP (kI .i64) (kI .i64)).rep τ vsb24 q22, .t fun τ v => ∃ (b24 of25 : Nat) (vsb24 : K10), (.pointer (some ⟨b24, of25, none⟩) : Value) = v ∧ CelN τ ⟨b24, of25, none⟩ vsb24 ∧ (kP (kI .i64) (kI .i64)).rep τ vsb24 q22, .v (.I q22.1), .v (.pointer (some ⟨b5, 7, none⟩)), .v (v1), .v (.I s18.1), .t fun τ v => ∃ (b29 of30 : Nat) (vsb29 : K10), (.pointer (some ⟨b29, of30, none⟩) : Value) = v ∧ CelN τ ⟨b29, of30, none⟩ vsb29 ∧ (kP (kI .i64) (kI .i64)).rep τ vsb29 q27, .t fun τ v => ∃ (b29 of30 : Nat) (vsb29 : K10), (.pointer (some ⟨b29, of30 + 1, none⟩) : Value) = v ∧ CelN τ ⟨b29, of30, none⟩ vsb29 ∧ (kP (kI .i64) (kI .i64)).rep τ vsb29 q27, .v (.I q27.2), .v (.agg #[.I q22.1, .I q27.2]), .t fun τ v => ∃ (v32 : Value), (v32 : Value) = v ∧ Sl (kA .i64 2) τ v32 [[q22.1, q27.2]], .t fun _ _ => True] [[fun τ u F => F = [[(b7, .cells (lM a0 v19 v2).toArray 37 (0, 0))], g20], fun τ u F => F = [[(b7, .cells (lM a0 v19 v2).toArray 37 (0, 0))], g20], fun τ u F => ∃ (v44 : Value) (g45 : Grp), F = [g45, [(b7, .cells (lM a0 v19 v2).toArray 37 (0, 0))]] ∧ v44 = u ∧ Ow (kA .i64 2) 134 τ v44 (s18.2 ++ [[q22.1, q27.2]]) g45]] rfl z_mix rfl ⟨fun _ _ _ hl ⟨b24, of25, vsb24, hv, hc26, hrepb24⟩ => ⟨b24, of25, vsb24, hv, hc26.up hl, Kd.mono _ hl hrepb24⟩, ⟨fun _ _ _ hl ⟨b24, of25, vsb24, hv, hc26, hrepb24⟩ => ⟨b24, of25, vsb24, hv, hc26.up hl, Kd.mono _ hl hrepb24⟩, ⟨fun _ _ _ hl ⟨b29, of30, vsb29, hv, hc31, hrepb29⟩ => ⟨b29, of30, vsb29, hv, hc31.up hl, Kd.mono _ hl hrepb29⟩, ⟨fun _ _ _ hl ⟨b29, of30, vsb29, hv, hc31, hrepb29⟩ => ⟨b29, of30, vsb29, hv, hc31.up hl, Kd.mono _ hl hrepb29⟩, ⟨fun _ _ _ hl ⟨v32, hv, hs38⟩ => ⟨v32, hv, hs38.up hl⟩, ⟨fun _ _ _ _ _ => trivial, trivial⟩⟩⟩⟩⟩⟩ ⟨⟨fun _ _ _ _ hl h => h, ⟨fun _ _ _ _ hl h => h, ⟨fun _ _ _ _ hl h => (let ⟨v44, g45, hF, hU, ho46⟩ := h; ⟨v44, g45, hF, hU, ho46.up hl⟩), trivial⟩⟩⟩, trivial⟩ rfl rfl ?_ (allB_cons (allB_cons (allB_cons (allB_cons (allB_cons (allB_cons (allB_cons (allB_cons (allB_cons (allB_cons (allB_cons (allB_cons (allB_cons (allB_cons (allB_cons (allB_cons (allB_cons allB_nil (p4 dA)) ?_) (p4 dA)) ?_) (p4 dA)) ?_) ?_) ?_) (p4 dA)) ?_) (p4 dA)) ?_) ?_) ?_) ?_) ?_) ?_) ?_
  ·exact rfl
  ·intro ρ' τ u Fv pq rs hl hI hu hd hq hw hk
   obtain ⟨_, e0, rfl⟩ := hd 0 rfl _ rfl
   have hI0 := hI
   obtain rfl := hI
   refine o_load (j := 2) (v := v19) rfl rfl rfl z_sc35 e0 rfl rfl ?_
   exact hk _ _ [[(b7, .cells (lM a0 v19 v2).toArray 37 (0, 0))], g20] LR rfl (by exact hI0)
  ·intro ρ' τ pq rs hl hd hq hw hk
   obtain ⟨_, e2, rfl⟩ := hd 2 rfl _ rfl
   refine o_load (j := 0) (v := v1) rfl rfl rfl z_sc23 e2 rfl rfl ?_
   exact hk _ _ LR rfl
  ·intro ρ' τ pq rs hl hd hq hw hk
   obtain ⟨_, e3, rfl⟩ := hd 3 rfl _ rfl
   obtain ⟨_, e4, rfl⟩ := hd 4 rfl _ rfl
   refine o_index rfl rfl rfl z_slT23 rfl e3 (hs3.up (hl18.trans hl)) e4 hf23 (fun b24 of25 vsb24 hc26 hrepb24 => ?_)
   exact hk _ _ LR ⟨b24, of25, _, rfl, hc26, hrepb24⟩
  ·intro ρ' τ pq rs hl hd hq hw hk
   obtain ⟨_, e5, b24, of25, vsb24, rfl, hc26, hrepb24⟩ := hd 5 rfl _ rfl
   have hrepb24 := hrepb24
   obtain ⟨_, _, rfl, rfl, rfl⟩ := hrepb24
   refine o_fieldAddr rfl rfl rfl z_field149_0 e5 ?_
   exact hk _ _ LR ⟨b24, of25, _, rfl, hc26, hrepb24⟩
  ·intro ρ' τ pq rs hl hd hq hw hk
   obtain ⟨_, e6, b24, of25, vsb24, rfl, hc26, hrepb24⟩ := hd 6 rfl _ rfl
   have hrepb24 := hrepb24
   obtain ⟨_, _, rfl, rfl, rfl⟩ := hrepb24
   refine o_loadI (v := .I q22.1) rfl rfl rfl z_sc3 e6 (hc26 0 _ rfl) ?_
   exact hk _ _ LR rfl
  ·intro ρ' τ pq rs hl hd hq hw hk
   obtain ⟨_, e8, rfl⟩ := hd 8 rfl _ rfl
   refine o_load (j := 0) (v := v1) rfl rfl rfl z_sc23 e8 rfl rfl ?_
   exact hk _ _ LR rfl
  ·intro ρ' τ pq rs hl hd hq hw hk
   obtain ⟨_, e9, rfl⟩ := hd 9 rfl _ rfl
   obtain ⟨_, e10, rfl⟩ := hd 10 rfl _ rfl
   refine o_index rfl rfl rfl z_slT23 rfl e9 (hs3.up (hl18.trans hl)) e10 hf28 (fun b29 of30 vsb29 hc31 hrepb29 => ?_)
   exact hk _ _ LR ⟨b29, of30, _, rfl, hc31, hrepb29⟩
  ·intro ρ' τ pq rs hl hd hq hw hk
   obtain ⟨_, e11, b29, of30, vsb29, rfl, hc31, hrepb29⟩ := hd 11 rfl _ rfl
   have hrepb29 := hrepb29
   obtain ⟨_, _, rfl, rfl, rfl⟩ := hrepb29
   refine o_fieldAddr rfl rfl rfl z_field149_1 e11 ?_
   exact hk _ _ LR ⟨b29, of30, _, rfl, hc31, hrepb29⟩
  ·intro ρ' τ pq rs hl hd hq hw hk
   obtain ⟨_, e12, b29, of30, vsb29, rfl, hc31, hrepb29⟩ := hd 12 rfl _ rfl
   have hrepb29 := hrepb29
   obtain ⟨_, _, rfl, rfl, rfl⟩ := hrepb29
   refine o_loadI (v := .I q27.2) rfl rfl rfl z_sc3 e12 (hc31 1 _ rfl) ?_
   exact hk _ _ LR rfl
  ·intro ρ' τ pq rs hl hd hq hw hk
   obtain ⟨_, e7, rfl⟩ := hd 7 rfl _ rfl
   obtain ⟨_, e13, rfl⟩ := hd 13 rfl _ rfl
   refine o_buildA (ps := [(0, [.I q22.1]), (1, [.I q27.2])]) (cs := [.I q22.1, .I q27.2]) rfl rfl rfl z_arrz134 ⟨rfl, ⟨_, e7, rfl⟩, ⟨rfl, ⟨_, e13, rfl⟩, trivial⟩⟩ (fill_all [.I q22.1, .I q27.2] _ rfl) ?_
   exact hk _ _ LR rfl
  ·intro ρ' τ pq rs hl hd hq hw hk
   obtain ⟨_, e14, rfl⟩ := hd 14 rfl _ rfl
   refine o_litE (eA .i64 2) [[q22.1, q27.2]] rfl rfl rfl z_slT35 z_zero134 ⟨rfl, ⟨_, e14, rfl⟩, trivial⟩ rfl rfl rfl rfl (fun v32 g33 ho34 => ?_)
   refine st_freeze (fun τ35 hl36 hg37 => ?_)
   have hs38 := ho34.freeze hl36 hg37
   exact hk _ _ hl36 ⟨v32, rfl, hs38⟩
  ·intro ρ' τ u Fv pq rs hl hI hu hd hq hw hk
   obtain ⟨_, e1, rfl⟩ := hd 1 rfl _ rfl
   obtain ⟨_, e15, v32, rfl, hs38⟩ := hd 15 rfl _ rfl
   have hI0 := hI
   obtain rfl := hI
   refine st_ord [3, 0, 0, 0, 0] _ rfl ?_
   refine o_append (dk := (kA .i64 2)) (xs := s18.2) (ys := [[q22.1, q27.2]]) rfl rfl rfl rfl z_slT35 e1 (ho21.up hl) e15 (Sl.src hs38) hf42 hf43 (fun v39 g40 ho41 => ?_)
   refine st_ord [1, 1, 0, 0, 0] _ rfl ?_
   exact hk _ _ [g40, [(b7, .cells (lM a0 v19 v2).toArray 37 (0, 0))]] LR trivial (by exact ⟨v39, g40, rfl, rfl, ho41⟩)
  intro ρ' τ47 vals u Fv hl47 hI hu hv hq
  obtain ⟨v44, g45, rfl, rfl, ho46⟩ := hI
  refine st_env (ρ' := [(1, .Pb b5), (2, .Pb b6), (3, .Pb b7), (4, .I s18.1), (39, v44)]) ⟨oT hq 1, oT hq 2, oT hq 3, oT hq 4, (by exact hu _ rfl), trivial⟩ ?_
  refine o_fieldAddr rfl rfl rfl z_field37_2 rfl ?_
  refine o_store (j := 3) (vs := [v44]) (cs' := (lM a0 v44 v2)) rfl rfl rfl z_size35 rfl rfl (oneL_ow ho46) (ones_cons ho46.one' ones_nil) rfl rfl rfl (Z 7 ?_)
  refine st_ord [0, 0, 1, 0] _ rfl ?_
  exact hn18 _ _ _ _ h ⟨(hl18.trans hl47), _, _, rfl, rfl, ho46⟩
 ·refine st_exit rfl ?_
  obtain rfl := he18 _ h
  replace h := hA18
  refine st_ord [1, 1, 1] _ rfl ?_
  exact hk8 _ _ _ ⟨s18.2, _, _, h, hl18, rfl, rfl, ho21⟩
theorem law26_Of_ok {a0 : TyI} {v1 : Value} {r : (TyI)} (h : law26_Of a0 r) (σ : Sto) (hs2 : Sl (kI .u8) σ v1 a0.t4) :
    Does prog 40 [.agg (lI a0 v1).toArray] σ [] (fun v τ gs => ∃ (v5 : Value), gs = [] ∧ .agg (lI r v5).toArray = v ∧ Sl (kI .u8) τ v5 r.t4) := by
 refine CO func40 ntmps40 rfl (fun cs fs => Z 2 ?_)
 refine o_box (cs := (lI a0 v1)) rfl rfl rfl rfl rfl (fun b3 => ?_)
 refine o_alloc rfl rfl rfl z_zero38 (fun b4 => ZZ 13 [1, 1, 1, 1, 1] ?_)
 refine o_build (ps := [(0, [.I a0.1]), (1, [.I a0.2.1]), (2, [.I a0.2.2.1]), (3, [.I a0.2.2.2.1]), (4, [v1])]) rfl rfl rfl z_struct38 ⟨rfl, ⟨_, rfl, rfl⟩, ⟨rfl, ⟨_, rfl, rfl⟩, ⟨rfl, ⟨_, rfl, rfl⟩, ⟨rfl, ⟨_, rfl, rfl⟩, ⟨rfl, ⟨_, rfl, (oneL_sl hs2)⟩, trivial⟩⟩⟩⟩⟩ rfl ?_
 refine o_store (j := 0) (vs := (lI a0 v1)) (cs' := (lI a0 v1)) rfl rfl rfl z_size38 rfl rfl rfl (o4 (ones_cons hs2.one' ones_nil)) rfl rfl rfl ?_
 refine st_end ?_
 obtain rfl := h.symm
 exact RC [.agg (lI a0 v1).toArray] func40 ⟨cN 0 z_agg38, trivial⟩ LR ⟨_, rfl, rfl, hs2⟩
theorem law27_Of_ok {a0 : TyS} {v1 v2 : Value} {v3 v4 : Value} {r : (TyZ)} (h : law27_Of a0 r) (σ : Sto) (hs5 : Sl (kP (kI .i64) (kI .i64)) σ v1 a0.2.1.2.2.1) (hs6 : Sl (kI .i64) σ v2 a0.2.1.2.2.2.1) (hs7 : Sl (kI .u8) σ v3 a0.2.2.1.t4) (hs8 : Sl (kI .i64) σ v4 a0.2.2.2) :
    Does prog 14 [.agg (lS a0 v1 v2 v3 v4).toArray] σ [] (fun v τ gs => ∃ (v26 v27 : Value) (v28 v29 : Value), gs = [] ∧ .agg (lS r v26 v27 v28 v29).toArray = v ∧ Sl (kA .i64 2) τ v26 r.2.1.2.2.1 ∧ Sl (kI .i64) τ v27 r.2.1.2.2.2.1 ∧ Sl (kI .u8) τ v28 r.2.2.1.t4 ∧ Sl (kI .i64) τ v29 r.2.2.2) := by
 refine CO func14 ntmps14 rfl (fun cs fs => Z 2 ?_)
 refine o_box (cs := (lS a0 v1 v2 v3 v4)) rfl rfl rfl rfl rfl (fun b9 => ?_)
 refine o_alloc rfl rfl rfl z_zero40 (fun b10 => Z 2 ?_)
 obtain ⟨r11, hr12, r19, hr20, h⟩ := h
 refine st_draw 11 (dl [.v (.Pb b9), .v (.I a0.1), .v (.pointer (some ⟨b9, 1, none⟩)), .v (.agg (lM a0.2.1 v1 v2).toArray), .t fun τ v => ∃ (v15 v16 : Value), (.agg (lM r11 v15 v16).toArray : Value) = v ∧ Sl (kA .i64 2) τ v15 r11.2.2.1 ∧ Sl (kI .i64) τ v16 r11.2.2.2.1, .v (.pointer (some ⟨b9, 12, none⟩)), .v (.agg (lI a0.2.2.1 v3).toArray), .t fun τ v => ∃ (v23 : Value), (.agg (lI r19 v23).toArray : Value) = v ∧ Sl (kI .u8) τ v23 r19.t4, .v (.pointer (some ⟨b9, 17, none⟩)), .v (v4), .t fun τ v => ∃ (v15 v16 v23 : Value), (.agg #[.I a0.1, .I r11.1, .I (r11.2.1.getD 0 0), .I (r11.2.1.getD 1 0), .I (r11.2.1.getD 2 0), .I (r11.2.1.getD 3 0), .I (r11.2.1.getD 4 0), .I (r11.2.1.getD 5 0), v15, v16, .string r11.t4.1, .string r11.t4.2, .I r19.1, .I r19.2.1, .I r19.2.2.1, .I r19.2.2.2.1, v23, v4] : Value) = v ∧ Sl (kA .i64 2) τ v15 r11.2.2.1 ∧ Sl (kI .i64) τ v16 r11.2.2.2.1 ∧ Sl (kI .u8) τ v23 r19.t4]) (fun _ _ => []) z_mix rfl (dl_mono ⟨fun _ _ _ hl ⟨v15, v16, hv, hs17, hs18⟩ => ⟨v15, v16, hv, hs17.up hl, hs18.up hl⟩, ⟨fun _ _ _ hl ⟨v23, hv, hs24⟩ => ⟨v23, hv, hs24.up hl⟩, ⟨fun _ _ _ hl ⟨v15, v16, v23, hv, hs17, hs18, hs24⟩ => ⟨v15, v16, v23, hv, hs17.up hl, hs18.up hl, hs24.up hl⟩, trivial⟩⟩⟩) (allB_cons (allB_cons (allB_cons (allB_cons (allB_cons (allB_cons (allB_cons (allB_cons (allB_cons (allB_cons (allB_cons allB_nil (p1 dA)) ?_) (p1 dA)) ?_) ?_) (p1 dA)) ?_) ?_) (p1 dA)) ?_) ?_) ?_
 ·intro ρ' τ pq rs hl hd hq hk
  obtain ⟨_, e0, rfl⟩ := hd 0 rfl
  refine o_load (j := 1) (v := .I a0.1) rfl rfl rfl z_sc3 e0 rfl rfl ?_
  exact st_addNil (hk _ _ LR rfl)
 ·intro ρ' τ pq rs hl hd hq hk
  obtain ⟨_, e2, rfl⟩ := hd 2 rfl
  refine o_loadN (j := 1) (vs := (lM a0.2.1 v1 v2)) rfl rfl rfl z_agg26 e2 rfl rfl ?_
  exact st_addNil (hk _ _ LR rfl)
 ·intro ρ' τ pq rs hl hd hq hk
  obtain ⟨_, e3, rfl⟩ := hd 3 rfl
  refine st_call (foot := []) rfl rfl rfl rfl (evs_cons e3 rfl) rfl (callV_fn z_en39 (law17_Of_ok hr12 τ (hs5.up hl) (hs6.up hl))) ?_
  rintro _ τ13 _ hl14 ⟨v15, v16, rfl, rfl, hs17, hs18⟩
  exact st_addNil (hk _ _ hl14 ⟨v15, v16, rfl, hs17, hs18⟩)
 ·intro ρ' τ pq rs hl hd hq hk
  obtain ⟨_, e5, rfl⟩ := hd 5 rfl
  refine o_loadN (j := 1) (vs := (lI a0.2.2.1 v3)) rfl rfl rfl z_agg29 e5 rfl rfl ?_
  exact st_addNil (hk _ _ LR rfl)
 ·intro ρ' τ pq rs hl hd hq hk
  obtain ⟨_, e6, rfl⟩ := hd 6 rfl
  refine st_call (foot := []) rfl rfl rfl rfl (evs_cons e6 rfl) rfl (callV_fn z_en40 (law26_Of_ok hr20 τ (hs7.up hl))) ?_
  rintro _ τ21 _ hl22 ⟨v23, rfl, rfl, hs24⟩
  exact st_addNil (hk _ _ hl22 ⟨v23, rfl, hs24⟩)
 ·intro ρ' τ pq rs hl hd hq hk
  obtain ⟨_, e8, rfl⟩ := hd 8 rfl
  refine o_load (j := 1) (v := v4) rfl rfl rfl z_sc24 e8 rfl rfl ?_
  exact st_addNil (hk _ _ LR rfl)
 ·intro ρ' τ pq rs hl hd hq hk
  obtain ⟨_, e1, rfl⟩ := hd 1 rfl
  obtain ⟨_, e4, v15, v16, rfl, hs17, hs18⟩ := hd 4 rfl
  obtain ⟨_, e7, v23, rfl, hs24⟩ := hd 7 rfl
  obtain ⟨_, e9, rfl⟩ := hd 9 rfl
  refine o_build (ps := [(0, [.I a0.1]), (1, (lM r11 v15 v16)), (2, (lI r19 v23)), (3, [v4])]) rfl rfl rfl z_struct40 ⟨rfl, ⟨_, e1, rfl⟩, ⟨rfl, ⟨_, e4, rfl⟩, ⟨rfl, ⟨_, e7, rfl⟩, ⟨rfl, ⟨_, e9, (oneL_sl (hs8.up hl))⟩, trivial⟩⟩⟩⟩ rfl ?_
  exact st_addNil (hk _ _ LR ⟨v15, v16, v23, rfl, hs17, hs18, hs24⟩)
 intro ρ' τ25 vals hl25 hv hq
 obtain ⟨l10, v15, v16, v23, t10, hs17, hs18, hs24⟩ := hv 10 (by decide)
 replace l10 : Eng.look ρ' 13 = some (.agg #[.I a0.1, .I r11.1, .I (r11.2.1.getD 0 0), .I (r11.2.1.getD 1 0), .I (r11.2.1.getD 2 0), .I (r11.2.1.getD 3 0), .I (r11.2.1.getD 4 0), .I (r11.2.1.getD 5 0), v15, v16, .string r11.t4.1, .string r11.t4.2, .I r19.1, .I r19.2.1, .I r19.2.2.1, .I r19.2.2.2.1, v23, v4]) := l10.trans (congrArg some (Eq.symm t10))
 refine st_ord [0, 0] _ rfl ?_
 refine st_env (ρ' := [(13, .agg #[.I a0.1, .I r11.1, .I (r11.2.1.getD 0 0), .I (r11.2.1.getD 1 0), .I (r11.2.1.getD 2 0), .I (r11.2.1.getD 3 0), .I (r11.2.1.getD 4 0), .I (r11.2.1.getD 5 0), v15, v16, .string r11.t4.1, .string r11.t4.2, .I r19.1, .I r19.2.1, .I r19.2.2.1, .I r19.2.2.2.1, v23, v4]), (2, .Pb b10)]) ⟨l10, oT hq 2, trivial⟩ ?_
 refine o_store (j := 0) (vs := [.I a0.1, .I r11.1, .I (r11.2.1.getD 0 0), .I (r11.2.1.getD 1 0), .I (r11.2.1.getD 2 0), .I (r11.2.1.getD 3 0), .I (r11.2.1.getD 4 0), .I (r11.2.1.getD 5 0), v15, v16, .string r11.t4.1, .string r11.t4.2, .I r19.1, .I r19.2.1, .I r19.2.2.1, .I r19.2.2.2.1, v23, v4]) (cs' := [.I a0.1, .I r11.1, .I (r11.2.1.getD 0 0), .I (r11.2.1.getD 1 0), .I (r11.2.1.getD 2 0), .I (r11.2.1.getD 3 0), .I (r11.2.1.getD 4 0), .I (r11.2.1.getD 5 0), v15, v16, .string r11.t4.1, .string r11.t4.2, .I r19.1, .I r19.2.1, .I r19.2.2.1, .I r19.2.2.2.1, v23, v4]) rfl rfl rfl z_size40 rfl rfl rfl (o4 (o4 (ones_cons hs17.one' (ones_cons hs18.one' (o4 (ones_cons rfl (ones_cons rfl (ones_cons hs24.one' (ones_cons (hs8.up hl25).one' ones_nil))))))))) rfl rfl rfl ?_
 refine st_end ?_
 obtain rfl := h.symm
 exact RC [.agg #[.I a0.1, .I r11.1, .I (r11.2.1.getD 0 0), .I (r11.2.1.getD 1 0), .I (r11.2.1.getD 2 0), .I (r11.2.1.getD 3 0), .I (r11.2.1.getD 4 0), .I (r11.2.1.getD 5 0), v15, v16, .string r11.t4.1, .string r11.t4.2, .I r19.1, .I r19.2.1, .I r19.2.2.1, .I r19.2.2.2.1, v23, v4]] func14 ⟨cN 0 z_agg40, trivial⟩ hl25 ⟨_, _, _, _, rfl, rfl, hs17, hs18, hs24, (hs8.up hl25)⟩
theorem ref01_Ints_ok {a0 : List Int} {a1 : List Int} {v1 v3 : Value} {r : Bool} (h : ref01_Ints a0 a1 r) (σ : Sto) (hs2 : Sl (kI .i64) σ v1 a0) (hs4 : Sl (kI .i64) σ v3 a1) :
    Does prog 31 [v1, v3] σ [] (fun v τ gs => gs = [] ∧ .bool r = v) := by
 refine CO func31 ntmps31 rfl (fun cs fs => Z 8 ?_)
 refine o_lenI rfl rfl rfl z_slT24 rfl hs2 ?_
 refine o_move rfl rfl rfl rfl ?_
 refine o_lenI rfl rfl rfl z_slT24 rfl hs4 (Z 2 ?_)
 refine I2 h (fun h => ?_) (fun h => ?_)
 ·refine Z 4 ?_
  obtain rfl := h.symm
  exact RT func31 rfl LR ⟨rfl, rfl⟩
 ·refine Z 2 ?_
  refine cutS σ (fun (s5 : Unit) => ref01_Ints_j1 s5 r) (fun s5 => [(4, .bool false)]) (fun s5 => []) (fun s5 τ5 h hl5 => (Z 4 ?_)) (fun hk5 => ?_)
  ·obtain rfl := h.symm
   exact RT func31 rfl hl5 ⟨rfl, rfl⟩
  refine Z 4 ?_
  obtain ⟨e6, hL6, hA6⟩ := h
  refine st_loop hL6 (fun (s6 : Int) ρ τ6 gs => σ.Le τ6 ∧ ESub ρ [(0, v1), (1, v3), (4, .bool false), (5, .I s6)] ∧ gs = []) ⟨LR, rfl, rfl⟩ ?_
  rintro s6 o6 h he6 ρ6 τ6 gs6 ⟨hl6, hρ, rfl⟩ hn6
  refine st_es hρ (Z 5 ?_)
  refine o_lenI rfl rfl rfl z_slT24 rfl (hs2.up hl6) (Z 2 ?_)
  refine I2 h (fun h => ?_) (fun h => ?_)
  ·refine Z 4 ?_
   obtain ⟨q7, hf8, q12, hf13, h⟩ := h
   refine st_draw 9 (dl [.v (v1), .v (.I s6), .t fun τ v => ∃ (b9 of10 : Nat) (vsb9 : K10), (.pointer (some ⟨b9, of10, none⟩) : Value) = v ∧ CelN τ ⟨b9, of10, none⟩ vsb9 ∧ (kI .i64).rep τ vsb9 q7, .v (.I q7), .v (v3), .v (.I s6), .t fun τ v => ∃ (b14 of15 : Nat) (vsb14 : K10), (.pointer (some ⟨b14, of15, none⟩) : Value) = v ∧ CelN τ ⟨b14, of15, none⟩ vsb14 ∧ (kI .i64).rep τ vsb14 q12, .v (.I q12), .v (.bool (!(decide (q7 = q12))))]) (fun _ _ => []) z_mix rfl (dl_mono ⟨fun _ _ _ hl ⟨b9, of10, vsb9, hv, hc11, hrepb9⟩ => ⟨b9, of10, vsb9, hv, hc11.up hl, Kd.mono _ hl hrepb9⟩, ⟨fun _ _ _ hl ⟨b14, of15, vsb14, hv, hc16, hrepb14⟩ => ⟨b14, of15, vsb14, hv, hc16.up hl, Kd.mono _ hl hrepb14⟩, trivial⟩⟩) (allB_cons (allB_cons (allB_cons (allB_cons (allB_cons (allB_cons (allB_cons (allB_cons (allB_cons allB_nil (p1 dA)) (p1 dA)) ?_) ?_) (p1 dA)) (p1 dA)) ?_) ?_) (p1 dA)) ?_
   ·intro ρ' τ pq rs hl hd hq hk
    obtain ⟨_, e0, rfl⟩ := hd 0 rfl
    obtain ⟨_, e1, rfl⟩ := hd 1 rfl
    refine o_index rfl rfl rfl z_slT24 rfl e0 (hs2.up (hl6.trans hl)) e1 hf8 (fun b9 of10 vsb9 hc11 hrepb9 => ?_)
    exact st_addNil (hk _ _ LR ⟨b9, of10, _, rfl, hc11, hrepb9⟩)
   ·intro ρ' τ pq rs hl hd hq hk
    obtain ⟨_, e2, b9, of10, vsb9, rfl, hc11, hrepb9⟩ := hd 2 rfl
    have hrepb9 := hrepb9
    obtain rfl := hrepb9
    refine o_loadI (v := .I q7) rfl rfl rfl z_sc3 e2 (hc11 0 _ rfl) ?_
    exact st_addNil (hk _ _ LR rfl)
   ·intro ρ' τ pq rs hl hd hq hk
    obtain ⟨_, e4, rfl⟩ := hd 4 rfl
    obtain ⟨_, e5, rfl⟩ := hd 5 rfl
    refine o_index rfl rfl rfl z_slT24 rfl e4 (hs4.up (hl6.trans hl)) e5 hf13 (fun b14 of15 vsb14 hc16 hrepb14 => ?_)
    exact st_addNil (hk _ _ LR ⟨b14, of15, _, rfl, hc16, hrepb14⟩)
   ·intro ρ' τ pq rs hl hd hq hk
    obtain ⟨_, e6, b14, of15, vsb14, rfl, hc16, hrepb14⟩ := hd 6 rfl
    have hrepb14 := hrepb14
    obtain rfl := hrepb14
    refine o_loadI (v := .I q12) rfl rfl rfl z_sc3 e6 (hc16 0 _ rfl) ?_
    exact st_addNil (hk _ _ LR rfl)
   intro ρ' τ17 vals hl17 hv hq
   refine st_ord [] _ rfl ?_
   refine st_env (ρ' := [(25, .bool (!(decide (q7 = q12)))), (0, v1), (1, v3), (4, .bool false), (5, .I s6)]) ⟨(lv1 hv 8 rfl rfl), oT hq 0, oT hq 1, oT hq 4, oT hq 5, trivial⟩ ?_
   refine st_end ?_
   refine I2 h (fun h => ?_) (fun h => ?_)
   ·refine Z 4 ?_
    obtain rfl := he6 _ h
    replace h := hA6
    obtain rfl := h.symm
    exact RT func31 rfl (hl6.trans hl17) ⟨rfl, rfl⟩
   ·refine Z 7 ?_
    exact hn6 _ _ _ _ h ⟨(hl6.trans hl17), rfl, rfl⟩
  ·refine st_exit rfl ?_
   obtain rfl := he6 _ h
   replace h := hA6
   exact hk5 _ _ _ ⟨(), h, hl6, rfl, rfl⟩
theorem ref01_Same_ok {a0 : List Int} {a1 : List Int} {v1 v3 : Value} {r : Bool} (h : ref01_Same a0 a1 r) (σ : Sto) (hs2 : Sl (kI .u8) σ v1 a0) (hs4 : Sl (kI .u8) σ v3 a1) :
    Does prog 70 [v1, v3] σ [] (fun v τ gs => gs = [] ∧ .bool r = v) := by
 refine CO func70 ntmps70 rfl (fun cs fs => Z 8 ?_)
 refine o_lenI rfl rfl rfl z_slT27 rfl hs2 ?_
 refine o_move rfl rfl rfl rfl ?_
 refine o_lenI rfl rfl rfl z_slT27 rfl hs4 (Z 2 ?_)
 refine I2 h (fun h => ?_) (fun h => ?_)
 ·refine Z 4 ?_
  obtain rfl := h.symm
  exact RT func70 rfl LR ⟨rfl, rfl⟩
 ·refine Z 2 ?_
  refine cutS σ (fun (s5 : Unit) => ref01_Same_j1 s5 r) (fun s5 => [(4, .bool false)]) (fun s5 => []) (fun s5 τ5 h hl5 => (Z 4 ?_)) (fun hk5 => ?_)
  ·obtain rfl := h.symm
   exact RT func70 rfl hl5 ⟨rfl, rfl⟩
  refine Z 4 ?_
  obtain ⟨e6, hL6, hA6⟩ := h
  refine st_loop hL6 (fun (s6 : Int) ρ τ6 gs => σ.Le τ6 ∧ ESub ρ [(0, v1), (1, v3), (4, .bool false), (5, .I s6)] ∧ gs = []) ⟨LR, rfl, rfl⟩ ?_
  rintro s6 o6 h he6 ρ6 τ6 gs6 ⟨hl6, hρ, rfl⟩ hn6
  refine st_es hρ (Z 5 ?_)
  refine o_lenI rfl rfl rfl z_slT27 rfl (hs2.up hl6) (Z 2 ?_)
  refine I2 h (fun h => ?_) (fun h => ?_)
  ·refine Z 4 ?_
   obtain ⟨q7, hf8, q12, hf13, h⟩ := h
   refine st_draw 9 (dl [.v (v1), .v (.I s6), .t fun τ v => ∃ (b9 of10 : Nat) (vsb9 : K10), (.pointer (some ⟨b9, of10, none⟩) : Value) = v ∧ CelN τ ⟨b9, of10, none⟩ vsb9 ∧ (kI .u8).rep τ vsb9 q7, .v (.int .u8 q7), .v (v3), .v (.I s6), .t fun τ v => ∃ (b14 of15 : Nat) (vsb14 : K10), (.pointer (some ⟨b14, of15, none⟩) : Value) = v ∧ CelN τ ⟨b14, of15, none⟩ vsb14 ∧ (kI .u8).rep τ vsb14 q12, .v (.int .u8 q12), .v (.bool (!(decide (q7 = q12))))]) (fun _ _ => []) z_mix rfl (dl_mono ⟨fun _ _ _ hl ⟨b9, of10, vsb9, hv, hc11, hrepb9⟩ => ⟨b9, of10, vsb9, hv, hc11.up hl, Kd.mono _ hl hrepb9⟩, ⟨fun _ _ _ hl ⟨b14, of15, vsb14, hv, hc16, hrepb14⟩ => ⟨b14, of15, vsb14, hv, hc16.up hl, Kd.mono _ hl hrepb14⟩, trivial⟩⟩) (allB_cons (allB_cons (allB_cons (allB_cons (allB_cons (allB_cons (allB_cons (allB_cons (allB_cons allB_nil (p1 dA)) (p1 dA)) ?_) ?_) (p1 dA)) (p1 dA)) ?_) ?_) (p1 dA)) ?_
   ·intro ρ' τ pq rs hl hd hq hk
    obtain ⟨_, e0, rfl⟩ := hd 0 rfl
    obtain ⟨_, e1, rfl⟩ := hd 1 rfl
    refine o_index rfl rfl rfl z_slT27 rfl e0 (hs2.up (hl6.trans hl)) e1 hf8 (fun b9 of10 vsb9 hc11 hrepb9 => ?_)
    exact st_addNil (hk _ _ LR ⟨b9, of10, _, rfl, hc11, hrepb9⟩)
   ·intro ρ' τ pq rs hl hd hq hk
    obtain ⟨_, e2, b9, of10, vsb9, rfl, hc11, hrepb9⟩ := hd 2 rfl
    have hrepb9 := hrepb9
    obtain rfl := hrepb9
    refine o_loadI (v := .int .u8 q7) rfl rfl rfl z_sc5 e2 (hc11 0 _ rfl) ?_
    exact st_addNil (hk _ _ LR rfl)
   ·intro ρ' τ pq rs hl hd hq hk
    obtain ⟨_, e4, rfl⟩ := hd 4 rfl
    obtain ⟨_, e5, rfl⟩ := hd 5 rfl
    refine o_index rfl rfl rfl z_slT27 rfl e4 (hs4.up (hl6.trans hl)) e5 hf13 (fun b14 of15 vsb14 hc16 hrepb14 => ?_)
    exact st_addNil (hk _ _ LR ⟨b14, of15, _, rfl, hc16, hrepb14⟩)
   ·intro ρ' τ pq rs hl hd hq hk
    obtain ⟨_, e6, b14, of15, vsb14, rfl, hc16, hrepb14⟩ := hd 6 rfl
    have hrepb14 := hrepb14
    obtain rfl := hrepb14
    refine o_loadI (v := .int .u8 q12) rfl rfl rfl z_sc5 e6 (hc16 0 _ rfl) ?_
    exact st_addNil (hk _ _ LR rfl)
   intro ρ' τ17 vals hl17 hv hq
   refine st_ord [] _ rfl ?_
   refine st_env (ρ' := [(25, .bool (!(decide (q7 = q12)))), (0, v1), (1, v3), (4, .bool false), (5, .I s6)]) ⟨(lv1 hv 8 rfl rfl), oT hq 0, oT hq 1, oT hq 4, oT hq 5, trivial⟩ ?_
   refine st_end ?_
   refine I2 h (fun h => ?_) (fun h => ?_)
   ·refine Z 4 ?_
    obtain rfl := he6 _ h
    replace h := hA6
    obtain rfl := h.symm
    exact RT func70 rfl (hl6.trans hl17) ⟨rfl, rfl⟩
   ·refine Z 7 ?_
    exact hn6 _ _ _ _ h ⟨(hl6.trans hl17), rfl, rfl⟩
  ·refine st_exit rfl ?_
   obtain rfl := he6 _ h
   replace h := hA6
   exact hk5 _ _ _ ⟨(), h, hl6, rfl, rfl⟩
theorem ref26_Same_ok {a0 : TyI} {a1 : TyI} {v1 v3 : Value} {r : Bool} (h : ref26_Same a0 a1 r) (σ : Sto) (hs2 : Sl (kI .u8) σ v1 a0.t4) (hs4 : Sl (kI .u8) σ v3 a1.t4) :
    Does prog 30 [.agg (lI a0 v1).toArray, .agg (lI a1 v3).toArray] σ [] (fun v τ gs => gs = [] ∧ .bool r = v) := by
 refine CO func30 ntmps30 rfl (fun cs fs => Z 2 ?_)
 refine o_box (cs := (lI a0 v1)) rfl rfl rfl rfl rfl (fun b5 => ?_)
 refine o_box (cs := (lI a1 v3)) rfl rfl rfl rfl rfl (fun b6 => Z 3 ?_)
 refine cutS σ (fun (s7 : Bool) => ref26_Same_j1 s7 r) (fun s7 => [(4, .bool s7)]) (fun s7 => []) (fun s7 τ7 h hl7 => ?_) (fun hk7 => ?_)
 ·obtain rfl := h.symm
  exact RT func30 rfl hl7 ⟨rfl, rfl⟩
 refine ZZ 6 [1, 0] ?_
 refine M2 h (fun h => ?_) (fun h => ?_)
 ·refine ZZ 6 [1, 0] ?_
  refine M2 h (fun h => ?_) (fun h => ?_)
  ·refine ZZ 6 [1, 0] ?_
   refine M2 h (fun h => ?_) (fun h => ?_)
   ·refine ZZ 6 [1, 0] ?_
    refine M2 h (fun h => ?_) (fun h => ?_)
    ·refine ZZ 4 [1, 0] ?_
     obtain ⟨r8, hr9, h⟩ := h
     refine SC z_en70 (ref01_Same_ok hr9 σ hs2 hs4) ?_
     rintro _ τ10 _ hl11 ⟨rfl, rfl⟩
     refine Z 3 ?_
     refine st_ord [] _ rfl ?_
     exact hk7 _ _ _ ⟨r8, h, hl11, rfl, rfl⟩
    ·refine Z 8 ?_
     refine st_ord [] _ rfl ?_
     exact hk7 _ _ _ ⟨false, h, LR, rfl, rfl⟩
   ·refine Z 15 ?_
    refine st_ord [] _ rfl ?_
    exact hk7 _ _ _ ⟨false, h, LR, rfl, rfl⟩
  ·refine Z 22 ?_
   refine st_ord [] _ rfl ?_
   exact hk7 _ _ _ ⟨false, h, LR, rfl, rfl⟩
 ·refine Z 29 ?_
  refine st_ord [] _ rfl ?_
  exact hk7 _ _ _ ⟨false, h, LR, rfl, rfl⟩
theorem ref17_Same_ok {a0 : TyR} {a1 : TyR} {v1 v2 : Value} {v5 v6 : Value} {r : Bool} (h : ref17_Same a0 a1 r) (σ : Sto) (hs3 : Sl (kA .i64 2) σ v1 a0.2.2.1) (hs4 : Sl (kI .i64) σ v2 a0.2.2.2.1) (hs7 : Sl (kA .i64 2) σ v5 a1.2.2.1) (hs8 : Sl (kI .i64) σ v6 a1.2.2.2.1) :
    Does prog 29 [.agg (lM a0 v1 v2).toArray, .agg (lM a1 v5 v6).toArray] σ [] (fun v τ gs => gs = [] ∧ .bool r = v) := by
 refine CO func29 ntmps29 rfl (fun cs fs => Z 2 ?_)
 refine o_box (cs := (lM a0 v1 v2)) rfl rfl rfl rfl rfl (fun b9 => ?_)
 refine o_box (cs := (lM a1 v5 v6)) rfl rfl rfl rfl rfl (fun b10 => Z 4 ?_)
 refine cutS σ (fun (s11 : Bool) => ref17_Same_j1 a0 a1 s11 r) (fun s11 => [(2, .Pb b9), (3, .Pb b10), (4, .bool false), (48, .bool s11)]) (fun s11 => [[(b9, .cells (lM a0 v1 v2).toArray 37 (0, 0))], [(b10, .cells (lM a1 v5 v6).toArray 37 (0, 0))]]) (fun s11 τ11 h hl11 => ?_) (fun hk11 => ?_)
 ·refine I2 h (fun h => ?_) (fun h => ?_)
  ·refine Z 4 ?_
   obtain rfl := h.symm
   exact RT func29 rfl hl11 ⟨rfl, rfl⟩
  ·refine Z 2 ?_
   refine cutS τ11 (fun (s12 : Unit) => ref17_Same_j2 s12 r) (fun s12 => [(4, .bool false)]) (fun s12 => []) (fun s12 τ12 h hl12 => (Z 4 ?_)) (fun hk12 => ?_)
   ·obtain rfl := h.symm
    exact RT func29 rfl (hl11.trans hl12) ⟨rfl, rfl⟩
   refine Z 4 ?_
   obtain ⟨e13, hL13, hA13⟩ := h
   refine st_loop hL13 (fun (s13 : Int) ρ τ13 gs => τ11.Le τ13 ∧ ESub ρ [(2, .Pb b9), (3, .Pb b10), (4, .bool false), (5, .I s13)] ∧ gs = [[(b9, .cells (lM a0 v1 v2).toArray 37 (0, 0))], [(b10, .cells (lM a1 v5 v6).toArray 37 (0, 0))]]) ⟨LR, rfl, rfl⟩ ?_
   rintro s13 o13 h he13 ρ13 τ13 gs13 ⟨hl13, hρ, rfl⟩ hn13
   refine st_es hρ (ZZ 6 [0] ?_)
   refine o_lenI rfl rfl rfl z_slT35 rfl (hs3.up (hl11.trans hl13)) (Z 2 ?_)
   refine I2 h (fun h => ?_) (fun h => ?_)
   ·refine Z 4 ?_
    obtain ⟨q14, hf15, q19, hf20, h⟩ := h
    refine st_draw 11 (dl [.v (.pointer (some ⟨b9, 7, none⟩)), .v (v1), .v (.I s13), .t fun τ v => ∃ (b16 of17 : Nat) (vsb16 : K10), (.pointer (some ⟨b16, of17, none⟩) : Value) = v ∧ CelN τ ⟨b16, of17, none⟩ vsb16 ∧ (kA .i64 2).rep τ vsb16 q14, .v (.agg #[.I (q14.getD 0 0), .I (q14.getD 1 0)]), .v (.pointer (some ⟨b10, 7, none⟩)), .v (v5), .v (.I s13), .t fun τ v => ∃ (b21 of22 : Nat) (vsb21 : K10), (.pointer (some ⟨b21, of22, none⟩) : Value) = v ∧ CelN τ ⟨b21, of22, none⟩ vsb21 ∧ (kA .i64 2).rep τ vsb21 q19, .v (.agg #[.I (q19.getD 0 0), .I (q19.getD 1 0)]), .v (.bool (!(eqN 2 0 q14 q19)))]) (fun _ _ => []) z_mix rfl (dl_mono ⟨fun _ _ _ hl ⟨b16, of17, vsb16, hv, hc18, hrepb16⟩ => ⟨b16, of17, vsb16, hv, hc18.up hl, Kd.mono _ hl hrepb16⟩, ⟨fun _ _ _ hl ⟨b21, of22, vsb21, hv, hc23, hrepb21⟩ => ⟨b21, of22, vsb21, hv, hc23.up hl, Kd.mono _ hl hrepb21⟩, trivial⟩⟩) (allB_cons (allB_cons (allB_cons (allB_cons (allB_cons (allB_cons (allB_cons (allB_cons (allB_cons (allB_cons (allB_cons allB_nil (p1 dA)) ?_) (p1 dA)) ?_) ?_) (p1 dA)) ?_) (p1 dA)) ?_) ?_) ?_) ?_
    ·intro ρ' τ pq rs hl hd hq hk
     obtain ⟨_, e0, rfl⟩ := hd 0 rfl
     refine o_load (j := 0) (v := v1) rfl rfl rfl z_sc35 e0 rfl rfl ?_
     exact st_addNil (hk _ _ LR rfl)
    ·intro ρ' τ pq rs hl hd hq hk
     obtain ⟨_, e1, rfl⟩ := hd 1 rfl
     obtain ⟨_, e2, rfl⟩ := hd 2 rfl
     refine o_index rfl rfl rfl z_slT35 rfl e1 (hs3.up ((hl11.trans hl13).trans hl)) e2 hf15 (fun b16 of17 vsb16 hc18 hrepb16 => ?_)
     exact st_addNil (hk _ _ LR ⟨b16, of17, _, rfl, hc18, hrepb16⟩)
    ·intro ρ' τ pq rs hl hd hq hk
     obtain ⟨_, e3, b16, of17, vsb16, rfl, hc18, hrepb16⟩ := hd 3 rfl
     have hrepb16 := hrepb16
     obtain rfl := hrepb16
     refine o_loadIN (vs := [.I (q14.getD 0 0), .I (q14.getD 1 0)]) rfl rfl rfl z_agg134 e3 rfl (celn_part 0 rfl hc18) ?_
     exact st_addNil (hk _ _ LR rfl)
    ·intro ρ' τ pq rs hl hd hq hk
     obtain ⟨_, e5, rfl⟩ := hd 5 rfl
     refine o_load (j := 1) (v := v5) rfl rfl rfl z_sc35 e5 rfl rfl ?_
     exact st_addNil (hk _ _ LR rfl)
    ·intro ρ' τ pq rs hl hd hq hk
     obtain ⟨_, e6, rfl⟩ := hd 6 rfl
     obtain ⟨_, e7, rfl⟩ := hd 7 rfl
     refine o_index rfl rfl rfl z_slT35 rfl e6 (hs7.up ((hl11.trans hl13).trans hl)) e7 hf20 (fun b21 of22 vsb21 hc23 hrepb21 => ?_)
     exact st_addNil (hk _ _ LR ⟨b21, of22, _, rfl, hc23, hrepb21⟩)
    ·intro ρ' τ pq rs hl hd hq hk
     obtain ⟨_, e8, b21, of22, vsb21, rfl, hc23, hrepb21⟩ := hd 8 rfl
     have hrepb21 := hrepb21
     obtain rfl := hrepb21
     refine o_loadIN (vs := [.I (q19.getD 0 0), .I (q19.getD 1 0)]) rfl rfl rfl z_agg134 e8 rfl (celn_part 0 rfl hc23) ?_
     exact st_addNil (hk _ _ LR rfl)
    ·intro ρ' τ pq rs hl hd hq hk
     obtain ⟨_, e4, rfl⟩ := hd 4 rfl
     obtain ⟨_, e9, rfl⟩ := hd 9 rfl
     refine o_aggEq (b := (eqN 2 0 q14 q19)) (e := (!(eqN 2 0 q14 q19))) rfl rfl rfl z_eqg134 e4 e9 (fun w => by exact eq_arr (xs := q14) (ys := q19) underlying134 underlying3 z_info3 z_cell3) rfl ?_
     exact st_addNil (hk _ _ LR rfl)
    intro ρ' τ24 vals hl24 hv hq
    refine st_ord [0, 0] _ rfl ?_
    refine st_env (ρ' := [(66, .bool (!(eqN 2 0 q14 q19))), (2, .Pb b9), (3, .Pb b10), (4, .bool false), (5, .I s13)]) ⟨(lv1 hv 10 rfl rfl), oT hq 2, oT hq 3, oT hq 4, oT hq 5, trivial⟩ ?_
    refine st_end ?_
    refine I2 h (fun h => ?_) (fun h => ?_)
    ·refine Z 4 ?_
     refine st_ord [] _ rfl ?_
     obtain rfl := he13 _ h
     replace h := hA13
     obtain rfl := h.symm
     exact RT func29 rfl ((hl11.trans hl13).trans hl24) ⟨rfl, rfl⟩
    ·refine Z 7 ?_
     exact hn13 _ _ _ _ h ⟨(hl13.trans hl24), rfl, rfl⟩
   ·refine st_exit rfl ?_
    obtain rfl := he13 _ h
    replace h := hA13
    refine st_ord [] _ rfl ?_
    exact hk12 _ _ _ ⟨(), h, hl13, rfl, rfl⟩
 refine ZZ 6 [1, 0] ?_
 refine M2 h (fun h => ?_) (fun h => ?_)
 ·refine Z 38 ?_
  refine st_ord [1, 0] _ rfl ?_
  exact hk11 _ _ _ ⟨true, h, LR, rfl, rfl⟩
 ·refine ZZ 4 [1, 0] ?_
  refine o_aggEq (b := (eqN 6 0 a0.2.1 a1.2.1)) (e := (!(eqN 6 0 a0.2.1 a1.2.1))) rfl rfl rfl z_eqg22 rfl rfl (fun w => by exact eq_arr (xs := a0.2.1) (ys := a1.2.1) underlying22 underlying3 z_info3 z_cell3) rfl ?_
  refine o_pick rfl rfl rfl rfl rfl ?_
  refine M2 h (fun h => ?_) (fun h => ?_)
  ·refine Z 31 ?_
   refine st_ord [1, 0] _ rfl ?_
   exact hk11 _ _ _ ⟨true, h, LR, rfl, rfl⟩
  ·refine ZZ 2 [1] ?_
   refine o_lenI rfl rfl rfl z_slT35 rfl hs3 (ZZ 2 [0] ?_)
   refine o_lenI rfl rfl rfl z_slT35 rfl hs7 (Z 2 ?_)
   refine M2 h (fun h => ?_) (fun h => ?_)
   ·refine Z 22 ?_
    refine st_ord [1, 0] _ rfl ?_
    exact hk11 _ _ _ ⟨true, h, LR, rfl, rfl⟩
   ·refine ZZ 4 [1, 0] ?_
    obtain ⟨r27, hr28, h⟩ := h
    refine SC z_en31 (ref01_Ints_ok hr28 σ hs4 hs8) ?_
    rintro _ τ29 _ hl30 ⟨rfl, rfl⟩
    refine Z 2 ?_
    refine M2 h (fun h => ?_) (fun h => ?_)
    ·refine Z 14 ?_
     refine st_ord [1, 0] _ rfl ?_
     exact hk11 _ _ _ ⟨true, h, hl30, rfl, rfl⟩
    ·refine ZZ 6 [1, 0] ?_
     refine M2 h (fun h => ?_) (fun h => ?_)
     ·refine Z 7 ?_
      refine st_ord [1, 0] _ rfl ?_
      exact hk11 _ _ _ ⟨true, h, hl30, rfl, rfl⟩
     ·refine ZZ 7 [1, 0] ?_
      refine st_ord [1, 0] _ rfl ?_
      exact hk11 _ _ _ ⟨(!(decide (a0.t4.2 = a1.t4.2))), h, hl30, rfl, rfl⟩
theorem law27_same_ok {a0 : TyS} {a1 : TyZ} {v1 v2 : Value} {v3 v4 : Value} {v9 v10 : Value} {v11 v12 : Value} {r : Bool} (h : law27_same a0 a1 r) (σ : Sto) (hs5 : Sl (kP (kI .i64) (kI .i64)) σ v1 a0.2.1.2.2.1) (hs6 : Sl (kI .i64) σ v2 a0.2.1.2.2.2.1) (hs7 : Sl (kI .u8) σ v3 a0.2.2.1.t4) (hs8 : Sl (kI .i64) σ v4 a0.2.2.2) (hs13 : Sl (kA .i64 2) σ v9 a1.2.1.2.2.1) (hs14 : Sl (kI .i64) σ v10 a1.2.1.2.2.2.1) (hs15 : Sl (kI .u8) σ v11 a1.2.2.1.t4) (hs16 : Sl (kI .i64) σ v12 a1.2.2.2) :
    Does prog 10 [.agg (lS a0 v1 v2 v3 v4).toArray, .agg (lS a1 v9 v10 v11 v12).toArray] σ [] (fun v τ gs => gs = [] ∧ .bool r = v) := by
 refine CO func10 ntmps10 rfl (fun cs fs => Z 2 ?_)
 refine o_box (cs := (lS a0 v1 v2 v3 v4)) rfl rfl rfl rfl rfl (fun b17 => ?_)
 refine o_box (cs := (lS a1 v9 v10 v11 v12)) rfl rfl rfl rfl rfl (fun b18 => ZZ 5 [1] ?_)
 obtain ⟨r19, hr20, h⟩ := h
 refine SC z_en14 (law27_Of_ok hr20 σ hs5 hs6 hs7 hs8) ?_
 rintro _ τ21 _ hl22 ⟨v23, v24, v25, v26, rfl, rfl, hs27, hs28, hs29, hs30⟩
 refine o_alloc rfl rfl rfl z_zero40 (fun b31 => ?_)
 refine o_store (j := 0) (vs := (lS r19 v23 v24 v25 v26)) (cs' := (lS r19 v23 v24 v25 v26)) rfl rfl rfl z_size40 rfl rfl rfl (o4 (o4 (ones_cons hs27.one' (ones_cons hs28.one' (o4 (ones_cons rfl (ones_cons rfl (ones_cons hs29.one' (ones_cons hs30.one' ones_nil))))))))) rfl rfl rfl (Z 2 ?_)
 refine cutS τ21 (fun (s32 : Bool) => law27_same_j1 s32 r) (fun s32 => [(4, .bool s32)]) (fun s32 => []) (fun s32 τ32 h hl32 => ?_) (fun hk32 => ?_)
 ·obtain rfl := h.symm
  exact RT func10 rfl (hl22.trans hl32) ⟨rfl, rfl⟩
 refine ZZ 6 [0, 1] ?_
 refine M2 h (fun h => ?_) (fun h => ?_)
 ·refine ZZ 3 [0] ?_
  refine M2 h (fun h => ?_) (fun h => ?_)
  ·refine ZZ 11 [0] ?_
   refine M2 h (fun h => ?_) (fun h => ?_)
   ·refine ZZ 11 [0] ?_
    refine M2 h (fun h => ?_) (fun h => ?_)
    ·refine Z 9 ?_
     refine st_ord [] _ rfl ?_
     exact hk32 _ _ _ ⟨true, h, LR, rfl, rfl⟩
    ·refine ZZ 4 [0, 1] ?_
     obtain ⟨r33, hr34, h⟩ := h
     refine SC z_en31 (ref01_Ints_ok hr34 τ21 hs30 (hs16.up hl22)) ?_
     rintro _ τ35 _ hl36 ⟨rfl, rfl⟩
     refine Z 4 ?_
     refine st_ord [] _ rfl ?_
     exact hk32 _ _ _ ⟨r33, h, hl36, rfl, rfl⟩
   ·refine ZZ 4 [0, 1] ?_
    obtain ⟨r37, hr38, h⟩ := h
    refine SC z_en30 (ref26_Same_ok hr38 τ21 hs29 (hs15.up hl22)) ?_
    rintro _ τ39 _ hl40 ⟨rfl, rfl⟩
    refine Z 2 ?_
    refine M2 h (fun h => ?_) (fun h => ?_)
    ·refine ZZ 3 [0] ?_
     refine M2 h (fun h => ?_) (fun h => ?_)
     ·refine Z 9 ?_
      refine st_ord [] _ rfl ?_
      exact hk32 _ _ _ ⟨true, h, hl40, rfl, rfl⟩
     ·refine ZZ 4 [0, 1] ?_
      obtain ⟨r41, hr42, h⟩ := h
      refine SC z_en31 (ref01_Ints_ok hr42 τ39 (hs30.up hl40) (hs16.up (hl22.trans hl40))) ?_
      rintro _ τ43 _ hl44 ⟨rfl, rfl⟩
      refine Z 4 ?_
      refine st_ord [] _ rfl ?_
      exact hk32 _ _ _ ⟨r41, h, (hl40.trans hl44), rfl, rfl⟩
    ·refine Z 13 ?_
     refine st_ord [] _ rfl ?_
     exact hk32 _ _ _ ⟨false, h, hl40, rfl, rfl⟩
  ·refine ZZ 4 [0, 1] ?_
   obtain ⟨r45, hr46, h⟩ := h
   refine SC z_en29 (ref17_Same_ok hr46 τ21 hs27 hs28 (hs13.up hl22) (hs14.up hl22)) ?_
   rintro _ τ47 _ hl48 ⟨rfl, rfl⟩
   refine Z 2 ?_
   refine M2 h (fun h => ?_) (fun h => ?_)
   ·refine ZZ 3 [0] ?_
    refine M2 h (fun h => ?_) (fun h => ?_)
    ·refine ZZ 11 [0] ?_
     refine M2 h (fun h => ?_) (fun h => ?_)
     ·refine Z 9 ?_
      refine st_ord [] _ rfl ?_
      exact hk32 _ _ _ ⟨true, h, hl48, rfl, rfl⟩
     ·refine ZZ 4 [0, 1] ?_
      obtain ⟨r49, hr50, h⟩ := h
      refine SC z_en31 (ref01_Ints_ok hr50 τ47 (hs30.up hl48) (hs16.up (hl22.trans hl48))) ?_
      rintro _ τ51 _ hl52 ⟨rfl, rfl⟩
      refine Z 4 ?_
      refine st_ord [] _ rfl ?_
      exact hk32 _ _ _ ⟨r49, h, (hl48.trans hl52), rfl, rfl⟩
    ·refine ZZ 4 [0, 1] ?_
     obtain ⟨r53, hr54, h⟩ := h
     refine SC z_en30 (ref26_Same_ok hr54 τ47 (hs29.up hl48) (hs15.up (hl22.trans hl48))) ?_
     rintro _ τ55 _ hl56 ⟨rfl, rfl⟩
     refine Z 2 ?_
     refine M2 h (fun h => ?_) (fun h => ?_)
     ·refine ZZ 3 [0] ?_
      refine M2 h (fun h => ?_) (fun h => ?_)
      ·refine Z 9 ?_
       refine st_ord [] _ rfl ?_
       exact hk32 _ _ _ ⟨true, h, (hl48.trans hl56), rfl, rfl⟩
      ·refine ZZ 4 [0, 1] ?_
       obtain ⟨r57, hr58, h⟩ := h
       refine SC z_en31 (ref01_Ints_ok hr58 τ55 (hs30.up (hl48.trans hl56)) (hs16.up ((hl22.trans hl48).trans hl56))) ?_
       rintro _ τ59 _ hl60 ⟨rfl, rfl⟩
       refine Z 4 ?_
       refine st_ord [] _ rfl ?_
       exact hk32 _ _ _ ⟨r57, h, ((hl48.trans hl56).trans hl60), rfl, rfl⟩
     ·refine Z 13 ?_
      refine st_ord [] _ rfl ?_
      exact hk32 _ _ _ ⟨false, h, (hl48.trans hl56), rfl, rfl⟩
   ·refine Z 25 ?_
    refine st_ord [] _ rfl ?_
    exact hk32 _ _ _ ⟨false, h, hl48, rfl, rfl⟩
 ·refine Z 37 ?_
  refine st_ord [] _ rfl ?_
  exact hk32 _ _ _ ⟨false, h, LR, rfl, rfl⟩
theorem strings_Lines_1_ok {c0 : ByteArray} {bc0 : Nat} {σ0 : Sto}  :
    IterV prog (fun _ x vx => vx = [.string x]) (.func (.func 90) #[] [.Pb bc0].toArray) σ0 [(bc0, .cells [.string c0].toArray 9 (0, 0))] (fun (oo : ByteArray) υ f => f = [(bc0, .cells [.string oo].toArray 9 (0, 0))]) (strings_Lines_1 c0) := by
 intro S Y I y hyc hyo hIm hY s s' o hR σ g hle hIg
 obtain ⟨r, hr0⟩ : ∃ r, r = (s', o) := ⟨_, rfl⟩
 rw [← hr0] at hR
 have h := hR
 refine callV_of (caps := [.Pb bc0]) z_en90 ?_
 refine CO func90 ntmps90 rfl (fun cs fs => ?_)
 refine st_perm (gs' := [g, [(bc0, .cells #[.string c0] 9 (0, 0))]]) (by simp) ?_
 obtain ⟨e1, hL1, hA1⟩ := h
 refine st_ord [1, 0] _ rfl ?_
 refine st_loop hL1 (fun (s1 : S × ByteArray) ρ τ1 gs => σ.Le τ1 ∧ ∃ (g2 : Grp), ESub ρ [(0, y), (1, .Pb bc0)] ∧ gs = [[(bc0, .cells #[.string s1.2] 9 (0, 0))], g2] ∧ I s1.1 τ1 g2) ⟨LR, g, rfl, rfl, hIg⟩ ?_
 rintro s1 o1 h he1 ρ1 τ1 gs1 ⟨hl1, g2, hρ, rfl, hI3⟩ hn1
 refine st_es hρ (ZZ 7 [0] ?_)
 refine I2 h (fun h => ?_) (fun h => ?_)
 ·refine Z 4 ?_
  refine o_assign rfl rfl rfl (ev_str z_str1) (Z 2 ?_)
  refine st_cut (fun ρ τ4 gs => ∃ (s4 : S × ByteArray × ByteArray) (g5 : Grp), strings_Lines_1_j2 S Y s4 o1 ∧ τ1.Le τ4 ∧ ESub ρ [(3, .string s4.2.1), (0, y), (1, .Pb bc0)] ∧ gs = [[(bc0, .cells #[.string s4.2.2] 9 (0, 0))], g5] ∧ I s4.1 τ4 g5) ?_ (fun hk4 => ?_)
  ·rintro ρ4 τ4 gs4 ⟨s4, g5, h, hl4, hρ, rfl, hI6⟩
   refine st_es hρ (Z 4 ?_)
   obtain ⟨y7, u8, hy9, h⟩ := h
   refine st_ord [1, 0] _ rfl ?_
   refine st_call (foot := [g5]) rfl rfl rfl rfl rfl rfl (hY s4.2.1 s4.1 _ _ _ _ _ (hle.trans (hl1.trans hl4)) hy9 rfl hI6) ?_
   rintro _ τ10 _ hl11 ⟨rfl, g12, rfl, hI13⟩
   refine Z 2 ?_
   refine I2 h (fun h => ?_) (fun h => ?_)
   ·obtain rfl := he1 _ h
    replace h := hA1
    obtain rfl := Eq.symm h
    cases hr0
    exact st_ret (gs' := [g12, [(bc0, .cells #[.string s4.2.2] 9 (0, 0))]]) func90 rfl (by simp) ((hl1.trans hl4).trans hl11) ⟨g12, _, rfl, hI13, rfl⟩
   ·refine Z 2 ?_
    refine st_ord [1, 0] _ rfl ?_
    exact hn1 _ _ _ _ h ⟨((hl1.trans hl4).trans hl11), g12, rfl, rfl, hI13⟩
  refine ZZ 3 [0] ?_
  obtain ⟨r14, hr15, h⟩ := h
  refine SC z_en91 (strings_IndexByte_ok hr15 τ1) ?_
  rintro _ τ16 _ hl17 ⟨rfl, rfl⟩
  refine Z 7 ?_
  refine I2 h (fun h => ?_) (fun h => ?_)
  ·obtain ⟨hf18, hf19, hf20, hf21, h⟩ := h
   refine st_draw 9 (dl [.v (.string s1.2), .v (.I r14), .v (.I (i64.wrap (r14 + 1))), .v (.string (s1.2.extract 0 (i64.wrap (r14 + 1)).toNat)), .v (.string s1.2), .v (.I r14), .v (.I (i64.wrap (r14 + 1))), .v (.string (s1.2.extract (i64.wrap (r14 + 1)).toNat s1.2.size)), .v (.string (s1.2.extract 0 (i64.wrap (r14 + 1)).toNat))]) (fun _ _ => []) z_mix rfl (dl_mono trivial) (allB_cons (allB_cons (allB_cons (allB_cons (allB_cons (allB_cons (allB_cons (allB_cons (allB_cons allB_nil ?_) (p1 dA)) (p1 dA)) ?_) ?_) (p1 dA)) (p1 dA)) ?_) (p1 dA)) ?_
   ·intro ρ' τ pq rs hl hd hq hk
    refine o_load (j := 0) (v := .string s1.2) rfl rfl rfl z_sc9 (oT hq 1) rfl rfl ?_
    exact st_addNil (hk _ _ LR rfl)
   ·intro ρ' τ pq rs hl hd hq hk
    obtain ⟨_, e0, rfl⟩ := hd 0 rfl
    obtain ⟨_, e2, rfl⟩ := hd 2 rfl
    refine o_sliceSh rfl rfl rfl underlying9 e0 e2 hf18 hf19 ?_
    exact st_addNil (hk _ _ LR rfl)
   ·intro ρ' τ pq rs hl hd hq hk
    refine o_load (j := 0) (v := .string s1.2) rfl rfl rfl z_sc9 (oT hq 1) rfl rfl ?_
    exact st_addNil (hk _ _ LR rfl)
   ·intro ρ' τ pq rs hl hd hq hk
    obtain ⟨_, e4, rfl⟩ := hd 4 rfl
    obtain ⟨_, e6, rfl⟩ := hd 6 rfl
    refine o_sliceSl rfl rfl rfl underlying9 e4 e6 hf20 hf21 ?_
    exact st_addNil (hk _ _ LR rfl)
   intro ρ' τ22 vals hl22 hv hq
   refine st_ord [0, 0] _ rfl ?_
   refine st_env (ρ' := [(19, .string (s1.2.extract (i64.wrap (r14 + 1)).toNat s1.2.size)), (3, .string (s1.2.extract 0 (i64.wrap (r14 + 1)).toNat)), (0, y), (1, .Pb bc0)]) ⟨(lv1 hv 7 rfl rfl), (lv1 hv 8 rfl rfl), oT hq 0, oT hq 1, trivial⟩ (ZZ 2 [0] ?_)
   exact hk4 _ _ _ ⟨(s1.1, (s1.2.extract 0 (i64.wrap (r14 + 1)).toNat), (s1.2.extract (i64.wrap (r14 + 1)).toNat s1.2.size)), g2, h, (hl17.trans hl22), rfl, rfl, (hIm _ _ _ _ (hl17.trans hl22) hI3)⟩
  ·refine ZZ 3 [0] ?_
   refine o_store (j := 0) (vs := [.E0]) (cs' := [.E0]) rfl rfl rfl z_size9 rfl (ev_str z_str1) rfl (ones_cons rfl ones_nil) rfl rfl rfl ?_
   refine st_end ?_
   exact hk4 _ _ _ ⟨(s1.1, s1.2, (bstr [])), g2, h, hl17, rfl, rfl, (hIm _ _ _ _ hl17 hI3)⟩
 ·refine st_exit rfl ?_
  refine st_ord [1, 0] _ rfl ?_
  obtain rfl := he1 _ h
  replace h := hA1
  obtain rfl := Eq.symm h
  cases hr0
  exact st_fin (gs' := [g2, [(bc0, .cells #[.string s1.2] 9 (0, 0))]]) func90 rfl (by simp) hl1 ⟨g2, _, rfl, hI3, rfl⟩
theorem strings_Lines_ok {a0 : ByteArray} {r : ((ByteArray → (S : Type) → (ByteArray → S → Bool × S → Prop) → S → S × ByteArray → Prop)) × ByteArray} (h : strings_Lines a0 r) (σ : Sto)  :
    Does prog 53 [.string a0] σ [] (fun v τ gs => ∃ (f3 : Nat) (q4 : Array Value) (b6 : Nat), gs = [[(b6, .cells [.string r.2].toArray 9 (0, 0))]] ∧ .func (.func f3) #[] q4 = v ∧ ∀ (x8 : ByteArray) (σ7 : Sto), τ.Le σ7 → IterV prog (fun _ x vx => vx = [.string x]) (.func (.func f3) #[] q4) σ7 [(b6, .cells [.string x8].toArray 9 (0, 0))] (fun (o9 : ByteArray) υ f => f = [(b6, .cells [.string o9].toArray 9 (0, 0))]) (r.1 x8)) := by
 refine CO func53 ntmps53 rfl (fun cs fs => Z 2 ?_)
 refine o_boxC rfl rfl rfl rfl rfl rfl (fun b1 => Z 7 ?_)
 obtain rfl := Eq.symm h
 exact st_ret (gs' := [[(b1, .cells #[.string a0] 9 (0, 0))]]) func53 rfl (List.Sublist.refl _) LR ⟨_, _, _, rfl, rfl, (fun _ _ hl  => strings_Lines_1_ok )⟩
theorem internal_stringslite_HasSuffix_ok {a0 a1 : ByteArray} {r : Bool} (h : internal_stringslite_HasSuffix a0 a1 r) (σ : Sto)  :
    Does prog 89 [.string a0, .string a1] σ [] (fun v τ gs => gs = [] ∧ .bool r = v) := by
 refine CO func89 ntmps89 rfl (fun cs fs => Z 5 ?_)
 refine cutS σ (fun (s1 : Bool) => internal_stringslite_HasSuffix_j1 s1 r) (fun s1 => [(4, .bool s1)]) (fun s1 => []) (fun s1 τ1 h hl1 => ?_) (fun hk1 => ?_)
 ·obtain rfl := h.symm
  exact RT func89 rfl hl1 ⟨rfl, rfl⟩
 refine Z 6 ?_
 refine M2 h (fun h => ?_) (fun h => ?_)
 ·refine Z 6 ?_
  obtain ⟨hf2, hf3, h⟩ := h
  refine o_sliceSl rfl rfl rfl underlying9 rfl rfl hf2 hf3 (Z 5 ?_)
  exact hk1 _ _ _ ⟨(decide ((a0.extract (i64.wrap ((a0.size : Int) - (a1.size : Int))).toNat a0.size) = a1)), h, LR, rfl, rfl⟩
 ·refine Z 12 ?_
  exact hk1 _ _ _ ⟨false, h, LR, rfl, rfl⟩
theorem internal_stringslite_CutSuffix_ok {a0 a1 : ByteArray} {r : ByteArray × Bool} (h : internal_stringslite_CutSuffix a0 a1 r) (σ : Sto)  :
    Does prog 92 [.string a0, .string a1] σ [] (fun v τ gs => gs = [] ∧ .tuple [.string r.1, .bool r.2].toArray = v) := by
 refine CO func92 ntmps92 rfl (fun cs fs => Z 2 ?_)
 refine o_assign rfl rfl rfl (ev_str z_str1) (Z 7 ?_)
 obtain ⟨r1, hr2, h⟩ := h
 refine SC z_en89 (internal_stringslite_HasSuffix_ok hr2 σ) ?_
 rintro _ τ3 _ hl4 ⟨rfl, rfl⟩
 refine Z 2 ?_
 refine I2 h (fun h => ?_) (fun h => ?_)
 ·refine Z 6 ?_
  obtain rfl := h.symm
  exact RT func92 rfl hl4 ⟨rfl, rfl⟩
 ·refine Z 9 ?_
  obtain ⟨hf5, hf6, h⟩ := h
  refine o_sliceSh rfl rfl rfl underlying9 rfl rfl hf5 hf6 (Z 3 ?_)
  obtain rfl := h.symm
  exact RT func92 rfl hl4 ⟨rfl, rfl⟩
theorem strings_CutSuffix_ok {a0 a1 : ByteArray} {r : ByteArray × Bool} (h : strings_CutSuffix a0 a1 r) (σ : Sto)  :
    Does prog 54 [.string a0, .string a1] σ [] (fun v τ gs => gs = [] ∧ .tuple [.string r.1, .bool r.2].toArray = v) := by
 refine CO func54 ntmps54 rfl (fun cs fs => Z 2 ?_)
 refine o_assign rfl rfl rfl (ev_str z_str1) (Z 6 ?_)
 obtain ⟨r1, hr2, h⟩ := h
 refine SC z_en92 (internal_stringslite_CutSuffix_ok hr2 σ) ?_
 rintro _ τ3 _ hl4 ⟨rfl, rfl⟩
 refine Z 5 ?_
 obtain rfl := h.symm
 exact RT func54 rfl hl4 ⟨rfl, rfl⟩
theorem script_Lines_1_ok {c0 : ByteArray} {bc0 : Nat} {σ0 : Sto} (hc0_0 : Cel σ0 ⟨bc0, 0, none⟩ (.string c0)) :
    IterV prog (fun _ x vx => vx = [.I x.1, .string x.2]) (.func (.func 52) #[] [.Pb bc0].toArray) σ0 [] (fun (_ : Unit) _ f => f = []) (script_Lines_1 c0) := by
 intro S Y I y hyc hyo hIm hY s s' o hR σ g hle hIg
 obtain ⟨r, hr0⟩ : ∃ r, r = (s', o) := ⟨_, rfl⟩
 rw [← hr0] at hR
 have h := hR
 refine callV_of (caps := [.Pb bc0]) z_en52 ?_
 refine CO func52 ntmps52 rfl (fun cs fs => ?_)
 refine st_ord [0] _ rfl (Z 2 ?_)
 refine o_box (cs := [y]) rfl rfl rfl rfl hyc (fun b1 => Z 4 ?_)
 refine o_alloc rfl rfl rfl z_zero3 (fun b2 => ZZ 6 [0] ?_)
 refine o_loadI (v := .string c0) rfl rfl rfl z_sc9 rfl (Cel.up hc0_0 hle) ?_
 obtain ⟨r3, hr4, h⟩ := h
 refine SC z_en53 (strings_Lines_ok hr4 σ) ?_
 rintro _ τ5 _ hl6 ⟨f7, q8, b10, rfl, rfl, hit9⟩
 refine Z 2 ?_
 obtain ⟨t14, w14, hR14, hA14⟩ := h
 refine st_env (ρ' := [(2, .Pb b1), (3, .Pb b2), (8, .func (.func f7) #[] q8)]) ⟨rfl, rfl, rfl, trivial⟩ ?_
 refine st_ord [0, 1, 0, 0] _ rfl ?_
 refine st_range (B := script_Lines_1_l1 S Y) (s0 := (s, 0)) ranges_fctx rfl (hit9 r3.2 τ5 LR) LR hR14 rfl (fun _ _ _ h => by cases h; rfl) (fun (s14 : S × Int) τ14 gs => τ5.Le τ14 ∧ ∃ (g15 : Grp), gs = [[(b1, .cells #[y] 107 (0, 0))], [(b2, .cells #[.I s14.2] 3 (0, 0))], g15] ∧ I s14.1 τ14 g15) (fun (p31 : S × Int) cd τ32 gs => cd = .exit 0 ∧ τ5.Le τ32 ∧ ∃ (g34 : Grp), gs = [[(b1, .cells #[y] 107 (0, 0))], [(b2, .cells #[.I p31.2] 3 (0, 0))], g34] ∧ I p31.1 τ32 g34) (fun _ _ _ _ hl ⟨hb, g15, hg, hI16⟩ => ⟨hb.trans hl, g15, hg, hIm _ _ _ _ hl hI16⟩) (fun _ _ _ _ _ hl ⟨hc, hb, g34, hg, hI35⟩ => ⟨hc, hb.trans hl, g34, hg, hIm _ _ _ _ hl hI35⟩) ⟨LR, g, rfl, (hIm _ _ _ _ hl6 hIg)⟩ ?_ ?_ ?_
 ·rintro x14 s14 o14 τ14 gs14 vx14 hl14 h rfl ⟨hb14, g15, rfl, hI16⟩ l14 rc14 caller14 cs14 fs14
  refine Z 3 ?_
  refine st_begin (Z 4 ?_)
  obtain ⟨r17, hr18, h⟩ := h
  refine st_call (foot := []) rfl rfl rfl rfl (evs_cons rfl (evs_cons (ev_str z_str42) rfl)) rfl (callV_fn z_en54 (strings_CutSuffix_ok hr18 τ14)) ?_
  rintro _ τ19 _ hl20 ⟨rfl, rfl⟩
  refine Z 8 ?_
  refine st_cut (fun ρ τ21 gs => ∃ (s21 : S × Bool) (g22 : Grp), script_Lines_1_j2 S Y s14 s21 o14 ∧ τ19.Le τ21 ∧ ESub ρ [(2, .Pb b1), (3, .Pb b2), (9, .string x14), (4, .string x14), (23, .bool s21.2)] ∧ gs = [[(b1, .cells #[y] 107 (0, 0))], [(b2, .cells #[.I s14.2] 3 (0, 0))], g22] ∧ I s21.1 τ21 g22) ?_ (fun hk21 => ?_)
  ·rintro ρ21 τ21 gs21 ⟨s21, g22, h, hl21, hρ, rfl, hI23⟩
   refine st_es hρ ?_
   refine I2 h (fun h => ?_) (fun h => ?_)
   ·exact st_rexit rfl (List.Sublist.refl _) (hl20.trans hl21) ⟨_, h, rfl, ((hl14.trans hl20).trans hl21), g22, rfl, hI23⟩
   ·refine ZZ 7 [1, 1] ?_
    exact st_rend (List.Sublist.refl _) (hl20.trans hl21) ⟨_, h, ((hl14.trans hl20).trans hl21), g22, rfl, hI23⟩
  refine Z 3 ?_
  refine M2 h (fun h => ?_) (fun h => ?_)
  ·refine Z 7 ?_
   exact hk21 _ _ _ ⟨(s14.1, true), g15, h, LR, rfl, rfl, (hIm _ _ _ _ hl20 hI16)⟩
  ·refine ZZ 3 [0, 1] ?_
   obtain ⟨y24, u25, hy26, h⟩ := h
   refine st_ord [2, 0, 0] _ rfl ?_
   refine st_call (foot := [g15]) rfl rfl rfl rfl rfl rfl (hY (s14.2, r17.1) s14.1 _ _ _ _ _ (hle.trans ((hl6.trans hl14).trans hl20)) hy26 rfl (hIm _ _ _ _ hl20 hI16)) ?_
   rintro _ τ27 _ hl28 ⟨rfl, g29, rfl, hI30⟩
   refine Z 3 ?_
   refine st_ord [1, 1, 0] _ rfl ?_
   exact hk21 _ _ _ ⟨(u25, (!y24)), g29, h, hl28, rfl, rfl, hI30⟩
 ·rintro p37 τ38 gs14 f14 ht hl39 ⟨hb, g40, rfl, hI41⟩ rfl
  subst ht
  replace h := hA14
  refine Z 2 ?_
  refine st_ord [3] _ rfl ?_
  obtain rfl := Eq.symm h
  cases hr0
  exact st_fin (gs' := [g40, []]) func52 rfl (by simp) (hl6.trans hl39) ⟨g40, _, rfl, hI41, rfl⟩
 ·rintro p31 cd14 τ32 gs14 f14 ht hl33 ⟨rfl, hb, g34, rfl, hI35⟩ rfl
  subst ht
  replace h := hA14
  refine Z 2 ?_
  refine st_ord [3] _ rfl ?_
  obtain rfl := Eq.symm h
  cases hr0
  exact st_fin (gs' := [g34, []]) func52 rfl (by simp) (hl6.trans hl33) ⟨g34, _, rfl, hI35, rfl⟩
theorem script_Lines_ok {a0 : ByteArray} {r : (((S : Type) → ((Int × ByteArray) → S → Bool × S → Prop) → S → S × Unit → Prop))} (h : script_Lines a0 r) (σ : Sto)  :
    Does prog 21 [.string a0] σ [] (fun v τ gs => ∃ (f5 : Nat) (q6 : Array Value), gs = [] ∧ .func (.func f5) #[] q6 = v ∧ IterV prog (fun _ x vx => vx = [.I x.1, .string x.2]) (.func (.func f5) #[] q6) τ [] (fun (_ : Unit) _ f => f = []) r) := by
 refine CO func21 ntmps21 rfl (fun cs fs => Z 2 ?_)
 refine o_boxC rfl rfl rfl rfl rfl rfl (fun b1 => Z 4 ?_)
 refine st_freeze (fun τ2 hl3 hg4 => Z 3 ?_)
 obtain rfl := h.symm
 exact RT func21 rfl hl3 ⟨_, _, rfl, rfl, (script_Lines_1_ok (cel_of hg4 rfl))⟩
theorem conf_start_ok {a0 : Int} {r : Int × Bool} (h : conf_start a0 r) (σ : Sto)  :
    Does prog 88 [.I a0] σ [] (fun v τ gs => gs = [] ∧ .tuple [.int .u32 r.1, .bool r.2].toArray = v) := by
 refine CO func88 ntmps88 rfl (fun cs fs => Z 17 ?_)
 obtain rfl := h.symm
 exact RT func88 rfl LR ⟨rfl, rfl⟩
theorem conf_Parse_ok {a0 : ByteArray} {r : (Int × Int × Int) × (Int × Int) × Int} (h : conf_Parse a0 r) (σ : Sto) (hE : Errs prog σ) :
    Does prog 49 [.string a0] σ [] (fun v τ gs => gs = [] ∧ .tuple [.agg [.I r.1.1, .I r.1.2.1, .int .u32 r.1.2.2].toArray, .agg [.int .u32 r.2.1.1, .I r.2.1.2].toArray, .I r.2.2].toArray = v) := by
 refine CO func49 ntmps49 rfl (fun cs fs => Z 2 ?_)
 refine o_alloc rfl rfl rfl z_zero56 (fun b1 => ?_)
 refine o_alloc rfl rfl rfl z_zero58 (fun b2 => Z 5 ?_)
 refine o_alloc rfl rfl rfl z_zero157 (fun b3 => Z 3 ?_)
 refine o_alloc rfl rfl rfl z_zero67 (fun b4 => Z 5 ?_)
 obtain ⟨r5, hr6, h⟩ := h
 refine SC z_en61 (say_Words_ok hr6 σ) ?_
 rintro _ τ7 _ hl8 ⟨f9, q10, rfl, rfl, hit11⟩
 refine Z 2 ?_
 obtain ⟨t12, w12, hR12, hA12⟩ := h
 refine st_env (ρ' := [(2, .Pb b1), (3, .Pb b2), (4, .I 0), (5, .Pb b3), (6, .Pb b4), (18, .func (.func f9) #[] q10)]) ⟨rfl, rfl, rfl, rfl, rfl, rfl, trivial⟩ ?_
 refine st_addNil ?_
 refine st_ord [4, 3, 2, 1, 0] _ rfl ?_
 refine st_addNil ?_
 refine st_range (B := conf_Parse_l1) (s0 := []) ranges_fctx rfl hit11 LR hR12 rfl (fun _ _ _ h => by cases h; rfl) (fun (s12 : K0) τ12 gs => τ7.Le τ12 ∧ ∃ (v13 : Value) (g14 : Grp), gs = [[(b1, .cells #[.I 0, .I 0, .int .u32 0] 56 (0, 0))], [(b2, .cells #[.int .u32 0, .I 0] 58 (0, 0))], [(b3, .cells #[.I 0, .I 0, .I 0, .I 0, .I 0] 157 (0, 0))], [(b4, .cells #[v13] 67 (0, 0))], g14] ∧ Ow kS 9 τ12 v13 s12 g14) (fun _ _ _ _ => False) (fun _ _ _ _ hl ⟨hb, v13, g14, hg, ho15⟩ => ⟨hb.trans hl, v13, g14, hg, ho15.up hl⟩) (fun _ _ _ _ _ _ h => h.elim) ⟨LR, _, _, rfl, Ow.nil⟩ ?_ ?_ ?_
 ·rintro x12 s12 o12 τ12 gs12 vx12 hl12 h rfl ⟨hb12, v13, g14, rfl, ho15⟩ l12 rc12 caller12 cs12 fs12
  refine Z 3 ?_
  refine st_begin (ZZ 4 [3] ?_)
  refine o_litE eS [x12.2] rfl rfl rfl z_slT67 z_zero9 ⟨rfl, ⟨_, rfl, rfl⟩, trivial⟩ rfl rfl rfl rfl (fun v16 g17 ho18 => ?_)
  obtain ⟨hf22, hf23, h⟩ := h
  refine st_ord [5, 0, 0, 0, 0, 0] _ rfl ?_
  refine o_append (dk := kS) (xs := s12) (ys := [x12.2]) rfl rfl rfl rfl z_slT67 rfl ho15 rfl (Ow.src (j := 1) ho18 rfl) hf22 hf23 (fun v19 g20 ho21 => ?_)
  refine o_store (j := 5) (vs := [v19]) (cs' := [v19]) rfl rfl rfl z_size67 rfl rfl (oneL_ow ho21) (ones_cons ho21.one' ones_nil) rfl rfl rfl (Z 2 ?_)
  refine st_ord [2, 2, 2, 2, 0] _ rfl ?_
  exact st_rend (List.Sublist.refl _) LR ⟨_, h, hl12, _, _, rfl, ho21⟩
 ·rintro p24 τ25 gs12 f12 ht hl26 ⟨hb, v27, g28, rfl, ho29⟩ rfl
  subst ht
  replace h := hA12
  refine st_ord [1, 1, 1, 1, 1] _ rfl (Z 3 ?_)
  refine cutS τ25 (fun (s30 : Bool) => conf_Parse_j2 p24 s30 r) (fun s30 => [(2, .Pb b1), (3, .Pb b2), (4, .I 0), (5, .Pb b3), (6, .Pb b4), (33, .bool s30)]) (fun s30 => [[(b1, .cells #[.I 0, .I 0, .int .u32 0] 56 (0, 0))], [(b2, .cells #[.int .u32 0, .I 0] 58 (0, 0))], [(b3, .cells #[.I 0, .I 0, .I 0, .I 0, .I 0] 157 (0, 0))], [(b4, .cells #[v27] 67 (0, 0))], g28]) (fun s30 τ30 h hl30 => ?_) (fun hk30 => ?_)
  ·refine I2 h (fun h => ?_) (fun h => ?_)
   ·refine ZZ 8 [0, 1] ?_
    obtain rfl := h.symm
    exact RC [.agg #[.I 0, .I 0, .int .u32 0], .agg #[.int .u32 0, .I 0], .I 3] func49 ⟨cN 0 z_agg56, cN 1 z_agg58, rfl, trivial⟩ ((hl8.trans hl26).trans hl30) ⟨rfl, rfl⟩
   ·refine Z 8 ?_
    refine cutS τ30 (fun (s31 : K25) => conf_Parse_j3 s31 r) (fun s31 => [(2, .Pb b1), (3, .Pb b2), (4, .I 0), (5, .Pb b3), (9, .I s31.1)]) (fun s31 => [[(b1, .cells #[.I 0, .I 0, .int .u32 0] 56 (0, 0))], [(b2, .cells #[.int .u32 0, .I 0] 58 (0, 0))], [(b3, .cells #[.I s31.2.1, .I s31.2.2.1, .I s31.2.2.2.1, .I s31.t4.1, .I s31.t4.2] 157 (0, 0))]]) (fun s31 τ31 h hl31 => (Z 2 ?_)) (fun hk31 => ?_)
    ·refine o_indexA rfl rfl rfl z_arr157 rfl rfl (by decide) (by decide) (ZZ 1 [2] ?_)
     obtain ⟨r32, hr33, h⟩ := h
     refine SC z_en88 (conf_start_ok hr33 τ31) ?_
     rintro _ τ34 _ hl35 ⟨rfl, rfl⟩
     refine Z 8 ?_
     refine o_indexA rfl rfl rfl z_arr157 rfl rfl (by decide) (by decide) (ZZ 1 [2] ?_)
     obtain ⟨r36, hr37, h⟩ := h
     refine SC z_en88 (conf_start_ok hr37 τ34) ?_
     rintro _ τ38 _ hl39 ⟨rfl, rfl⟩
     refine Z 7 ?_
     refine st_d42 [[(b1, .cells #[.I 0, .I 0, .int .u32 0] 56 (0, 0))], [(b2, .cells #[.int .u32 0, .I 0] 58 (0, 0))], [(b3, .cells #[.I s31.2.1, .I s31.2.2.1, .I s31.2.2.2.1, .I s31.t4.1, .I s31.t4.2] 157 (0, 0))]] [] [] 13 2 1 [none, none, none, none, none, none, none, none, none, none, some (0, 0), some (1, 0), some (0, 1)] [none, none, none, none, none, none, none, none, none, none, none, none, none] [[none, some 15, some 15], [none, some 16]] [.v (.Pb b3), .v (.I s31.2.1), .v (.pointer (some ⟨b3, 1, none⟩)), .v (.I s31.2.2.1), .v (.int .u32 r32.1), .v (.agg #[.I s31.2.1, .I s31.2.2.1, .int .u32 r32.1]), .v (.int .u32 r36.1), .v (.pointer (some ⟨b3, 4, none⟩)), .v (.I s31.t4.2), .v (.agg #[.int .u32 r36.1, .I s31.t4.2]), .t fun _ _ => True, .t fun _ _ => True, .t fun _ _ => True] [[fun τ u F => F = [], fun τ u F => ∃ (b41 : Nat), F = [[(b41, .cells #[.I 0, .I 0, .int .u32 0] 56 (0, 0))]] ∧ .Pb b41 = u, fun τ u F => ∃ (b44 : Nat), F = [[(b44, .cells #[.I s31.2.1, .I s31.2.2.1, .int .u32 r32.1] 56 (0, 0))]] ∧ .Pb b44 = u], [fun τ u F => F = [], fun τ u F => ∃ (b43 : Nat), F = [[(b43, .cells #[.int .u32 0, .I 0] 58 (0, 0))]] ∧ .Pb b43 = u]] rfl z_mix rfl ⟨fun _ _ _ _ _ => trivial, ⟨fun _ _ _ _ _ => trivial, ⟨fun _ _ _ _ _ => trivial, trivial⟩⟩⟩ ⟨⟨fun _ _ _ _ hl h => h, ⟨fun _ _ _ _ hl h => (let ⟨b41, hF, hU⟩ := h; ⟨b41, hF, hU⟩), ⟨fun _ _ _ _ hl h => (let ⟨b44, hF, hU⟩ := h; ⟨b44, hF, hU⟩), trivial⟩⟩⟩, ⟨⟨fun _ _ _ _ hl h => h, ⟨fun _ _ _ _ hl h => (let ⟨b43, hF, hU⟩ := h; ⟨b43, hF, hU⟩), trivial⟩⟩, trivial⟩⟩ rfl rfl ?_ ?_ (allB_cons (allB_cons (allB_cons (allB_cons (allB_cons (allB_cons (allB_cons (allB_cons (allB_cons (allB_cons (allB_cons (allB_cons (allB_cons allB_nil ?_) ?_) ?_) ?_) (p4 dA)) ?_) (p4 dA)) ?_) ?_) ?_) ?_) ?_) ?_) ?_
     ·exact rfl
     ·exact rfl
     ·intro ρ' τ pq rs hl hd hq hw hk
      refine o_indexA rfl rfl rfl z_arr157 (oT hq 5) rfl (by decide) (by decide) ?_
      exact hk _ _ LR rfl
     ·intro ρ' τ pq rs hl hd hq hw hk
      obtain ⟨_, e0, rfl⟩ := hd 0 rfl _ rfl
      refine o_load (j := 2) (v := .I s31.2.1) rfl rfl rfl z_sc3 e0 rfl rfl ?_
      exact hk _ _ LR rfl
     ·intro ρ' τ pq rs hl hd hq hw hk
      refine o_indexA rfl rfl rfl z_arr157 (oT hq 5) rfl (by decide) (by decide) ?_
      exact hk _ _ LR rfl
     ·intro ρ' τ pq rs hl hd hq hw hk
      obtain ⟨_, e2, rfl⟩ := hd 2 rfl _ rfl
      refine o_load (j := 2) (v := .I s31.2.2.1) rfl rfl rfl z_sc3 e2 rfl rfl ?_
      exact hk _ _ LR rfl
     ·intro ρ' τ pq rs hl hd hq hw hk
      obtain ⟨_, e1, rfl⟩ := hd 1 rfl _ rfl
      obtain ⟨_, e3, rfl⟩ := hd 3 rfl _ rfl
      obtain ⟨_, e4, rfl⟩ := hd 4 rfl _ rfl
      refine o_build (ps := [(0, [.I s31.2.1]), (1, [.I s31.2.2.1]), (2, [.int .u32 r32.1])]) rfl rfl rfl z_struct56 ⟨rfl, ⟨_, e1, rfl⟩, ⟨rfl, ⟨_, e3, rfl⟩, ⟨rfl, ⟨_, e4, rfl⟩, trivial⟩⟩⟩ rfl ?_
      exact hk _ _ LR rfl
     ·intro ρ' τ pq rs hl hd hq hw hk
      refine o_indexA rfl rfl rfl z_arr157 (oT hq 5) rfl (by decide) (by decide) ?_
      exact hk _ _ LR rfl
     ·intro ρ' τ pq rs hl hd hq hw hk
      obtain ⟨_, e7, rfl⟩ := hd 7 rfl _ rfl
      refine o_load (j := 2) (v := .I s31.t4.2) rfl rfl rfl z_sc3 e7 rfl rfl ?_
      exact hk _ _ LR rfl
     ·intro ρ' τ pq rs hl hd hq hw hk
      obtain ⟨_, e6, rfl⟩ := hd 6 rfl _ rfl
      obtain ⟨_, e8, rfl⟩ := hd 8 rfl _ rfl
      refine o_build (ps := [(0, [.int .u32 r36.1]), (1, [.I s31.t4.2])]) rfl rfl rfl z_struct58 ⟨rfl, ⟨_, e6, rfl⟩, ⟨rfl, ⟨_, e8, rfl⟩, trivial⟩⟩ rfl ?_
      exact hk _ _ LR rfl
     ·intro ρ' τ u Fv pq rs hl hI hu hd hq hw hk
      have hI0 := hI
      obtain rfl := hI
      refine o_alloc rfl rfl rfl z_zero56 (fun b40 => ?_)
      refine st_ord [1, 1, 1, 0, 0] _ rfl ?_
      exact hk _ _ [[(b40, .cells #[.I 0, .I 0, .int .u32 0] 56 (0, 0))]] LR trivial (by exact ⟨b40, rfl, rfl⟩)
     ·intro ρ' τ u Fv pq rs hl hI hu hd hq hw hk
      have hI0 := hI
      obtain rfl := hI
      refine o_alloc rfl rfl rfl z_zero58 (fun b42 => ?_)
      refine st_ord [1, 1, 1, 0, 0] _ rfl ?_
      exact hk _ _ [[(b42, .cells #[.int .u32 0, .I 0] 58 (0, 0))]] LR trivial (by exact ⟨b42, rfl, rfl⟩)
     ·intro ρ' τ u Fv pq rs hl hI hu hd hq hw hk
      obtain ⟨_, e5, rfl⟩ := hd 5 rfl _ rfl
      obtain ⟨b41, rfl, rfl⟩ := hI
      refine o_store (j := 3) (vs := [.I s31.2.1, .I s31.2.2.1, .int .u32 r32.1]) (cs' := [.I s31.2.1, .I s31.2.2.1, .int .u32 r32.1]) rfl rfl rfl z_size56 (hu (by decide) _ rfl) e5 rfl (ones_cons rfl (ones_cons rfl (ones_cons rfl ones_nil))) rfl rfl rfl ?_
      exact hk _ _ [[(b41, .cells #[.I s31.2.1, .I s31.2.2.1, .int .u32 r32.1] 56 (0, 0))]] LR trivial (by exact ⟨b41, rfl, rfl⟩)
     intro ρ' τ45 vals u u1 Fv Fv1 hl45 hI hu hI1 hu1 hv hq
     obtain ⟨b44, rfl, rfl⟩ := hI
     obtain ⟨b43, rfl, rfl⟩ := hI1
     refine st_env (ρ' := [(74, .agg #[.int .u32 r36.1, .I s31.t4.2]), (2, .Pb b1), (3, .Pb b2), (4, .I 0), (9, .I s31.1), (12, .bool r32.2), (14, .bool r36.2), (15, .Pb b44), (16, .Pb b43)]) ⟨(lv4 hv 9 rfl rfl rfl), oT hq 2, oT hq 3, oT hq 4, oT hq 9, oT hq 12, oT hq 14, (by exact hu _ rfl), (by exact hu1 _ rfl), trivial⟩ (ZZ 3 [4] ?_)
     refine cutS τ45 (fun (s46 : Int) => conf_Parse_j4 s31 r32 r36 s46 r) (fun s46 => [(2, .Pb b1), (3, .Pb b2), (4, .I 0), (9, .I s46), (15, .Pb b44), (16, .Pb b43)]) (fun s46 => [[(b1, .cells #[.I 0, .I 0, .int .u32 0] 56 (0, 0))], [(b2, .cells #[.int .u32 0, .I 0] 58 (0, 0))], [(b44, .cells #[.I s31.2.1, .I s31.2.2.1, .int .u32 r32.1] 56 (0, 0))], [(b43, .cells #[.int .u32 r36.1, .I s31.t4.2] 58 (0, 0))]]) (fun s46 τ46 h hl46 => (Z 6 ?_)) (fun hk46 => ?_)
     ·refine I2 h (fun h => ?_) (fun h => ?_)
      ·refine ZZ 9 [0, 1] ?_
       obtain rfl := h.symm
       exact RC [.agg #[.I 0, .I 0, .int .u32 0], .agg #[.int .u32 0, .I 0], .I s46] func49 ⟨cN 0 z_agg56, cN 1 z_agg58, rfl, trivial⟩ (((((((hl8.trans hl26).trans hl30).trans hl31).trans hl35).trans hl39).trans hl45).trans hl46) ⟨rfl, rfl⟩
      ·refine Z 2 ?_
       refine st_ord [1, 1, 1, 0] _ rfl ?_
       refine st_d41 [[(b2, .cells #[.int .u32 0, .I 0] 58 (0, 0))], [(b44, .cells #[.I s31.2.1, .I s31.2.2.1, .int .u32 r32.1] 56 (0, 0))], [(b43, .cells #[.int .u32 r36.1, .I s31.t4.2] 58 (0, 0))]] [[(b1, .cells #[.I 0, .I 0, .int .u32 0] 56 (0, 0))]] 3 1 [none, none, some (0, 0)] [none, none, none] [[none, none]] [.v (.agg #[.I s31.2.1, .I s31.2.2.1, .int .u32 r32.1]), .v (.agg #[.int .u32 r36.1, .I s31.t4.2]), .t fun _ _ => True] [[fun τ u F => F = [[(b1, .cells #[.I 0, .I 0, .int .u32 0] 56 (0, 0))]], fun τ u F => F = [[(b1, .cells #[.I s31.2.1, .I s31.2.2.1, .int .u32 r32.1] 56 (0, 0))]]]] rfl z_mix rfl ⟨fun _ _ _ _ _ => trivial, trivial⟩ ⟨⟨fun _ _ _ _ hl h => h, ⟨fun _ _ _ _ hl h => h, trivial⟩⟩, trivial⟩ rfl rfl ?_ (allB_cons (allB_cons (allB_cons allB_nil ?_) ?_) ?_) ?_
       ·exact rfl
       ·intro ρ' τ pq rs hl hd hq hw hk
        refine o_loadN (j := 1) (vs := [.I s31.2.1, .I s31.2.2.1, .int .u32 r32.1]) rfl rfl rfl z_agg56 (oT hq 15) rfl rfl ?_
        exact hk _ _ LR rfl
       ·intro ρ' τ pq rs hl hd hq hw hk
        refine o_loadN (j := 2) (vs := [.int .u32 r36.1, .I s31.t4.2]) rfl rfl rfl z_agg58 (oT hq 16) rfl rfl ?_
        exact hk _ _ LR rfl
       ·intro ρ' τ u Fv pq rs hl hI hu hd hq hw hk
        obtain ⟨_, e0, rfl⟩ := hd 0 rfl _ rfl
        have hI0 := hI
        obtain rfl := hI
        refine o_store (j := 3) (vs := [.I s31.2.1, .I s31.2.2.1, .int .u32 r32.1]) (cs' := [.I s31.2.1, .I s31.2.2.1, .int .u32 r32.1]) rfl rfl rfl z_size56 (oT hq 2) e0 rfl (ones_cons rfl (ones_cons rfl (ones_cons rfl ones_nil))) rfl rfl rfl ?_
        exact hk _ _ [[(b1, .cells #[.I s31.2.1, .I s31.2.2.1, .int .u32 r32.1] 56 (0, 0))]] LR trivial (by exact rfl)
       intro ρ' τ47 vals u Fv hl47 hI hu hv hq
       obtain rfl := hI
       refine st_env (ρ' := [(97, .agg #[.int .u32 r36.1, .I s31.t4.2]), (2, .Pb b1), (3, .Pb b2), (4, .I 0)]) ⟨(lv4 hv 1 rfl rfl rfl), oT hq 2, oT hq 3, oT hq 4, trivial⟩ (ZZ 3 [0] ?_)
       obtain rfl := h.symm
       exact RC [.agg #[.I s31.2.1, .I s31.2.2.1, .int .u32 r32.1], .agg #[.int .u32 r36.1, .I s31.t4.2], .I 0] func49 ⟨cN 3 z_agg56, cN 0 z_agg58, rfl, trivial⟩ ((((((((hl8.trans hl26).trans hl30).trans hl31).trans hl35).trans hl39).trans hl45).trans hl46).trans hl47) ⟨rfl, rfl⟩
     refine Z 7 ?_
     refine I2 h (fun h => ?_) (fun h => ?_)
     ·refine Z 2 ?_
      refine st_ord [0, 0, 1, 1] _ rfl ?_
      exact hk46 _ _ _ ⟨s31.1, h, LR, rfl, rfl⟩
     ·refine st_seq ?_
      refine cutS τ45 (fun (s48 : Bool) => conf_Parse_j5 s31 r32 r36 s48 r) (fun s48 => [(2, .Pb b1), (3, .Pb b2), (4, .I 0), (15, .Pb b44), (16, .Pb b43), (84, .bool s48)]) (fun s48 => [[(b1, .cells #[.I 0, .I 0, .int .u32 0] 56 (0, 0))], [(b2, .cells #[.int .u32 0, .I 0] 58 (0, 0))], [(b44, .cells #[.I s31.2.1, .I s31.2.2.1, .int .u32 r32.1] 56 (0, 0))], [(b43, .cells #[.int .u32 r36.1, .I s31.t4.2] 58 (0, 0))]]) (fun s48 τ48 h hl48 => ?_) (fun hk48 => ?_)
      ·refine I2 h (fun h => ?_) (fun h => ?_)
       ·refine Z 4 ?_
        exact hk46 _ _ _ ⟨5, h, hl48, rfl, rfl⟩
       ·refine ZZ 3 [2] ?_
        obtain ⟨r49, hr50, h⟩ := h
        refine SC z_en55 (conf_CheckSender_ok hr50 τ48) ?_
        rintro _ τ51 _ hl52 ⟨rfl, rfl⟩
        refine Z 7 ?_
        refine I2 h (fun h => ?_) (fun h => ?_)
        ·refine ZZ 2 [3] ?_
         obtain ⟨r53, hr54, h⟩ := h
         refine SC z_en56 (conf_CheckReceiver_ok hr54 τ51) ?_
         rintro _ τ55 _ hl56 ⟨rfl, rfl⟩
         refine Z 3 ?_
         exact hk46 _ _ _ ⟨r53, h, ((hl48.trans hl52).trans hl56), rfl, rfl⟩
        ·refine Z 2 ?_
         exact hk46 _ _ _ ⟨r49, h, (hl48.trans hl52), rfl, rfl⟩
      refine Z 3 ?_
      refine M2 h (fun h => ?_) (fun h => ?_)
      ·refine Z 5 ?_
       refine st_ord [0, 0, 1, 1] _ rfl ?_
       exact hk48 _ _ _ ⟨true, h, LR, rfl, rfl⟩
      ·refine Z 5 ?_
       refine st_ord [0, 0, 1, 1] _ rfl ?_
       exact hk48 _ _ _ ⟨(!r36.2), h, LR, rfl, rfl⟩
    refine Z 4 ?_
    obtain ⟨e57, hL57, hA57⟩ := h
    refine st_loop hL57 (fun (s57 : Int × Int × Int × Int × Int × Int × Int) ρ τ57 gs => τ30.Le τ57 ∧ ESub ρ [(2, .Pb b1), (3, .Pb b2), (4, .I 0), (5, .Pb b3), (6, .Pb b4), (9, .I s57.1), (36, .I s57.2.1)] ∧ gs = [[(b1, .cells #[.I 0, .I 0, .int .u32 0] 56 (0, 0))], [(b2, .cells #[.int .u32 0, .I 0] 58 (0, 0))], [(b3, .cells #[.I s57.2.2.1, .I s57.2.2.2.1, .I s57.t4.1, .I s57.t4.2.1, .I s57.t4.2.2] 157 (0, 0))], [(b4, .cells #[v27] 67 (0, 0))], g28]) ⟨LR, rfl, rfl⟩ ?_
    rintro s57 o57 h he57 ρ57 τ57 gs57 ⟨hl57, hρ, rfl⟩ hn57
    refine st_es hρ (Z 5 ?_)
    refine I2 h (fun h => ?_) (fun h => ?_)
    ·refine ZZ 14 [3] ?_
     obtain ⟨q58, hf59, h⟩ := h
     refine o_indexOw rfl rfl rfl z_slT67 rfl rfl (ho29.up (hl30.trans hl57)) rfl hf59 (fun b60 hb61 => ?_)
     obtain ⟨vs62, hrep63, hat64⟩ := Ow.at (ho29.up (hl30.trans hl57)) hb61 hf59
     obtain rfl := hrep63
     refine o_loadOw (off := 0) (j := 4) (v := .string q58) rfl rfl rfl z_sc9 rfl hat64 rfl rfl ?_
     obtain ⟨r65, hr66, h⟩ := h
     refine st_call (foot := []) rfl rfl rfl rfl rfl rfl (callV_fn z_en87 (say_Read_ok hr66 τ57 (hE.up (((hl8.trans hl26).trans hl30).trans hl57)))) ?_
     rintro _ τ67 _ hl68 ⟨rfl, rfl⟩
     refine Z 3 ?_
     obtain ⟨hf69, hf70, h⟩ := h
     refine o_indexA rfl rfl rfl z_arr157 rfl rfl hf69 hf70 ?_
     refine o_storeV (j := 2) (s57.2.1.toNat) (f := (Value.int .i64)) (zz := 0) (a := r65.1) (l := 5) (xs := [s57.2.2.1, s57.2.2.2.1, s57.t4.1, s57.t4.2.1, s57.t4.2.2]) [] [] rfl rfl rfl z_size3 rfl rfl rfl rfl rfl (by simp only [List.length_cons, List.length_nil] <;> omega) (by omega) (Z 7 ?_)
     refine I2 h (fun h => ?_) (fun h => ?_)
     ·refine st_exit rfl ?_
      obtain rfl := he57 _ h
      replace h := hA57
      refine st_ord [0, 0, 0] _ rfl ?_
      exact hk31 _ _ _ ⟨(r65.2, ((putN 5 0 [s57.2.2.1, s57.2.2.2.1, s57.t4.1, s57.t4.2.1, s57.t4.2.2] s57.2.1.toNat r65.1).getD 0 0), ((putN 5 0 [s57.2.2.1, s57.2.2.2.1, s57.t4.1, s57.t4.2.1, s57.t4.2.2] s57.2.1.toNat r65.1).getD 1 0), ((putN 5 0 [s57.2.2.1, s57.2.2.2.1, s57.t4.1, s57.t4.2.1, s57.t4.2.2] s57.2.1.toNat r65.1).getD 2 0), ((putN 5 0 [s57.2.2.1, s57.2.2.2.1, s57.t4.1, s57.t4.2.1, s57.t4.2.2] s57.2.1.toNat r65.1).getD 3 0), ((putN 5 0 [s57.2.2.1, s57.2.2.2.1, s57.t4.1, s57.t4.2.1, s57.t4.2.2] s57.2.1.toNat r65.1).getD 4 0)), h, (hl57.trans hl68), rfl, rfl⟩
     ·refine Z 6 ?_
      exact hn57 _ _ _ _ h ⟨(hl57.trans hl68), rfl, rfl⟩
    ·refine st_exit rfl ?_
     obtain rfl := he57 _ h
     replace h := hA57
     refine st_ord [0, 0, 0] _ rfl ?_
     exact hk31 _ _ _ ⟨(s57.1, s57.2.2.1, s57.2.2.2.1, s57.t4.1, s57.t4.2.1, s57.t4.2.2), h, hl57, rfl, rfl⟩
  refine ZZ 2 [3] ?_
  refine o_lenO rfl rfl rfl z_slT67 rfl ho29 ?_
  refine o_ibin (v := .bool (!(decide ((p24.length : Int) = 6)))) rfl rfl rfl rfl rfl rfl ?_
  refine M2 h (fun h => ?_) (fun h => ?_)
  ·refine Z 6 ?_
   exact hk30 _ _ _ ⟨true, h, LR, rfl, rfl⟩
  ·refine ZZ 1 [3] ?_
   obtain ⟨q72, hf73, h⟩ := h
   refine o_indexOw rfl rfl rfl z_slT67 rfl rfl ho29 rfl hf73 (fun b74 hb75 => ?_)
   obtain ⟨vs76, hrep77, hat78⟩ := Ow.at ho29 hb75 hf73
   obtain rfl := hrep77
   refine o_loadOw (off := 0) (j := 4) (v := .string q72) rfl rfl rfl z_sc9 rfl hat78 rfl rfl ?_
   refine o_sbin (v := .bool (!(decide (q72 = (bstr [108, 105, 110, 107]))))) rfl rfl rfl rfl (ev_str z_str41) rfl (Z 2 ?_)
   exact hk30 _ _ _ ⟨(!(decide (q72 = (bstr [108, 105, 110, 107])))), h, LR, rfl, rfl⟩
 ·exact fun _ _ _ _ _ _ _ h => h.elim
theorem strings_HasSuffix_ok {a0 a1 : ByteArray} {r : Bool} (h : strings_HasSuffix a0 a1 r) (σ : Sto)  :
    Does prog 50 [.string a0, .string a1] σ [] (fun v τ gs => gs = [] ∧ .bool r = v) := by
 refine CO func50 ntmps50 rfl (fun cs fs => Z 8 ?_)
 obtain ⟨r1, hr2, h⟩ := h
 refine SC z_en89 (internal_stringslite_HasSuffix_ok hr2 σ) ?_
 rintro _ τ3 _ hl4 ⟨rfl, rfl⟩
 refine Z 2 ?_
 obtain rfl := h.symm
 exact RT func50 rfl hl4 ⟨rfl, rfl⟩
theorem script_Read_ok {a0 : ByteArray} {r : (Int × Int × Int) × (Int × Int) × (List (TyS)) × Int × Int} (h : script_Read a0 r) (σ : Sto) (hT : Tab prog σ) (hE : Errs prog σ) :
    Does prog 18 [.string a0] σ [] (fun v τ gs => ∃ (v78 : Value), gs = [] ∧ .tuple [.agg [.I r.1.1, .I r.1.2.1, .int .u32 r.1.2.2].toArray, .agg [.int .u32 r.2.1.1, .I r.2.1.2].toArray, v78, .I r.2.2.2.1, .I r.t4].toArray = v ∧ Sl (kP (kI .i64) (kP (kP (kI .i64) (kP (kA .i64 6) (kP (kSl (kP (kI .i64) (kI .i64))) (kP (kSl (kI .i64)) (kP kS kS))))) (kP (kP (kI .i64) (kP (kI .i64) (kP (kI .i64) (kP (kI .i64) (kSl (kI .u8)))))) (kSl (kI .i64))))) τ v78 r.2.2.1) := by
 refine CO func18 ntmps18 rfl (fun cs fs => Z 2 ?_)
 refine o_alloc rfl rfl rfl z_zero56 (fun b1 => ?_)
 refine o_alloc rfl rfl rfl z_zero58 (fun b2 => Z 7 ?_)
 refine o_alloc rfl rfl rfl z_zero56 (fun b3 => Z 3 ?_)
 refine o_alloc rfl rfl rfl z_zero58 (fun b4 => Z 3 ?_)
 refine o_alloc rfl rfl rfl z_zero59 (fun b5 => Z 3 ?_)
 refine o_alloc rfl rfl rfl z_zero3 (fun b6 => ?_)
 refine o_alloc rfl rfl rfl z_zero32 (fun b7 => ZZ 6 [1, 0] ?_)
 refine st_cut (fun ρ τ8 gs => ∃ (s8 : K4) (v9 : Value) (g10 : Grp), script_Read_j1 a0 s8 r ∧ σ.Le τ8 ∧ ESub ρ [(0, .string a0), (2, .Pb b1), (3, .Pb b2), (4, .N0), (5, .I 0), (6, .I 0), (7, .Pb b3), (8, .Pb b4), (9, .Pb b5), (10, .Pb b6), (11, .Pb b7)] ∧ gs = [[(b1, .cells #[.I 0, .I 0, .int .u32 0] 56 (0, 0))], [(b2, .cells #[.int .u32 0, .I 0] 58 (0, 0))], [(b3, .cells #[.I s8.1, .I s8.2.1, .int .u32 s8.2.2.1] 56 (0, 0))], [(b4, .cells #[.int .u32 s8.2.2.2.1, .I s8.t4.1] 58 (0, 0))], [(b5, .cells #[v9] 59 (0, 0))], [(b6, .cells #[.I s8.t4.2.2.1] 3 (0, 0))], [(b7, .cells #[.I s8.t4.2.2.2] 32 (0, 0))], g10] ∧ Ow (kP (kI .i64) (kP (kP (kI .i64) (kP (kA .i64 6) (kP (kSl (kP (kI .i64) (kI .i64))) (kP (kSl (kI .i64)) (kP kS kS))))) (kP (kP (kI .i64) (kP (kI .i64) (kP (kI .i64) (kP (kI .i64) (kSl (kI .u8)))))) (kSl (kI .i64))))) 31 τ8 v9 s8.t4.2.1 g10) ?_ (fun hk8 => ?_)
 ·rintro ρ8 τ8 gs8 ⟨s8, v9, g10, h, hl8, hρ, rfl, ho11⟩
  refine st_es hρ ?_
  refine st_seq ?_
  refine cutS τ8 (fun (s12 : Int) => script_Read_j2 s8 s12 r) (fun s12 => [(2, .Pb b1), (3, .Pb b2), (4, .N0), (5, .I 0), (6, .I 0), (7, .Pb b3), (8, .Pb b4), (9, .Pb b5), (10, .Pb b6), (11, .Pb b7)]) (fun s12 => [[(b1, .cells #[.I 0, .I 0, .int .u32 0] 56 (0, 0))], [(b2, .cells #[.int .u32 0, .I 0] 58 (0, 0))], [(b3, .cells #[.I s8.1, .I s8.2.1, .int .u32 s8.2.2.1] 56 (0, 0))], [(b4, .cells #[.int .u32 s8.2.2.2.1, .I s8.t4.1] 58 (0, 0))], [(b5, .cells #[v9] 59 (0, 0))], [(b6, .cells #[.I s8.t4.2.2.1] 3 (0, 0))], [(b7, .cells #[.I s12] 32 (0, 0))], g10]) (fun s12 τ12 h hl12 => (ZZ 6 [6] ?_)) (fun hk12 => ?_)
  ·refine I2 h (fun h => ?_) (fun h => ?_)
   ·refine st_seq ?_
    refine st_d40 8 [.v (.agg #[.I 0, .I 0, .int .u32 0]), .v (.agg #[.int .u32 0, .I 0]), .v (.I s8.t4.2.2.1), .v (.I s12), .t fun _ _ => True, .t fun _ _ => True, .v (.N0), .v (.I s8.t4.2.2.1)] z_mix rfl ⟨fun _ _ _ _ _ => trivial, ⟨fun _ _ _ _ _ => trivial, trivial⟩⟩ (allB_cons (allB_cons (allB_cons (allB_cons (allB_cons (allB_cons (allB_cons (allB_cons allB_nil ?_) ?_) ?_) ?_) ?_) ?_) (p4 dA)) (p4 dA)) ?_
    ·intro ρ' τ pq rs hl hd hq hw hk
     refine ZZ 1 [] ?_
     exact hk _ _ LR rfl
    ·intro ρ' τ pq rs hl hd hq hw hk
     refine ZZ 1 [] ?_
     exact hk _ _ LR rfl
    ·intro ρ' τ pq rs hl hd hq hw hk
     refine o_load (j := 5) (v := .I s8.t4.2.2.1) rfl rfl rfl z_sc3 (oT hq 10) rfl rfl ?_
     exact hk _ _ LR rfl
    ·intro ρ' τ pq rs hl hd hq hw hk
     refine o_load (j := 6) (v := .I s12) rfl rfl rfl z_sc32 (oT hq 11) rfl rfl ?_
     exact hk _ _ LR rfl
    ·intro ρ' τ pq rs hl hd hq hw hk
     obtain ⟨_, e0, rfl⟩ := hd 0 rfl _ rfl
     refine o_store (j := 0) (vs := [.I 0, .I 0, .int .u32 0]) (cs' := [.I 0, .I 0, .int .u32 0]) rfl rfl rfl z_size56 (oT hq 2) e0 rfl (ones_cons rfl (ones_cons rfl (ones_cons rfl ones_nil))) rfl rfl rfl ?_
     exact hk _ _ LR trivial
    ·intro ρ' τ pq rs hl hd hq hw hk
     obtain ⟨_, e1, rfl⟩ := hd 1 rfl _ rfl
     refine o_store (j := 1) (vs := [.int .u32 0, .I 0]) (cs' := [.int .u32 0, .I 0]) rfl rfl rfl z_size58 (oT hq 3) e1 rfl (ones_cons rfl (ones_cons rfl ones_nil)) rfl rfl rfl ?_
     exact hk _ _ LR trivial
    intro ρ' τ13 vals hl13 hv hq
    refine st_env (ρ' := [(58, .I s12), (4, .N0), (5, .I s8.t4.2.2.1), (2, .Pb b1), (3, .Pb b2), (6, .I 0), (7, .Pb b3), (8, .Pb b4), (9, .Pb b5)]) ⟨(lv4 hv 3 rfl rfl rfl), (lv4 hv 6 rfl rfl rfl), (lv4 hv 7 rfl rfl rfl), oT hq 2, oT hq 3, oT hq 6, oT hq 7, oT hq 8, oT hq 9, trivial⟩ (Z 2 ?_)
    obtain rfl := h.symm
    exact RC [.agg #[.I 0, .I 0, .int .u32 0], .agg #[.int .u32 0, .I 0], .N0, .I s8.t4.2.2.1, .I s12] func18 ⟨cN 0 z_agg56, cN 1 z_agg58, rfl, rfl, rfl, trivial⟩ ((hl8.trans hl12).trans hl13) ⟨_, rfl, rfl, Sl.nil⟩
   ·refine Z 2 ?_
    refine st_ord [2, 2, 2, 2, 2, 2, 0, 0] _ rfl ?_
    refine st_d42 [[(b3, .cells #[.I s8.1, .I s8.2.1, .int .u32 s8.2.2.1] 56 (0, 0))], [(b4, .cells #[.int .u32 s8.2.2.2.1, .I s8.t4.1] 58 (0, 0))], [(b5, .cells #[v9] 59 (0, 0))], [(b6, .cells #[.I s8.t4.2.2.1] 3 (0, 0))], [(b7, .cells #[.I s12] 32 (0, 0))], g10] [[(b1, .cells #[.I 0, .I 0, .int .u32 0] 56 (0, 0))]] [[(b2, .cells #[.int .u32 0, .I 0] 58 (0, 0))]] 5 1 1 [none, none, none, some (0, 0), some (1, 0)] [none, none, none, none, none] [[none, none], [none, none]] [.v (.agg #[.I s8.1, .I s8.2.1, .int .u32 s8.2.2.1]), .v (.agg #[.int .u32 s8.2.2.2.1, .I s8.t4.1]), .v (v9), .t fun _ _ => True, .t fun _ _ => True] [[fun τ u F => F = [[(b1, .cells #[.I 0, .I 0, .int .u32 0] 56 (0, 0))]], fun τ u F => F = [[(b1, .cells #[.I s8.1, .I s8.2.1, .int .u32 s8.2.2.1] 56 (0, 0))]]], [fun τ u F => F = [[(b2, .cells #[.int .u32 0, .I 0] 58 (0, 0))]], fun τ u F => F = [[(b2, .cells #[.int .u32 s8.2.2.2.1, .I s8.t4.1] 58 (0, 0))]]]] rfl z_mix rfl ⟨fun _ _ _ _ _ => trivial, ⟨fun _ _ _ _ _ => trivial, trivial⟩⟩ ⟨⟨fun _ _ _ _ hl h => h, ⟨fun _ _ _ _ hl h => h, trivial⟩⟩, ⟨⟨fun _ _ _ _ hl h => h, ⟨fun _ _ _ _ hl h => h, trivial⟩⟩, trivial⟩⟩ rfl rfl ?_ ?_ (allB_cons (allB_cons (allB_cons (allB_cons (allB_cons allB_nil ?_) ?_) ?_) ?_) ?_) ?_
    ·exact rfl
    ·exact rfl
    ·intro ρ' τ pq rs hl hd hq hw hk
     refine o_loadN (j := 0) (vs := [.I s8.1, .I s8.2.1, .int .u32 s8.2.2.1]) rfl rfl rfl z_agg56 (oT hq 7) rfl rfl ?_
     exact hk _ _ LR rfl
    ·intro ρ' τ pq rs hl hd hq hw hk
     refine o_loadN (j := 1) (vs := [.int .u32 s8.2.2.2.1, .I s8.t4.1]) rfl rfl rfl z_agg58 (oT hq 8) rfl rfl ?_
     exact hk _ _ LR rfl
    ·intro ρ' τ pq rs hl hd hq hw hk
     refine o_load (j := 2) (v := v9) rfl rfl rfl z_sc59 (oT hq 9) rfl rfl ?_
     exact hk _ _ LR rfl
    ·intro ρ' τ u Fv pq rs hl hI hu hd hq hw hk
     obtain ⟨_, e0, rfl⟩ := hd 0 rfl _ rfl
     have hI0 := hI
     obtain rfl := hI
     refine o_store (j := 6) (vs := [.I s8.1, .I s8.2.1, .int .u32 s8.2.2.1]) (cs' := [.I s8.1, .I s8.2.1, .int .u32 s8.2.2.1]) rfl rfl rfl z_size56 (oT hq 2) e0 rfl (ones_cons rfl (ones_cons rfl (ones_cons rfl ones_nil))) rfl rfl rfl ?_
     exact hk _ _ [[(b1, .cells #[.I s8.1, .I s8.2.1, .int .u32 s8.2.2.1] 56 (0, 0))]] LR trivial (by exact rfl)
    ·intro ρ' τ u Fv pq rs hl hI hu hd hq hw hk
     obtain ⟨_, e1, rfl⟩ := hd 1 rfl _ rfl
     have hI0 := hI
     obtain rfl := hI
     refine o_store (j := 6) (vs := [.int .u32 s8.2.2.2.1, .I s8.t4.1]) (cs' := [.int .u32 s8.2.2.2.1, .I s8.t4.1]) rfl rfl rfl z_size58 (oT hq 3) e1 rfl (ones_cons rfl (ones_cons rfl ones_nil)) rfl rfl rfl ?_
     exact hk _ _ [[(b2, .cells #[.int .u32 s8.2.2.2.1, .I s8.t4.1] 58 (0, 0))]] LR trivial (by exact rfl)
    intro ρ' τ14 vals u u1 Fv Fv1 hl14 hI hu hI1 hu1 hv hq
    obtain rfl := hI
    obtain rfl := hI1
    refine st_env (ρ' := [(61, v9), (2, .Pb b1), (3, .Pb b2), (4, .N0), (5, .I 0), (6, .I 0)]) ⟨(lv4 hv 2 rfl rfl rfl), oT hq 2, oT hq 3, oT hq 4, oT hq 5, oT hq 6, trivial⟩ (Z 4 ?_)
    refine st_ord [5, 0, 0, 0, 0, 0, 0, 0] _ rfl ?_
    refine st_freeze (fun τ15 hl16 hg17 => ?_)
    have hs18 := ho11.freeze ((hl12.trans hl14).trans hl16) hg17
    obtain rfl := h.symm
    exact RC [.agg #[.I s8.1, .I s8.2.1, .int .u32 s8.2.2.1], .agg #[.int .u32 s8.2.2.2.1, .I s8.t4.1], v9, .I 0, .I 0] func18 ⟨cN 5 z_agg56, cN 6 z_agg58, rfl, rfl, rfl, trivial⟩ (((hl8.trans hl12).trans hl14).trans hl16) ⟨_, rfl, rfl, hs18⟩
  refine st_seq ?_
  refine cutS τ8 (fun (s21 : Bool) => script_Read_j3 s8 s21 r) (fun s21 => [(2, .Pb b1), (3, .Pb b2), (4, .N0), (5, .I 0), (6, .I 0), (7, .Pb b3), (8, .Pb b4), (9, .Pb b5), (10, .Pb b6), (11, .Pb b7), (52, .bool s21)]) (fun s21 => [[(b1, .cells #[.I 0, .I 0, .int .u32 0] 56 (0, 0))], [(b2, .cells #[.int .u32 0, .I 0] 58 (0, 0))], [(b3, .cells #[.I s8.1, .I s8.2.1, .int .u32 s8.2.2.1] 56 (0, 0))], [(b4, .cells #[.int .u32 s8.2.2.2.1, .I s8.t4.1] 58 (0, 0))], [(b5, .cells #[v9] 59 (0, 0))], [(b6, .cells #[.I s8.t4.2.2.1] 3 (0, 0))], [(b7, .cells #[.I s8.t4.2.2.2] 32 (0, 0))], g10]) (fun s21 τ21 h hl21 => ?_) (fun hk21 => ?_)
  ·refine I2 h (fun h => ?_) (fun h => ?_)
   ·refine ZZ 3 [6] ?_
    exact hk12 _ _ _ ⟨4, h, hl21, rfl, rfl⟩
   ·refine st_skip ?_
    exact hk12 _ _ _ ⟨s8.t4.2.2.2, h, hl21, rfl, rfl⟩
  refine ZZ 3 [6] ?_
  refine M2 h (fun h => ?_) (fun h => ?_)
  ·refine ZZ 2 [5] ?_
   refine M2 h (fun h => ?_) (fun h => ?_)
   ·refine Z 6 ?_
    exact hk21 _ _ _ ⟨true, h, LR, rfl, rfl⟩
   ·refine o_move rfl rfl rfl rfl ?_
    obtain ⟨r22, hr23, h⟩ := h
    refine st_call (foot := []) rfl rfl rfl rfl (evs_cons rfl (evs_cons (ev_str z_str42) rfl)) rfl (callV_fn z_en50 (strings_HasSuffix_ok hr23 τ8)) ?_
    rintro _ τ24 _ hl25 ⟨rfl, rfl⟩
    refine Z 4 ?_
    exact hk21 _ _ _ ⟨(!r22), h, hl25, rfl, rfl⟩
  ·refine Z 9 ?_
   exact hk21 _ _ _ ⟨false, h, LR, rfl, rfl⟩
 refine Z 3 ?_
 obtain ⟨r26, hr27, h⟩ := h
 refine SC z_en21 (script_Lines_ok hr27 σ) ?_
 rintro _ τ28 _ hl29 ⟨f30, q31, rfl, rfl, hit32⟩
 refine Z 2 ?_
 obtain ⟨t33, w33, hR33, hA33⟩ := h
 refine st_env (ρ' := [(0, .string a0), (2, .Pb b1), (3, .Pb b2), (4, .N0), (5, .I 0), (6, .I 0), (7, .Pb b3), (8, .Pb b4), (9, .Pb b5), (10, .Pb b6), (11, .Pb b7), (16, .func (.func f30) #[] q31)]) ⟨rfl, rfl, rfl, rfl, rfl, rfl, rfl, rfl, rfl, rfl, rfl, rfl, trivial⟩ ?_
 refine st_addNil ?_
 refine st_ord [7, 6, 5, 4, 3, 2, 1, 0] _ rfl ?_
 refine st_addNil ?_
 refine st_range (B := script_Read_l4) (s0 := (0, 0, 0, 0, 0, [], 0, 0)) ranges_fctx rfl hit32 LR hR33 rfl (fun _ _ _ h => by cases h; rfl) (fun (s33 : K4) τ33 gs => τ28.Le τ33 ∧ ∃ (v34 : Value) (g35 : Grp), gs = [[(b1, .cells #[.I 0, .I 0, .int .u32 0] 56 (0, 0))], [(b2, .cells #[.int .u32 0, .I 0] 58 (0, 0))], [(b3, .cells #[.I s33.1, .I s33.2.1, .int .u32 s33.2.2.1] 56 (0, 0))], [(b4, .cells #[.int .u32 s33.2.2.2.1, .I s33.t4.1] 58 (0, 0))], [(b5, .cells #[v34] 59 (0, 0))], [(b6, .cells #[.I s33.t4.2.2.1] 3 (0, 0))], [(b7, .cells #[.I s33.t4.2.2.2] 32 (0, 0))], g35] ∧ Ow (kP (kI .i64) (kP (kP (kI .i64) (kP (kA .i64 6) (kP (kSl (kP (kI .i64) (kI .i64))) (kP (kSl (kI .i64)) (kP kS kS))))) (kP (kP (kI .i64) (kP (kI .i64) (kP (kI .i64) (kP (kI .i64) (kSl (kI .u8)))))) (kSl (kI .i64))))) 31 τ33 v34 s33.t4.2.1 g35) (fun (p66 : K4) cd τ67 gs => cd = .exit 0 ∧ τ28.Le τ67 ∧ ∃ (v69 : Value) (g70 : Grp), gs = [[(b1, .cells #[.I 0, .I 0, .int .u32 0] 56 (0, 0))], [(b2, .cells #[.int .u32 0, .I 0] 58 (0, 0))], [(b3, .cells #[.I p66.1, .I p66.2.1, .int .u32 p66.2.2.1] 56 (0, 0))], [(b4, .cells #[.int .u32 p66.2.2.2.1, .I p66.t4.1] 58 (0, 0))], [(b5, .cells #[v69] 59 (0, 0))], [(b6, .cells #[.I p66.t4.2.2.1] 3 (0, 0))], [(b7, .cells #[.I p66.t4.2.2.2] 32 (0, 0))], g70] ∧ Ow (kP (kI .i64) (kP (kP (kI .i64) (kP (kA .i64 6) (kP (kSl (kP (kI .i64) (kI .i64))) (kP (kSl (kI .i64)) (kP kS kS))))) (kP (kP (kI .i64) (kP (kI .i64) (kP (kI .i64) (kP (kI .i64) (kSl (kI .u8)))))) (kSl (kI .i64))))) 31 τ67 v69 p66.t4.2.1 g70) (fun _ _ _ _ hl ⟨hb, v34, g35, hg, ho36⟩ => ⟨hb.trans hl, v34, g35, hg, ho36.up hl⟩) (fun _ _ _ _ _ hl ⟨hc, hb, v69, g70, hg, ho71⟩ => ⟨hc, hb.trans hl, v69, g70, hg, ho71.up hl⟩) ⟨LR, _, _, rfl, Ow.nil⟩ ?_ ?_ ?_
 ·rintro x33 s33 o33 τ33 gs33 vx33 hl33 h rfl ⟨hb33, v34, g35, rfl, ho36⟩ l33 rc33 caller33 cs33 fs33
  refine Z 7 ?_
  refine st_begin (Z 3 ?_)
  refine o_alloc rfl rfl rfl z_zero31 (fun b37 => Z 2 ?_)
  refine st_cut (fun ρ τ38 gs => ∃ (s38 : Int × Int × Int × Int × Int × (List (TyS)) × Int) (v39 : Value) (g40 : Grp), script_Read_j5 x33 s33 s38 o33 ∧ τ33.Le τ38 ∧ ESub ρ [(0, .string a0), (2, .Pb b1), (3, .Pb b2), (4, .N0), (5, .I 0), (6, .I 0), (7, .Pb b3), (8, .Pb b4), (9, .Pb b5), (10, .Pb b6), (11, .Pb b7), (17, .I x33.1), (18, .string x33.2), (12, .I x33.1), (13, .string x33.2)] ∧ gs = [[(b1, .cells #[.I 0, .I 0, .int .u32 0] 56 (0, 0))], [(b2, .cells #[.int .u32 0, .I 0] 58 (0, 0))], [(b3, .cells #[.I s38.1, .I s38.2.1, .int .u32 s38.2.2.1] 56 (0, 0))], [(b4, .cells #[.int .u32 s38.2.2.2.1, .I s38.t4.1] 58 (0, 0))], [(b5, .cells #[v39] 59 (0, 0))], [(b6, .cells #[.I s33.t4.2.2.1] 3 (0, 0))], [(b7, .cells #[.I s38.t4.2.2] 32 (0, 0))], g40] ∧ Ow (kP (kI .i64) (kP (kP (kI .i64) (kP (kA .i64 6) (kP (kSl (kP (kI .i64) (kI .i64))) (kP (kSl (kI .i64)) (kP kS kS))))) (kP (kP (kI .i64) (kP (kI .i64) (kP (kI .i64) (kP (kI .i64) (kSl (kI .u8)))))) (kSl (kI .i64))))) 31 τ38 v39 s38.t4.2.1 g40) ?_ (fun hk38 => ?_)
  ·rintro ρ38 τ38 gs38 ⟨s38, v39, g40, h, hl38, hρ, rfl, ho41⟩
   refine st_es hρ (ZZ 6 [6] ?_)
   refine I2 h (fun h => ?_) (fun h => ?_)
   ·exact st_rexit rfl (List.Sublist.refl _) hl38 ⟨_, h, rfl, (hl33.trans hl38), _, _, rfl, ho41⟩
   ·refine ZZ 7 [5] ?_
    exact st_rend (List.Sublist.refl _) hl38 ⟨_, h, (hl33.trans hl38), _, _, rfl, ho41⟩
  refine Z 5 ?_
  refine I2 h (fun h => ?_) (fun h => ?_)
  ·refine Z 2 ?_
   obtain ⟨r42, hr43, h⟩ := h
   refine SC z_en49 (conf_Parse_ok hr43 τ33 (hE.up (hl29.trans hl33))) ?_
   rintro _ τ44 _ hl45 ⟨rfl, rfl⟩
   refine ZZ 8 [3, 4, 7] ?_
   refine st_ord [1, 1, 1, 1, 1, 1, 1, 1] _ rfl ?_
   exact hk38 _ _ _ ⟨(r42.1.1, r42.1.2.1, r42.1.2.2, r42.2.1.1, r42.2.1.2, s33.t4.2.1, r42.2.2), _, _, h, hl45, rfl, rfl, (ho36.up hl45)⟩
  ·refine Z 3 ?_
   obtain ⟨r46, hr47, h⟩ := h
   refine SC z_en7 (script_Parse_ok hr47 τ33 (hT.up (hl29.trans hl33)) (hE.up (hl29.trans hl33))) ?_
   rintro _ τ48 _ hl49 ⟨v50, v51, v52, v53, rfl, rfl, hs54, hs55, hs56, hs57⟩
   refine Z 3 ?_
   refine o_store (j := 0) (vs := (lS r46.1 v50 v51 v52 v53)) (cs' := (lS r46.1 v50 v51 v52 v53)) rfl rfl rfl z_size31 rfl rfl rfl (o4 (o4 (ones_cons hs54.one' (ones_cons hs55.one' (o4 (ones_cons rfl (ones_cons rfl (ones_cons hs56.one' (ones_cons hs57.one' ones_nil))))))))) rfl rfl rfl (ZZ 7 [7, 7] ?_)
   refine I2 h (fun h => ?_) (fun h => ?_)
   ·refine ZZ 3 [5, 0] ?_
    refine o_lit (dk := (kP (kI .i64) (kP (kP (kI .i64) (kP (kA .i64 6) (kP (kSl (kP (kI .i64) (kI .i64))) (kP (kSl (kI .i64)) (kP kS kS))))) (kP (kP (kI .i64) (kP (kI .i64) (kP (kI .i64) (kP (kI .i64) (kSl (kI .u8)))))) (kSl (kI .i64)))))) (xs := [r46.1]) (ps := [(0, (lS r46.1 v50 v51 v52 v53))]) (cs := (lS r46.1 v50 v51 v52 v53)) rfl rfl rfl z_slT59 z_zero31 ⟨rfl, ⟨_, rfl, rfl⟩, trivial⟩ rfl rfl rfl rfl (Kd.Many.cons (d := (kP (kI .i64) (kP (kP (kI .i64) (kP (kA .i64 6) (kP (kSl (kP (kI .i64) (kI .i64))) (kP (kSl (kI .i64)) (kP kS kS))))) (kP (kP (kI .i64) (kP (kI .i64) (kP (kI .i64) (kP (kI .i64) (kSl (kI .u8)))))) (kSl (kI .i64)))))) (x := r46.1) (a := (lS r46.1 v50 v51 v52 v53)) ⟨[.I r46.1.1], _, rfl, rfl, ⟨(lM r46.1.2.1 v50 v51), _, rfl, ⟨[.I r46.1.2.1.1], _, rfl, rfl, ⟨[.I (r46.1.2.1.2.1.getD 0 0), .I (r46.1.2.1.2.1.getD 1 0), .I (r46.1.2.1.2.1.getD 2 0), .I (r46.1.2.1.2.1.getD 3 0), .I (r46.1.2.1.2.1.getD 4 0), .I (r46.1.2.1.2.1.getD 5 0)], _, rfl, rfl, ⟨[v50], _, rfl, ⟨_, rfl, hs54⟩, ⟨[v51], _, rfl, ⟨_, rfl, hs55⟩, ⟨[.string r46.1.2.1.t4.1], _, rfl, rfl, rfl⟩⟩⟩⟩⟩, ⟨(lI r46.1.2.2.1 v52), _, rfl, ⟨[.I r46.1.2.2.1.1], _, rfl, rfl, ⟨[.I r46.1.2.2.1.2.1], _, rfl, rfl, ⟨[.I r46.1.2.2.1.2.2.1], _, rfl, rfl, ⟨[.I r46.1.2.2.1.2.2.2.1], _, rfl, rfl, ⟨_, rfl, hs56⟩⟩⟩⟩⟩, ⟨_, rfl, hs57⟩⟩⟩⟩ Kd.Many.nil) (fun v58 g59 ho60 => ?_)
    obtain ⟨hf64, hf65, h⟩ := h
    refine st_ord [9, 0, 0, 0, 0, 0, 0, 0, 0, 0] _ rfl ?_
    refine o_append (dk := (kP (kI .i64) (kP (kP (kI .i64) (kP (kA .i64 6) (kP (kSl (kP (kI .i64) (kI .i64))) (kP (kSl (kI .i64)) (kP kS kS))))) (kP (kP (kI .i64) (kP (kI .i64) (kP (kI .i64) (kP (kI .i64) (kSl (kI .u8)))))) (kSl (kI .i64)))))) (xs := s33.t4.2.1) (ys := [r46.1]) rfl rfl rfl rfl z_slT59 rfl (ho36.up hl49) rfl (Ow.src (j := 1) ho60 rfl) hf64 hf65 (fun v61 g62 ho63 => ?_)
    refine o_store (j := 7) (vs := [v61]) (cs' := [v61]) rfl rfl rfl z_size59 rfl rfl (oneL_ow ho63) (ones_cons ho63.one' ones_nil) rfl rfl rfl ?_
    refine st_end ?_
    refine st_ord [3, 3, 3, 3, 3, 3, 3, 0] _ rfl ?_
    exact hk38 _ _ _ ⟨(s33.1, s33.2.1, s33.2.2.1, s33.2.2.2.1, s33.t4.1, (s33.t4.2.1 ++ [r46.1]), r46.2), _, _, h, hl49, rfl, rfl, ho63⟩
   ·refine st_skip ?_
    refine st_ord [1, 1, 1, 1, 1, 1, 1, 1] _ rfl ?_
    exact hk38 _ _ _ ⟨(s33.1, s33.2.1, s33.2.2.1, s33.2.2.2.1, s33.t4.1, s33.t4.2.1, r46.2), _, _, h, hl49, rfl, rfl, (ho36.up hl49)⟩
 ·rintro p72 τ73 gs33 f33 ht hl74 ⟨hb, v75, g76, rfl, ho77⟩ rfl
  subst ht
  replace h := hA33
  refine st_ord [1, 1, 1, 1, 1, 1, 1, 1] _ rfl ?_
  refine st_inBlock ?_
  exact hk8 _ _ _ ⟨(p72.1, p72.2.1, p72.2.2.1, p72.2.2.2.1, p72.t4.1, p72.t4.2.1, p72.t4.2.2.1, p72.t4.2.2.2), _, _, h, (hl29.trans hl74), rfl, rfl, ho77⟩
 ·rintro p66 cd33 τ67 gs33 f33 ht hl68 ⟨rfl, hb, v69, g70, rfl, ho71⟩ rfl
  subst ht
  replace h := hA33
  refine st_ord [1, 1, 1, 1, 1, 1, 1, 1] _ rfl ?_
  refine st_exit rfl ?_
  exact hk8 _ _ _ ⟨(p66.1, p66.2.1, p66.2.2.1, p66.2.2.2.1, p66.t4.1, p66.t4.2.1, p66.t4.2.2.1, p66.t4.2.2.2), _, _, h, (hl29.trans hl68), rfl, rfl, ho71⟩
theorem ref21_Sender_ok {a0 : Int × Int × Int} {r : Int} (h : ref21_Sender a0 r) (σ : Sto)  :
    Does prog 58 [.agg [.I a0.1, .I a0.2.1, .int .u32 a0.2.2].toArray] σ [] (fun v τ gs => gs = [] ∧ .I r = v) := by
 refine CO func58 ntmps58 rfl (fun cs fs => Z 2 ?_)
 refine o_boxC rfl rfl rfl rfl rfl rfl (fun b1 => Z 4 ?_)
 refine cutS σ (fun (s2 : Bool) => ref21_Sender_j1 a0 s2 r) (fun s2 => [(1, .Pb b1), (2, .I 0), (10, .bool s2)]) (fun s2 => [[(b1, .cells #[.I a0.1, .I a0.2.1, .int .u32 a0.2.2] 62 (0, 0))]]) (fun s2 τ2 h hl2 => ?_) (fun hk2 => ?_)
 ·refine I2 h (fun h => ?_) (fun h => ?_)
  ·refine Z 4 ?_
   obtain rfl := h.symm
   exact RT func58 rfl hl2 ⟨rfl, rfl⟩
  ·refine Z 3 ?_
   refine cutS τ2 (fun (s3 : Bool) => ref21_Sender_j2 s3 r) (fun s3 => [(2, .I 0), (18, .bool s3)]) (fun s3 => []) (fun s3 τ3 h hl3 => ?_) (fun hk3 => ?_)
   ·refine I2 h (fun h => ?_) (fun h => ?_)
    ·refine Z 4 ?_
     obtain rfl := h.symm
     exact RT func58 rfl (hl2.trans hl3) ⟨rfl, rfl⟩
    ·refine Z 5 ?_
     obtain rfl := h.symm
     exact RT func58 rfl (hl2.trans hl3) ⟨rfl, rfl⟩
   refine ZZ 4 [0] ?_
   refine M2 h (fun h => ?_) (fun h => ?_)
   ·refine Z 5 ?_
    refine st_ord [] _ rfl ?_
    exact hk3 _ _ _ ⟨true, h, LR, rfl, rfl⟩
   ·refine ZZ 5 [0] ?_
    refine st_ord [] _ rfl ?_
    exact hk3 _ _ _ ⟨(decide (257 < a0.2.1)), h, LR, rfl, rfl⟩
 refine ZZ 4 [0] ?_
 refine M2 h (fun h => ?_) (fun h => ?_)
 ·refine Z 5 ?_
  exact hk2 _ _ _ ⟨true, h, LR, rfl, rfl⟩
 ·refine ZZ 5 [0] ?_
  exact hk2 _ _ _ ⟨(decide (2 < a0.1)), h, LR, rfl, rfl⟩
theorem ref21_Receiver_ok {a0 : Int × Int} {r : Int} (h : ref21_Receiver a0 r) (σ : Sto)  :
    Does prog 59 [.agg [.int .u32 a0.1, .I a0.2].toArray] σ [] (fun v τ gs => gs = [] ∧ .I r = v) := by
 refine CO func59 ntmps59 rfl (fun cs fs => Z 2 ?_)
 refine o_boxC rfl rfl rfl rfl rfl rfl (fun b1 => Z 4 ?_)
 refine cutS σ (fun (s2 : Bool) => ref21_Receiver_j1 s2 r) (fun s2 => [(2, .I 0), (10, .bool s2)]) (fun s2 => []) (fun s2 τ2 h hl2 => ?_) (fun hk2 => ?_)
 ·refine I2 h (fun h => ?_) (fun h => ?_)
  ·refine Z 4 ?_
   obtain rfl := h.symm
   exact RT func59 rfl hl2 ⟨rfl, rfl⟩
  ·refine Z 5 ?_
   obtain rfl := h.symm
   exact RT func59 rfl hl2 ⟨rfl, rfl⟩
 refine ZZ 4 [0] ?_
 refine M2 h (fun h => ?_) (fun h => ?_)
 ·refine Z 5 ?_
  refine st_ord [] _ rfl ?_
  exact hk2 _ _ _ ⟨true, h, LR, rfl, rfl⟩
 ·refine ZZ 5 [0] ?_
  refine st_ord [] _ rfl ?_
  exact hk2 _ _ _ ⟨(decide (16 < a0.2)), h, LR, rfl, rfl⟩
theorem ref21_Parse_ok {a0 : ByteArray} {r : (Int × Int × Int) × (Int × Int) × Int} (h : ref21_Parse a0 r) (σ : Sto)  :
    Does prog 51 [.string a0] σ [] (fun v τ gs => gs = [] ∧ .tuple [.agg [.I r.1.1, .I r.1.2.1, .int .u32 r.1.2.2].toArray, .agg [.int .u32 r.2.1.1, .I r.2.1.2].toArray, .I r.2.2].toArray = v) := by
 refine CO func51 ntmps51 rfl (fun cs fs => Z 2 ?_)
 refine o_alloc rfl rfl rfl z_zero62 (fun b1 => ?_)
 refine o_alloc rfl rfl rfl z_zero63 (fun b2 => Z 5 ?_)
 obtain ⟨r3, hr4, h⟩ := h
 refine SC z_en20 (ref20_Split_ok hr4 σ) ?_
 rintro _ τ5 _ hl6 ⟨v7, rfl, rfl, hs8⟩
 refine Z 4 ?_
 refine cutS τ5 (fun (s9 : Bool) => ref21_Parse_j1 r3 s9 r) (fun s9 => [(2, .Pb b1), (3, .Pb b2), (4, .I 0), (5, v7), (22, .bool s9)]) (fun s9 => [[(b1, .cells #[.I 0, .I 0, .int .u32 0] 62 (0, 0))], [(b2, .cells #[.int .u32 0, .I 0] 63 (0, 0))]]) (fun s9 τ9 h hl9 => ?_) (fun hk9 => ?_)
 ·refine I2 h (fun h => ?_) (fun h => ?_)
  ·refine ZZ 8 [0, 1] ?_
   obtain rfl := h.symm
   exact RC [.agg #[.I 0, .I 0, .int .u32 0], .agg #[.int .u32 0, .I 0], .I 3] func51 ⟨cN 0 z_agg62, cN 1 z_agg63, rfl, trivial⟩ (hl6.trans hl9) ⟨rfl, rfl⟩
  ·refine Z 3 ?_
   refine o_alloc rfl rfl rfl z_zero157 (fun b10 => Z 2 ?_)
   refine cutS τ9 (fun (s11 : Int × Int × Int × Int × Int) => ref21_Parse_j2 s11 r) (fun s11 => [(2, .Pb b1), (3, .Pb b2), (4, .I 0), (6, .Pb b10)]) (fun s11 => [[(b1, .cells #[.I 0, .I 0, .int .u32 0] 62 (0, 0))], [(b2, .cells #[.int .u32 0, .I 0] 63 (0, 0))], [(b10, .cells #[.I s11.1, .I s11.2.1, .I s11.2.2.1, .I s11.2.2.2.1, .I s11.t4] 157 (0, 0))]]) (fun s11 τ11 h hl11 => (Z 2 ?_)) (fun hk11 => ?_)
   ·refine st_cut (fun ρ τ12 gs => ∃ (s12 : Bool), ref21_Parse_j3 s11 s12 r ∧ τ11.Le τ12 ∧ ESub ρ [(2, .Pb b1), (3, .Pb b2), (4, .I 0), (6, .Pb b10), (63, .bool s12)] ∧ gs = [[(b1, .cells #[.I 0, .I 0, .int .u32 0] 62 (0, 0))], [(b2, .cells #[.int .u32 0, .I 0] 63 (0, 0))], [(b10, .cells #[.I s11.1, .I s11.2.1, .I s11.2.2.1, .I s11.2.2.2.1, .I s11.t4] 157 (0, 0))]]) ?_ (fun hk12 => ?_)
    ·rintro ρ12 τ12 gs12 ⟨s12, h, hl12, hρ, rfl⟩
     refine st_es hρ ?_
     refine I2 h (fun h => ?_) (fun h => ?_)
     ·refine ZZ 8 [0, 1] ?_
      obtain rfl := h.symm
      exact RC [.agg #[.I 0, .I 0, .int .u32 0], .agg #[.int .u32 0, .I 0], .I 5] func51 ⟨cN 0 z_agg62, cN 1 z_agg63, rfl, trivial⟩ (((hl6.trans hl9).trans hl11).trans hl12) ⟨rfl, rfl⟩
     ·refine Z 2 ?_
      refine st_d42 [[(b1, .cells #[.I 0, .I 0, .int .u32 0] 62 (0, 0))], [(b2, .cells #[.int .u32 0, .I 0] 63 (0, 0))], [(b10, .cells #[.I s11.1, .I s11.2.1, .I s11.2.2.1, .I s11.2.2.2.1, .I s11.t4] 157 (0, 0))]] [] [] 17 2 1 [none, none, none, none, none, none, none, none, none, none, none, none, none, none, some (0, 0), some (1, 0), some (0, 1)] [none, none, none, none, none, none, none, none, none, none, none, none, none, none, none, none, none] [[none, some 10, some 10], [none, some 11]] [.v (.Pb b10), .v (.I s11.1), .v (.pointer (some ⟨b10, 1, none⟩)), .v (.I s11.2.1), .v (.pointer (some ⟨b10, 2, none⟩)), .v (.I s11.2.2.1), .v (.int .u32 (u32.wrap s11.2.2.1)), .v (.agg #[.I s11.1, .I s11.2.1, .int .u32 (u32.wrap s11.2.2.1)]), .v (.pointer (some ⟨b10, 3, none⟩)), .v (.I s11.2.2.2.1), .v (.int .u32 (u32.wrap s11.2.2.2.1)), .v (.pointer (some ⟨b10, 4, none⟩)), .v (.I s11.t4), .v (.agg #[.int .u32 (u32.wrap s11.2.2.2.1), .I s11.t4]), .t fun _ _ => True, .t fun _ _ => True, .t fun _ _ => True] [[fun τ u F => F = [], fun τ u F => ∃ (b14 : Nat), F = [[(b14, .cells #[.I 0, .I 0, .int .u32 0] 62 (0, 0))]] ∧ .Pb b14 = u, fun τ u F => ∃ (b17 : Nat), F = [[(b17, .cells #[.I s11.1, .I s11.2.1, .int .u32 (u32.wrap s11.2.2.1)] 62 (0, 0))]] ∧ .Pb b17 = u], [fun τ u F => F = [], fun τ u F => ∃ (b16 : Nat), F = [[(b16, .cells #[.int .u32 0, .I 0] 63 (0, 0))]] ∧ .Pb b16 = u]] rfl z_mix rfl ⟨fun _ _ _ _ _ => trivial, ⟨fun _ _ _ _ _ => trivial, ⟨fun _ _ _ _ _ => trivial, trivial⟩⟩⟩ ⟨⟨fun _ _ _ _ hl h => h, ⟨fun _ _ _ _ hl h => (let ⟨b14, hF, hU⟩ := h; ⟨b14, hF, hU⟩), ⟨fun _ _ _ _ hl h => (let ⟨b17, hF, hU⟩ := h; ⟨b17, hF, hU⟩), trivial⟩⟩⟩, ⟨⟨fun _ _ _ _ hl h => h, ⟨fun _ _ _ _ hl h => (let ⟨b16, hF, hU⟩ := h; ⟨b16, hF, hU⟩), trivial⟩⟩, trivial⟩⟩ rfl rfl ?_ ?_ (allB_cons (allB_cons (allB_cons (allB_cons (allB_cons (allB_cons (allB_cons (allB_cons (allB_cons (allB_cons (allB_cons (allB_cons (allB_cons (allB_cons (allB_cons (allB_cons (allB_cons allB_nil ?_) ?_) ?_) ?_) ?_) ?_) (p4 dA)) ?_) ?_) ?_) (p4 dA)) ?_) ?_) ?_) ?_) ?_) ?_) ?_
      ·exact rfl
      ·exact rfl
      ·intro ρ' τ pq rs hl hd hq hw hk
       refine o_indexA rfl rfl rfl z_arr157 (oT hq 6) rfl (by decide) (by decide) ?_
       exact hk _ _ LR rfl
      ·intro ρ' τ pq rs hl hd hq hw hk
       obtain ⟨_, e0, rfl⟩ := hd 0 rfl _ rfl
       refine o_load (j := 2) (v := .I s11.1) rfl rfl rfl z_sc3 e0 rfl rfl ?_
       exact hk _ _ LR rfl
      ·intro ρ' τ pq rs hl hd hq hw hk
       refine o_indexA rfl rfl rfl z_arr157 (oT hq 6) rfl (by decide) (by decide) ?_
       exact hk _ _ LR rfl
      ·intro ρ' τ pq rs hl hd hq hw hk
       obtain ⟨_, e2, rfl⟩ := hd 2 rfl _ rfl
       refine o_load (j := 2) (v := .I s11.2.1) rfl rfl rfl z_sc3 e2 rfl rfl ?_
       exact hk _ _ LR rfl
      ·intro ρ' τ pq rs hl hd hq hw hk
       refine o_indexA rfl rfl rfl z_arr157 (oT hq 6) rfl (by decide) (by decide) ?_
       exact hk _ _ LR rfl
      ·intro ρ' τ pq rs hl hd hq hw hk
       obtain ⟨_, e4, rfl⟩ := hd 4 rfl _ rfl
       refine o_load (j := 2) (v := .I s11.2.2.1) rfl rfl rfl z_sc3 e4 rfl rfl ?_
       exact hk _ _ LR rfl
      ·intro ρ' τ pq rs hl hd hq hw hk
       obtain ⟨_, e1, rfl⟩ := hd 1 rfl _ rfl
       obtain ⟨_, e3, rfl⟩ := hd 3 rfl _ rfl
       obtain ⟨_, e6, rfl⟩ := hd 6 rfl _ rfl
       refine o_build (ps := [(0, [.I s11.1]), (1, [.I s11.2.1]), (2, [.int .u32 (u32.wrap s11.2.2.1)])]) rfl rfl rfl z_struct62 ⟨rfl, ⟨_, e1, rfl⟩, ⟨rfl, ⟨_, e3, rfl⟩, ⟨rfl, ⟨_, e6, rfl⟩, trivial⟩⟩⟩ rfl ?_
       exact hk _ _ LR rfl
      ·intro ρ' τ pq rs hl hd hq hw hk
       refine o_indexA rfl rfl rfl z_arr157 (oT hq 6) rfl (by decide) (by decide) ?_
       exact hk _ _ LR rfl
      ·intro ρ' τ pq rs hl hd hq hw hk
       obtain ⟨_, e8, rfl⟩ := hd 8 rfl _ rfl
       refine o_load (j := 2) (v := .I s11.2.2.2.1) rfl rfl rfl z_sc3 e8 rfl rfl ?_
       exact hk _ _ LR rfl
      ·intro ρ' τ pq rs hl hd hq hw hk
       refine o_indexA rfl rfl rfl z_arr157 (oT hq 6) rfl (by decide) (by decide) ?_
       exact hk _ _ LR rfl
      ·intro ρ' τ pq rs hl hd hq hw hk
       obtain ⟨_, e11, rfl⟩ := hd 11 rfl _ rfl
       refine o_load (j := 2) (v := .I s11.t4) rfl rfl rfl z_sc3 e11 rfl rfl ?_
       exact hk _ _ LR rfl
      ·intro ρ' τ pq rs hl hd hq hw hk
       obtain ⟨_, e10, rfl⟩ := hd 10 rfl _ rfl
       obtain ⟨_, e12, rfl⟩ := hd 12 rfl _ rfl
       refine o_build (ps := [(0, [.int .u32 (u32.wrap s11.2.2.2.1)]), (1, [.I s11.t4])]) rfl rfl rfl z_struct63 ⟨rfl, ⟨_, e10, rfl⟩, ⟨rfl, ⟨_, e12, rfl⟩, trivial⟩⟩ rfl ?_
       exact hk _ _ LR rfl
      ·intro ρ' τ u Fv pq rs hl hI hu hd hq hw hk
       have hI0 := hI
       obtain rfl := hI
       refine o_alloc rfl rfl rfl z_zero62 (fun b13 => ?_)
       refine st_ord [1, 1, 1, 0, 0] _ rfl ?_
       exact hk _ _ [[(b13, .cells #[.I 0, .I 0, .int .u32 0] 62 (0, 0))]] LR trivial (by exact ⟨b13, rfl, rfl⟩)
      ·intro ρ' τ u Fv pq rs hl hI hu hd hq hw hk
       have hI0 := hI
       obtain rfl := hI
       refine o_alloc rfl rfl rfl z_zero63 (fun b15 => ?_)
       refine st_ord [1, 1, 1, 0, 0] _ rfl ?_
       exact hk _ _ [[(b15, .cells #[.int .u32 0, .I 0] 63 (0, 0))]] LR trivial (by exact ⟨b15, rfl, rfl⟩)
      ·intro ρ' τ u Fv pq rs hl hI hu hd hq hw hk
       obtain ⟨_, e7, rfl⟩ := hd 7 rfl _ rfl
       obtain ⟨b14, rfl, rfl⟩ := hI
       refine o_store (j := 3) (vs := [.I s11.1, .I s11.2.1, .int .u32 (u32.wrap s11.2.2.1)]) (cs' := [.I s11.1, .I s11.2.1, .int .u32 (u32.wrap s11.2.2.1)]) rfl rfl rfl z_size62 (hu (by decide) _ rfl) e7 rfl (ones_cons rfl (ones_cons rfl (ones_cons rfl ones_nil))) rfl rfl rfl ?_
       exact hk _ _ [[(b14, .cells #[.I s11.1, .I s11.2.1, .int .u32 (u32.wrap s11.2.2.1)] 62 (0, 0))]] LR trivial (by exact ⟨b14, rfl, rfl⟩)
      intro ρ' τ18 vals u u1 Fv Fv1 hl18 hI hu hI1 hu1 hv hq
      obtain ⟨b17, rfl, rfl⟩ := hI
      obtain ⟨b16, rfl, rfl⟩ := hI1
      refine st_env (ρ' := [(79, .agg #[.int .u32 (u32.wrap s11.2.2.2.1), .I s11.t4]), (2, .Pb b1), (3, .Pb b2), (4, .I 0), (10, .Pb b17), (11, .Pb b16)]) ⟨(lv4 hv 13 rfl rfl rfl), oT hq 2, oT hq 3, oT hq 4, (by exact hu _ rfl), (by exact hu1 _ rfl), trivial⟩ (ZZ 6 [4, 3] ?_)
      obtain ⟨r19, hr20, h⟩ := h
      refine SC z_en58 (ref21_Sender_ok hr20 τ18) ?_
      rintro _ τ21 _ hl22 ⟨rfl, rfl⟩
      refine Z 2 ?_
      refine I2 h (fun h => ?_) (fun h => ?_)
      ·refine ZZ 5 [3] ?_
       obtain ⟨r23, hr24, h⟩ := h
       refine SC z_en58 (ref21_Sender_ok hr24 τ21) ?_
       rintro _ τ25 _ hl26 ⟨rfl, rfl⟩
       refine ZZ 4 [0, 1] ?_
       obtain rfl := h.symm
       exact RC [.agg #[.I 0, .I 0, .int .u32 0], .agg #[.int .u32 0, .I 0], .I r23] func51 ⟨cN 0 z_agg62, cN 1 z_agg63, rfl, trivial⟩ ((((((hl6.trans hl9).trans hl11).trans hl12).trans hl18).trans hl22).trans hl26) ⟨rfl, rfl⟩
      ·refine ZZ 5 [4] ?_
       obtain ⟨r27, hr28, h⟩ := h
       refine SC z_en59 (ref21_Receiver_ok hr28 τ21) ?_
       rintro _ τ29 _ hl30 ⟨rfl, rfl⟩
       refine Z 2 ?_
       refine I2 h (fun h => ?_) (fun h => ?_)
       ·refine ZZ 5 [4] ?_
        obtain ⟨r31, hr32, h⟩ := h
        refine SC z_en59 (ref21_Receiver_ok hr32 τ29) ?_
        rintro _ τ33 _ hl34 ⟨rfl, rfl⟩
        refine ZZ 4 [0, 1] ?_
        obtain rfl := h.symm
        exact RC [.agg #[.I 0, .I 0, .int .u32 0], .agg #[.int .u32 0, .I 0], .I r31] func51 ⟨cN 0 z_agg62, cN 1 z_agg63, rfl, trivial⟩ (((((((hl6.trans hl9).trans hl11).trans hl12).trans hl18).trans hl22).trans hl30).trans hl34) ⟨rfl, rfl⟩
       ·refine Z 2 ?_
        refine st_ord [1, 1, 1, 1, 0] _ rfl ?_
        refine st_d41 [[(b2, .cells #[.int .u32 0, .I 0] 63 (0, 0))], [(b10, .cells #[.I s11.1, .I s11.2.1, .I s11.2.2.1, .I s11.2.2.2.1, .I s11.t4] 157 (0, 0))], [(b17, .cells #[.I s11.1, .I s11.2.1, .int .u32 (u32.wrap s11.2.2.1)] 62 (0, 0))], [(b16, .cells #[.int .u32 (u32.wrap s11.2.2.2.1), .I s11.t4] 63 (0, 0))]] [[(b1, .cells #[.I 0, .I 0, .int .u32 0] 62 (0, 0))]] 3 1 [none, none, some (0, 0)] [none, none, none] [[none, none]] [.v (.agg #[.I s11.1, .I s11.2.1, .int .u32 (u32.wrap s11.2.2.1)]), .v (.agg #[.int .u32 (u32.wrap s11.2.2.2.1), .I s11.t4]), .t fun _ _ => True] [[fun τ u F => F = [[(b1, .cells #[.I 0, .I 0, .int .u32 0] 62 (0, 0))]], fun τ u F => F = [[(b1, .cells #[.I s11.1, .I s11.2.1, .int .u32 (u32.wrap s11.2.2.1)] 62 (0, 0))]]]] rfl z_mix rfl ⟨fun _ _ _ _ _ => trivial, trivial⟩ ⟨⟨fun _ _ _ _ hl h => h, ⟨fun _ _ _ _ hl h => h, trivial⟩⟩, trivial⟩ rfl rfl ?_ (allB_cons (allB_cons (allB_cons allB_nil ?_) ?_) ?_) ?_
        ·exact rfl
        ·intro ρ' τ pq rs hl hd hq hw hk
         refine o_loadN (j := 2) (vs := [.I s11.1, .I s11.2.1, .int .u32 (u32.wrap s11.2.2.1)]) rfl rfl rfl z_agg62 (oT hq 10) rfl rfl ?_
         exact hk _ _ LR rfl
        ·intro ρ' τ pq rs hl hd hq hw hk
         refine o_loadN (j := 3) (vs := [.int .u32 (u32.wrap s11.2.2.2.1), .I s11.t4]) rfl rfl rfl z_agg63 (oT hq 11) rfl rfl ?_
         exact hk _ _ LR rfl
        ·intro ρ' τ u Fv pq rs hl hI hu hd hq hw hk
         obtain ⟨_, e0, rfl⟩ := hd 0 rfl _ rfl
         have hI0 := hI
         obtain rfl := hI
         refine o_store (j := 4) (vs := [.I s11.1, .I s11.2.1, .int .u32 (u32.wrap s11.2.2.1)]) (cs' := [.I s11.1, .I s11.2.1, .int .u32 (u32.wrap s11.2.2.1)]) rfl rfl rfl z_size62 (oT hq 2) e0 rfl (ones_cons rfl (ones_cons rfl (ones_cons rfl ones_nil))) rfl rfl rfl ?_
         exact hk _ _ [[(b1, .cells #[.I s11.1, .I s11.2.1, .int .u32 (u32.wrap s11.2.2.1)] 62 (0, 0))]] LR trivial (by exact rfl)
        intro ρ' τ35 vals u Fv hl35 hI hu hv hq
        obtain rfl := hI
        refine st_env (ρ' := [(95, .agg #[.int .u32 (u32.wrap s11.2.2.2.1), .I s11.t4]), (2, .Pb b1), (3, .Pb b2), (4, .I 0)]) ⟨(lv4 hv 1 rfl rfl rfl), oT hq 2, oT hq 3, oT hq 4, trivial⟩ (ZZ 3 [0] ?_)
        obtain rfl := h.symm
        exact RC [.agg #[.I s11.1, .I s11.2.1, .int .u32 (u32.wrap s11.2.2.1)], .agg #[.int .u32 (u32.wrap s11.2.2.2.1), .I s11.t4], .I 0] func51 ⟨cN 4 z_agg62, cN 0 z_agg63, rfl, trivial⟩ (((((((hl6.trans hl9).trans hl11).trans hl12).trans hl18).trans hl22).trans hl30).trans hl35) ⟨rfl, rfl⟩
    refine st_region ?_
    refine o_indexA rfl rfl rfl z_arr157 rfl rfl (by decide) (by decide) (ZZ 2 [2] ?_)
    refine M2 h (fun h => ?_) (fun h => ?_)
    ·refine Z 15 ?_
     exact hk12 _ _ _ ⟨true, h, LR, rfl, rfl⟩
    ·refine o_indexA rfl rfl rfl z_arr157 rfl rfl (by decide) (by decide) (ZZ 3 [2] ?_)
     refine M2 h (fun h => ?_) (fun h => ?_)
     ·refine Z 10 ?_
      exact hk12 _ _ _ ⟨true, h, LR, rfl, rfl⟩
     ·refine o_indexA rfl rfl rfl z_arr157 rfl rfl (by decide) (by decide) (ZZ 3 [2] ?_)
      refine M2 h (fun h => ?_) (fun h => ?_)
      ·refine Z 5 ?_
       exact hk12 _ _ _ ⟨true, h, LR, rfl, rfl⟩
      ·refine o_indexA rfl rfl rfl z_arr157 rfl rfl (by decide) (by decide) (ZZ 4 [2] ?_)
       exact hk12 _ _ _ ⟨(decide (4294967295 < s11.2.2.2.1)), h, LR, rfl, rfl⟩
   refine Z 4 ?_
   obtain ⟨e36, hL36, hA36⟩ := h
   refine st_ord [1, 1, 0] _ rfl ?_
   refine st_loop hL36 (fun (s36 : K25) ρ τ36 gs => τ9.Le τ36 ∧ ESub ρ [(2, .Pb b1), (3, .Pb b2), (4, .I 0), (5, v7), (6, .Pb b10), (7, .I s36.1)] ∧ gs = [[(b1, .cells #[.I 0, .I 0, .int .u32 0] 62 (0, 0))], [(b2, .cells #[.int .u32 0, .I 0] 63 (0, 0))], [(b10, .cells #[.I s36.2.1, .I s36.2.2.1, .I s36.2.2.2.1, .I s36.t4.1, .I s36.t4.2] 157 (0, 0))]]) ⟨LR, rfl, rfl⟩ ?_
   rintro s36 o36 h he36 ρ36 τ36 gs36 ⟨hl36, hρ, rfl⟩ hn36
   refine st_es hρ (Z 6 ?_)
   refine I2 h (fun h => ?_) (fun h => ?_)
   ·refine Z 8 ?_
    obtain ⟨q37, hf38, h⟩ := h
    refine o_index rfl rfl rfl z_slT67 rfl rfl (hs8.up (hl9.trans hl36)) rfl hf38 (fun b39 of40 vs hc41 hrep => ?_)
    obtain rfl := hrep
    refine o_loadI (v := .string q37) rfl rfl rfl z_sc9 rfl (hc41 0 _ rfl) ?_
    obtain ⟨r42, hr43, h⟩ := h
    refine SC z_en27 (ref20_Read_ok hr43 τ36) ?_
    rintro _ τ44 _ hl45 ⟨rfl, rfl⟩
    refine Z 12 ?_
    refine I2 h (fun h => ?_) (fun h => ?_)
    ·refine ZZ 9 [0, 1] ?_
     obtain rfl := he36 _ h
     replace h := hA36
     obtain rfl := h.symm
     exact RC [.agg #[.I 0, .I 0, .int .u32 0], .agg #[.int .u32 0, .I 0], .I r42.2] func51 ⟨cN 0 z_agg62, cN 1 z_agg63, rfl, trivial⟩ (((hl6.trans hl9).trans hl36).trans hl45) ⟨rfl, rfl⟩
    ·refine Z 4 ?_
     obtain ⟨hf46, hf47, h⟩ := h
     refine o_indexA rfl rfl rfl z_arr157 rfl rfl hf46 hf47 ?_
     refine o_storeV (j := 2) (s36.1.toNat) (f := (Value.int .i64)) (zz := 0) (a := r42.1) (l := 5) (xs := [s36.2.1, s36.2.2.1, s36.2.2.2.1, s36.t4.1, s36.t4.2]) [] [] rfl rfl rfl z_size3 rfl rfl rfl rfl rfl (by simp only [List.length_cons, List.length_nil] <;> omega) (by omega) (Z 7 ?_)
     exact hn36 _ _ _ _ h ⟨(hl36.trans hl45), rfl, rfl⟩
   ·refine st_exit rfl ?_
    obtain rfl := he36 _ h
    replace h := hA36
    exact hk11 _ _ _ ⟨(s36.2.1, s36.2.2.1, s36.2.2.2.1, s36.t4.1, s36.t4.2), h, hl36, rfl, rfl⟩
 refine Z 2 ?_
 refine o_lenI rfl rfl rfl z_slT67 rfl hs8 ?_
 refine o_ibin (v := .bool (!(decide ((r3.length : Int) = 6)))) rfl rfl rfl rfl rfl rfl ?_
 refine M2 h (fun h => ?_) (fun h => ?_)
 ·refine Z 6 ?_
  refine st_ord [1, 0] _ rfl ?_
  exact hk9 _ _ _ ⟨true, h, LR, rfl, rfl⟩
 ·refine o_move rfl rfl rfl rfl ?_
  obtain ⟨q50, hf51, h⟩ := h
  refine o_index rfl rfl rfl z_slT67 rfl rfl hs8 rfl hf51 (fun b52 of53 vs hc54 hrep => ?_)
  obtain rfl := hrep
  refine o_loadI (v := .string q50) rfl rfl rfl z_sc9 rfl (hc54 0 _ rfl) ?_
  refine o_sbin (v := .bool (!(decide (q50 = (bstr [108, 105, 110, 107]))))) rfl rfl rfl rfl (ev_str z_str41) rfl (Z 2 ?_)
  refine st_ord [1, 0] _ rfl ?_
  exact hk9 _ _ _ ⟨(!(decide (q50 = (bstr [108, 105, 110, 107])))), h, LR, rfl, rfl⟩
end Go.Rel
