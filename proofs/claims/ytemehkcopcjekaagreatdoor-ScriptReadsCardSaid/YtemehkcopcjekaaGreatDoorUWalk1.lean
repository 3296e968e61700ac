import Derived.Test.YtemehkcopcjekaaGreatDoorURel
import Derived.Test.YtemehkcopcjekaaGreatDoorUFacts
import Derived.Test.YtemehkcopcjekaaGreatDoorUWalk0
import Derived.Test.YtemehkcopcjekaaGreatDoorEngO
/-! The walks. -/
set_option linter.unusedVariables false
set_option linter.unusedSimpArgs false
set_option maxRecDepth 4000
set_option maxHeartbeats 4000000
namespace Go.Rel
open Go Go.Eng Go.Proofs Go.Proofs.Tryz
open Go.IntKind (i64 u8 u16 u32 u64)
theorem script_parse_ok {a0 : ByteArray} {r : (TyS) × Int} (h : script_parse a0 r) (σ : Sto) (hT : Tab prog σ) (hE : Errs prog σ) :
    Does prog 25 [.string a0] σ [] (fun v τ gs => ∃ (v91 v92 : Value) (v93 v94 : Value), gs = [] ∧ .tuple [.agg (lS r.1 v91 v92 v93 v94).toArray, .I r.2].toArray = v ∧ Sl (kP (kI .i64) (kI .i64)) τ v91 r.1.2.1.2.2.1 ∧ Sl (kI .i64) τ v92 r.1.2.1.2.2.2.1 ∧ Sl (kI .u8) τ v93 r.1.2.2.1.t4 ∧ Sl (kI .i64) τ v94 r.1.2.2.2) := by
 refine CO func25 ntmps25 rfl (fun cs fs => Z 2 ?_)
 refine o_alloc rfl rfl rfl z_zero31 (fun b1 => Z 4 ?_)
 refine o_alloc rfl rfl rfl z_zero67 (fun b2 => Z 5 ?_)
 obtain ⟨r3, hr4, h⟩ := h
 refine SC z_en61 (say_Words_ok hr4 σ) ?_
 rintro _ τ5 _ hl6 ⟨f7, q8, rfl, rfl, hit9⟩
 refine Z 2 ?_
 obtain ⟨t10, w10, hR10, hA10⟩ := h
 refine st_env (ρ' := [(0, .string a0), (2, .Pb b1), (3, .I 0), (4, .Pb b2), (13, .func (.func f7) #[] q8)]) ⟨rfl, rfl, rfl, rfl, rfl, trivial⟩ ?_
 refine st_addNil ?_
 refine st_ord [2, 1, 0] _ rfl ?_
 refine st_addNil ?_
 refine st_range (B := script_parse_l1) (s0 := []) ranges_fctx rfl hit9 LR hR10 rfl (fun _ _ _ h => by cases h; rfl) (fun (s10 : K0) τ10 gs => τ5.Le τ10 ∧ ∃ (v11 : Value) (g12 : Grp), gs = [[(b1, .cells lZ.toArray 31 (0, 0))], [(b2, .cells #[v11] 67 (0, 0))], g12] ∧ Ow kS 9 τ10 v11 s10 g12) (fun _ _ _ _ => False) (fun _ _ _ _ hl ⟨hb, v11, g12, hg, ho13⟩ => ⟨hb.trans hl, v11, g12, hg, ho13.up hl⟩) (fun _ _ _ _ _ _ h => h.elim) ⟨LR, _, _, rfl, Ow.nil⟩ ?_ ?_ ?_
 ·rintro x10 s10 o10 τ10 gs10 vx10 hl10 h rfl ⟨hb10, v11, g12, rfl, ho13⟩ l10 rc10 caller10 cs10 fs10
  refine Z 3 ?_
  refine st_begin (ZZ 4 [1] ?_)
  refine o_litE eS [x10.2] rfl rfl rfl z_slT67 z_zero9 ⟨rfl, ⟨_, rfl, rfl⟩, trivial⟩ rfl rfl rfl rfl (fun v14 g15 ho16 => ?_)
  obtain ⟨hf20, hf21, h⟩ := h
  refine st_ord [3, 0, 0, 0] _ rfl ?_
  refine o_append (dk := kS) (xs := s10) (ys := [x10.2]) rfl rfl rfl rfl z_slT67 rfl ho13 rfl (Ow.src (j := 1) ho16 rfl) hf20 hf21 (fun v17 g18 ho19 => ?_)
  refine o_store (j := 3) (vs := [v17]) (cs' := [v17]) rfl rfl rfl z_size67 rfl rfl (oneL_ow ho19) (ones_cons ho19.one' ones_nil) rfl rfl rfl (Z 2 ?_)
  refine st_ord [2, 2, 0] _ rfl ?_
  exact st_rend (List.Sublist.refl _) LR ⟨_, h, hl10, _, _, rfl, ho19⟩
 ·rintro p22 τ23 gs10 f10 ht hl24 ⟨hb, v25, g26, rfl, ho27⟩ rfl
  subst ht
  replace h := hA10
  refine st_ord [1, 1, 1] _ rfl (Z 2 ?_)
  refine cutS τ23 (fun (s28 : Int) => script_parse_j2 a0 p22 s28 r) (fun s28 => [(0, .string a0), (2, .Pb b1), (3, .I 0), (4, .Pb b2)]) (fun s28 => [[(b1, .cells #[.I s28, .I 0, .I 0, .I 0, .I 0, .I 0, .I 0, .I 0, .N0, .N0, .E0, .E0, .I 0, .I 0, .I 0, .I 0, .N0, .N0] 31 (0, 0))], [(b2, .cells #[v25] 67 (0, 0))], g26]) (fun s28 τ28 h hl28 => ?_) (fun hk28 => ?_)
  ·refine st_seq ?_
   refine st_cut (fun ρ τ29 gs => ∃ (s29 : K19) (v30 v32 v34 : Value), script_parse_j3 s29 r ∧ τ28.Le τ29 ∧ ESub ρ [(2, .Pb b1), (3, .I s29.1)] ∧ gs = [[(b1, .cells #[.I s29.2.1, .I s29.2.2.1, .I s29.2.2.2.1, .I s29.t4.1, .I s29.t4.2.1, .I s29.t4.2.2.1, .I s29.t4.2.2.2.1, .I s29.t4.t4.1, v30, v32, .string s29.t4.t4.2.2.2.1, .string s29.t4.t4.t4.1, .I s29.t4.t4.t4.2.1, .I s29.t4.t4.t4.2.2.1, .I s29.t4.t4.t4.2.2.2.1, .I s29.t4.t4.t4.t4.1, v34, .N0] 31 (0, 0))]] ∧ Sl (kP (kI .i64) (kI .i64)) τ29 v30 s29.t4.t4.2.1 ∧ Sl (kI .i64) τ29 v32 s29.t4.t4.2.2.1 ∧ Sl (kI .u8) τ29 v34 s29.t4.t4.t4.t4.2) ?_ (fun hk29 => ?_)
   ·rintro ρ29 τ29 gs29 ⟨s29, v30, v32, v34, h, hl29, hρ, rfl, hs31, hs33, hs35⟩
    refine st_es hρ (ZZ 4 [0] ?_)
    refine o_store (j := 0) (vs := [.I s29.2.1, .I s29.2.2.1, .I s29.2.2.2.1, .I s29.t4.1, .I s29.t4.2.1, .I s29.t4.2.2.1, .I s29.t4.2.2.2.1, .I s29.t4.t4.1, v30, v32, .string s29.t4.t4.2.2.2.1, .string s29.t4.t4.t4.1, .I s29.t4.t4.t4.2.1, .I s29.t4.t4.t4.2.2.1, .I s29.t4.t4.t4.2.2.2.1, .I s29.t4.t4.t4.t4.1, v34, .N0]) (cs' := [.I s29.2.1, .I s29.2.2.1, .I s29.2.2.2.1, .I s29.t4.1, .I s29.t4.2.1, .I s29.t4.2.2.1, .I s29.t4.2.2.2.1, .I s29.t4.t4.1, v30, v32, .string s29.t4.t4.2.2.2.1, .string s29.t4.t4.t4.1, .I s29.t4.t4.t4.2.1, .I s29.t4.t4.t4.2.2.1, .I s29.t4.t4.t4.2.2.2.1, .I s29.t4.t4.t4.t4.1, v34, .N0]) rfl rfl rfl z_size31 rfl rfl rfl (o4 (o4 (ones_cons hs31.one' (ones_cons hs33.one' (o4 (ones_cons rfl (ones_cons rfl (ones_cons hs35.one' (ones_cons rfl ones_nil))))))))) rfl rfl rfl (Z 2 ?_)
    obtain rfl := h.symm
    exact RC [.agg #[.I s29.2.1, .I s29.2.2.1, .I s29.2.2.2.1, .I s29.t4.1, .I s29.t4.2.1, .I s29.t4.2.2.1, .I s29.t4.2.2.2.1, .I s29.t4.t4.1, v30, v32, .string s29.t4.t4.2.2.2.1, .string s29.t4.t4.t4.1, .I s29.t4.t4.t4.2.1, .I s29.t4.t4.t4.2.2.1, .I s29.t4.t4.t4.2.2.2.1, .I s29.t4.t4.t4.t4.1, v34, .N0], .I s29.1] func25 ⟨cN 0 z_agg31, rfl, trivial⟩ (((hl6.trans hl24).trans hl28).trans hl29) ⟨_, _, _, _, rfl, rfl, hs31, hs33, hs35, Sl.nil⟩
   refine ZZ 11 [0] ?_
   refine I2 h (fun h => ?_) (fun h => ?_)
   ·refine Z 3 ?_
    obtain ⟨r36, hr37, h⟩ := h
    refine st_call (foot := []) rfl rfl rfl rfl (evs_cons rfl (evs_cons (ev_str z_str0) rfl)) rfl (callV_fn z_en62 (strings_Cut_ok hr37 τ28)) ?_
    rintro _ τ38 _ hl39 ⟨rfl, rfl⟩
    refine Z 10 ?_
    obtain ⟨r40, hr41, h⟩ := h
    refine st_call (foot := []) rfl rfl rfl rfl rfl rfl (callV_fn z_en63 (say_Parse_ok hr41 τ38 (hE.up (((hl6.trans hl24).trans hl28).trans hl39)))) ?_
    rintro _ τ42 _ hl43 ⟨v44, v45, rfl, rfl, hs46, hs47⟩
    refine Z 4 ?_
    refine o_store (j := 0) (vs := (lM r40.1 v44 v45)) (cs' := [.I s28, .I r40.1.1, .I (r40.1.2.1.getD 0 0), .I (r40.1.2.1.getD 1 0), .I (r40.1.2.1.getD 2 0), .I (r40.1.2.1.getD 3 0), .I (r40.1.2.1.getD 4 0), .I (r40.1.2.1.getD 5 0), v44, v45, .string r40.1.t4.1, .string r40.1.t4.2, .I 0, .I 0, .I 0, .I 0, .N0, .N0]) rfl rfl rfl z_size26 rfl rfl rfl (o4 (ones_cons rfl (ones_cons rfl (ones_cons rfl (ones_cons hs46.one' (ones_cons hs47.one' (ones_cons rfl (ones_cons rfl ones_nil)))))))) rfl rfl rfl (Z 3 ?_)
    refine st_ord [0] _ rfl ?_
    exact hk29 _ _ _ ⟨(r40.2, s28, r40.1.1, (r40.1.2.1.getD 0 0), (r40.1.2.1.getD 1 0), (r40.1.2.1.getD 2 0), (r40.1.2.1.getD 3 0), (r40.1.2.1.getD 4 0), (r40.1.2.1.getD 5 0), r40.1.2.2.1, r40.1.2.2.2.1, r40.1.t4.1, r40.1.t4.2, 0, 0, 0, 0, []), _, _, _, h, (hl39.trans hl43), rfl, rfl, hs46, hs47, Sl.nil⟩
   ·refine Z 5 ?_
    refine I2 h (fun h => ?_) (fun h => ?_)
    ·refine ZZ 3 [1] ?_
     obtain ⟨hf53, hf54, h⟩ := h
     refine st_ord [2, 0, 0] _ rfl ?_
     refine st_freeze (fun τ48 hl49 hg50 => ?_)
     have hs51 := ho27.freeze (hl28.trans hl49) hg50
     refine o_slice (L := 1) (H := (p22.length : Int)) rfl rfl rfl z_slT67 rfl rfl hs51 ⟨_, rfl⟩ rfl (by decide) hf53 hf54 trivial (by simp) (fun v55 hs56 => ?_)
     obtain ⟨r57, hr58, h⟩ := h
     refine st_call (foot := []) rfl rfl rfl rfl rfl rfl (callV_fn z_en64 (script_chunk_ok hr58 τ48 hs56 (hT.up (((hl6.trans hl24).trans hl28).trans hl49)) (hE.up (((hl6.trans hl24).trans hl28).trans hl49)))) ?_
     rintro _ τ59 _ hl60 ⟨v61, v62, v63, v64, rfl, rfl, hs65, hs66, hs67, hs68⟩
     refine Z 2 ?_
     refine o_store (j := 0) (vs := (lS r57.1 v61 v62 v63 v64)) (cs' := (lS r57.1 v61 v62 v63 v64)) rfl rfl rfl z_size31 rfl rfl rfl (o4 (o4 (ones_cons hs65.one' (ones_cons hs66.one' (o4 (ones_cons rfl (ones_cons rfl (ones_cons hs67.one' (ones_cons hs68.one' ones_nil))))))))) rfl rfl rfl (Z 2 ?_)
     obtain rfl := h.symm
     exact RC [.agg (lS r57.1 v61 v62 v63 v64).toArray, .I r57.2] func25 ⟨cN 0 z_agg31, rfl, trivial⟩ ((((hl6.trans hl24).trans hl28).trans hl49).trans hl60) ⟨_, _, _, _, rfl, rfl, hs65, hs66, hs67, hs68⟩
    ·refine st_seq ?_
     refine cutS τ28 (fun (s69 : Bool) => script_parse_j4 a0 p22 s28 s69 r) (fun s69 => [(0, .string a0), (2, .Pb b1), (3, .I 0), (4, .Pb b2), (67, .bool s69)]) (fun s69 => [[(b1, .cells #[.I s28, .I 0, .I 0, .I 0, .I 0, .I 0, .I 0, .I 0, .N0, .N0, .E0, .E0, .I 0, .I 0, .I 0, .I 0, .N0, .N0] 31 (0, 0))], [(b2, .cells #[v25] 67 (0, 0))], g26]) (fun s69 τ69 h hl69 => ?_) (fun hk69 => ?_)
     ·refine I2 h (fun h => ?_) (fun h => ?_)
      ·refine ZZ 3 [1] ?_
       refine o_lenO rfl rfl rfl z_slT67 rfl (ho27.up (hl28.trans hl69)) (Z 2 ?_)
       refine I2 h (fun h => ?_) (fun h => ?_)
       ·refine Z 4 ?_
        refine st_ord [0] _ rfl ?_
        exact hk29 _ _ _ ⟨(3, s28, 0, 0, 0, 0, 0, 0, 0, [], [], (bstr []), (bstr []), 0, 0, 0, 0, []), _, _, _, h, hl69, rfl, rfl, Sl.nil, Sl.nil, Sl.nil⟩
       ·refine Z 2 ?_
        refine st_ord [0] _ rfl ?_
        exact hk29 _ _ _ ⟨(0, s28, 0, 0, 0, 0, 0, 0, 0, [], [], (bstr []), (bstr []), 0, 0, 0, 0, []), _, _, _, h, hl69, rfl, rfl, Sl.nil, Sl.nil, Sl.nil⟩
      ·refine ZZ 7 [0] ?_
       obtain ⟨r70, hr71, h⟩ := h
       refine st_call (foot := []) rfl rfl rfl rfl rfl rfl (callV_fn z_en65 (noise_Parse_ok hr71 τ69 (hE.up (((hl6.trans hl24).trans hl28).trans hl69)))) ?_
       rintro _ τ72 _ hl73 ⟨v74, rfl, rfl, hs75⟩
       refine Z 4 ?_
       refine o_store (j := 0) (vs := (lI r70.1 v74)) (cs' := [.I 2, .I 0, .I 0, .I 0, .I 0, .I 0, .I 0, .I 0, .N0, .N0, .E0, .E0, .I r70.1.1, .I r70.1.2.1, .I r70.1.2.2.1, .I r70.1.2.2.2.1, v74, .N0]) rfl rfl rfl z_size29 rfl rfl rfl (o4 (ones_cons hs75.one' ones_nil)) rfl rfl rfl (Z 3 ?_)
       refine st_ord [0] _ rfl ?_
       exact hk29 _ _ _ ⟨(r70.2, 2, 0, 0, 0, 0, 0, 0, 0, [], [], (bstr []), (bstr []), r70.1.1, r70.1.2.1, r70.1.2.2.1, r70.1.2.2.2.1, r70.1.t4), _, _, _, h, (hl69.trans hl73), rfl, rfl, Sl.nil, Sl.nil, hs75⟩
     refine Z 5 ?_
     refine I2 h (fun h => ?_) (fun h => ?_)
     ·refine st_skip ?_
      exact hk69 _ _ _ ⟨(decide (s28 = 3)), h, LR, rfl, rfl⟩
     ·refine Z 5 ?_
      refine I2 h (fun h => ?_) (fun h => ?_)
      ·refine st_skip ?_
       exact hk69 _ _ _ ⟨(decide (s28 = 5)), h, LR, rfl, rfl⟩
      ·refine Z 4 ?_
       exact hk69 _ _ _ ⟨(decide (s28 = 6)), h, LR, rfl, rfl⟩
  refine Z 4 ?_
  obtain ⟨e76, hL76, hA76⟩ := h
  refine st_loop hL76 (fun (s76 : Int × Int) ρ τ76 gs => τ23.Le τ76 ∧ ESub ρ [(0, .string a0), (2, .Pb b1), (3, .I 0), (4, .Pb b2), (7, .I s76.1)] ∧ gs = [[(b1, .cells #[.I s76.2, .I 0, .I 0, .I 0, .I 0, .I 0, .I 0, .I 0, .N0, .N0, .E0, .E0, .I 0, .I 0, .I 0, .I 0, .N0, .N0] 31 (0, 0))], [(b2, .cells #[v25] 67 (0, 0))], g26]) ⟨LR, rfl, rfl⟩ ?_
  rintro s76 o76 h he76 ρ76 τ76 gs76 ⟨hl76, hρ, rfl⟩ hn76
  refine st_es hρ (Z 6 ?_)
  refine I2 h (fun h => ?_) (fun h => ?_)
  ·refine Z 2 ?_
   refine cutS τ76 (fun (s77 : Int) => script_parse_j6 s76 s77 o76) (fun s77 => [(0, .string a0), (2, .Pb b1), (3, .I 0), (4, .Pb b2), (7, .I s76.1)]) (fun s77 => [[(b1, .cells #[.I s77, .I 0, .I 0, .I 0, .I 0, .I 0, .I 0, .I 0, .N0, .N0, .E0, .E0, .I 0, .I 0, .I 0, .I 0, .N0, .N0] 31 (0, 0))], [(b2, .cells #[v25] 67 (0, 0))], g26]) (fun s77 τ77 h hl77 => (Z 5 ?_)) (fun hk77 => ?_)
   ·exact hn76 _ _ _ _ h ⟨(hl76.trans hl77), rfl, rfl⟩
   refine Z 4 ?_
   obtain ⟨r78, hr79, h⟩ := h
   refine SC z_en35 (script_word_ok hr79 τ76) ?_
   rintro _ τ80 _ hl81 ⟨rfl, rfl⟩
   refine Z 3 ?_
   refine cutS τ80 (fun (s82 : Bool) => script_parse_j7 s76 s82 o76) (fun s82 => [(0, .string a0), (2, .Pb b1), (3, .I 0), (4, .Pb b2), (7, .I s76.1), (34, .bool s82)]) (fun s82 => [[(b1, .cells #[.I s76.2, .I 0, .I 0, .I 0, .I 0, .I 0, .I 0, .I 0, .N0, .N0, .E0, .E0, .I 0, .I 0, .I 0, .I 0, .N0, .N0] 31 (0, 0))], [(b2, .cells #[v25] 67 (0, 0))], g26]) (fun s82 τ82 h hl82 => ?_) (fun hk82 => ?_)
   ·refine I2 h (fun h => ?_) (fun h => ?_)
    ·refine ZZ 6 [0] ?_
     exact hk77 _ _ _ ⟨s76.1, h, (hl81.trans hl82), rfl, rfl⟩
    ·refine Z 2 ?_
     exact hk77 _ _ _ ⟨s76.2, h, (hl81.trans hl82), rfl, rfl⟩
   refine Z 2 ?_
   refine o_sbin (v := .bool (!(decide (r78 = (bstr []))))) rfl rfl rfl rfl (ev_str z_str1) rfl ?_
   refine M2 h (fun h => ?_) (fun h => ?_)
   ·refine ZZ 2 [1] ?_
    obtain ⟨q83, hf84, h⟩ := h
    refine o_indexOw rfl rfl rfl z_slT67 rfl rfl (ho27.up (hl76.trans hl81)) rfl hf84 (fun b85 hb86 => ?_)
    obtain ⟨vs87, hrep88, hat89⟩ := Ow.at (ho27.up (hl76.trans hl81)) hb86 hf84
    obtain rfl := hrep88
    refine o_loadOw (off := 0) (j := 2) (v := .string q83) rfl rfl rfl z_sc9 rfl hat89 rfl rfl (Z 3 ?_)
    exact hk82 _ _ _ ⟨(decide (r78 = q83)), h, LR, rfl, rfl⟩
   ·refine Z 7 ?_
    exact hk82 _ _ _ ⟨false, h, LR, rfl, rfl⟩
  ·refine st_exit rfl ?_
   obtain rfl := he76 _ h
   replace h := hA76
   exact hk28 _ _ _ ⟨s76.2, h, hl76, rfl, rfl⟩
 ·exact fun _ _ _ _ _ _ _ h => h.elim
theorem script_Parse_ok {a0 : ByteArray} {r : (TyS) × Int} (h : script_Parse a0 r) (σ : Sto) (hT : Tab prog σ) (hE : Errs prog σ) :
    Does prog 7 [.string a0] σ [] (fun v τ gs => ∃ (v15 v16 : Value) (v17 v18 : Value), gs = [] ∧ .tuple [.agg (lS r.1 v15 v16 v17 v18).toArray, .I r.2].toArray = v ∧ Sl (kP (kI .i64) (kI .i64)) τ v15 r.1.2.1.2.2.1 ∧ Sl (kI .i64) τ v16 r.1.2.1.2.2.2.1 ∧ Sl (kI .u8) τ v17 r.1.2.2.1.t4 ∧ Sl (kI .i64) τ v18 r.1.2.2.2) := by
 refine CO func7 ntmps7 rfl (fun cs fs => Z 2 ?_)
 refine o_alloc rfl rfl rfl z_zero31 (fun b1 => Z 5 ?_)
 obtain ⟨r2, hr3, h⟩ := h
 refine SC z_en25 (script_parse_ok hr3 σ hT hE) ?_
 rintro _ τ4 _ hl5 ⟨v6, v7, v8, v9, rfl, rfl, hs10, hs11, hs12, hs13⟩
 refine Z 3 ?_
 refine o_alloc rfl rfl rfl z_zero31 (fun b14 => ?_)
 refine o_store (j := 0) (vs := (lS r2.1 v6 v7 v8 v9)) (cs' := (lS r2.1 v6 v7 v8 v9)) rfl rfl rfl z_size31 rfl rfl rfl (o4 (o4 (ones_cons hs10.one' (ones_cons hs11.one' (o4 (ones_cons rfl (ones_cons rfl (ones_cons hs12.one' (ones_cons hs13.one' ones_nil))))))))) rfl rfl rfl (Z 8 ?_)
 refine I2 h (fun h => ?_) (fun h => ?_)
 ·refine ZZ 7 [1] ?_
  obtain rfl := h.symm
  exact RC [.agg lZ.toArray, .I r2.2] func7 ⟨cN 1 z_agg31, rfl, trivial⟩ hl5 ⟨_, _, _, _, rfl, rfl, Sl.nil, Sl.nil, Sl.nil, Sl.nil⟩
 ·refine ZZ 4 [0] ?_
  refine o_store (j := 1) (vs := (lS r2.1 v6 v7 v8 v9)) (cs' := (lS r2.1 v6 v7 v8 v9)) rfl rfl rfl z_size31 rfl rfl rfl (o4 (o4 (ones_cons hs10.one' (ones_cons hs11.one' (o4 (ones_cons rfl (ones_cons rfl (ones_cons hs12.one' (ones_cons hs13.one' ones_nil))))))))) rfl rfl rfl (Z 2 ?_)
  obtain rfl := h.symm
  exact RC [.agg (lS r2.1 v6 v7 v8 v9).toArray, .I 0] func7 ⟨cN 1 z_agg31, rfl, trivial⟩ hl5 ⟨_, _, _, _, rfl, rfl, hs10, hs11, hs12, hs13⟩
theorem ref20_Split_ok {a0 : ByteArray} {a1 : Int} {r : List ByteArray} (h : ref20_Split a0 a1 r) (σ : Sto)  :
    Does prog 20 [.string a0, .int .u8 a1] σ [] (fun v τ gs => ∃ (v34 : Value), gs = [] ∧ v34 = v ∧ Sl kS τ v34 r) := by
 refine CO func20 ntmps20 rfl (fun cs fs => Z 13 ?_)
 refine st_cut (fun ρ τ1 gs => ∃ (s1 : K0) (v2 : Value) (g3 : Grp), ref20_Split_j1 s1 r ∧ σ.Le τ1 ∧ ESub ρ [(4, .N0), (5, v2)] ∧ gs = [g3] ∧ Ow kS 9 τ1 v2 s1 g3) ?_ (fun hk1 => ?_)
 ·rintro ρ1 τ1 gs1 ⟨s1, v2, g3, h, hl1, hρ, rfl, ho4⟩
  refine st_es hρ (Z 5 ?_)
  refine st_freeze (fun τ5 hl6 hg7 => ?_)
  have hs8 := ho4.freeze hl6 hg7
  obtain rfl := h.symm
  exact RT func20 rfl (hl1.trans hl6) ⟨_, rfl, rfl, hs8⟩
 refine Z 4 ?_
 obtain ⟨e11, hL11, hA11⟩ := h
 refine st_addNil ?_
 refine st_loop hL11 (fun (s11 : K42) ρ τ11 gs => σ.Le τ11 ∧ ∃ (v12 : Value) (g13 : Grp), ESub ρ [(0, .string a0), (1, .int .u8 a1), (4, .N0), (5, v12), (6, .I s11.2.1), (7, .I s11.2.2)] ∧ gs = [g13] ∧ Ow kS 9 τ11 v12 s11.1 g13) ⟨LR, _, _, rfl, rfl, Ow.nil⟩ ?_
 rintro s11 o11 h he11 ρ11 τ11 gs11 ⟨hl11, v12, g13, hρ, rfl, ho14⟩ hn11
 refine st_es hρ (Z 8 ?_)
 refine I2 h (fun h => ?_) (fun h => ?_)
 ·refine Z 2 ?_
  refine st_cut (fun ρ τ15 gs => ∃ (s15 : K40) (v16 : Value) (g17 : Grp), ref20_Split_j3 s11 s15 o11 ∧ τ11.Le τ15 ∧ ESub ρ [(0, .string a0), (1, .int .u8 a1), (4, .N0), (5, v16), (6, .I s15.2), (7, .I s11.2.2)] ∧ gs = [g17] ∧ Ow kS 9 τ15 v16 s15.1 g17) ?_ (fun hk15 => ?_)
  ·rintro ρ15 τ15 gs15 ⟨s15, v16, g17, h, hl15, hρ, rfl, ho18⟩
   refine st_es hρ (Z 5 ?_)
   exact hn11 _ _ _ _ h ⟨(hl11.trans hl15), _, _, rfl, rfl, ho18⟩
  refine Z 2 ?_
  refine cutS τ11 (fun (s19 : Bool) => ref20_Split_j4 a0 s11 s19 o11) (fun s19 => [(0, .string a0), (1, .int .u8 a1), (4, .N0), (5, v12), (6, .I s11.2.1), (7, .I s11.2.2), (24, .bool s19)]) (fun s19 => [g13]) (fun s19 τ19 h hl19 => ?_) (fun hk19 => ?_)
  ·refine I2 h (fun h => ?_) (fun h => ?_)
   ·refine Z 6 ?_
    obtain ⟨hf20, hf21, hf22, h⟩ := h
    refine o_sliceS rfl rfl rfl underlying9 rfl rfl rfl hf20 hf21 hf22 ?_
    refine o_litE eS [(a0.extract s11.2.1.toNat s11.2.2.toNat)] rfl rfl rfl z_slT67 z_zero9 ⟨rfl, ⟨_, rfl, rfl⟩, trivial⟩ rfl rfl rfl rfl (fun v23 g24 ho25 => ?_)
    obtain ⟨hf29, hf30, h⟩ := h
    refine st_ord [1, 0] _ rfl ?_
    refine o_append (dk := kS) (xs := s11.1) (ys := [(a0.extract s11.2.1.toNat s11.2.2.toNat)]) rfl rfl rfl rfl z_slT67 rfl (ho14.up hl19) rfl (Ow.src (j := 1) ho25 rfl) hf29 hf30 (fun v26 g27 ho28 => Z 8 ?_)
    refine st_ord [0] _ rfl ?_
    exact hk15 _ _ _ ⟨((s11.1 ++ [(a0.extract s11.2.1.toNat s11.2.2.toNat)]), (i64.wrap (s11.2.2 + 1))), _, _, h, hl19, rfl, rfl, ho28⟩
   ·refine Z 2 ?_
    exact hk15 _ _ _ ⟨(s11.1, s11.2.1), _, _, h, hl19, rfl, rfl, (ho14.up hl19)⟩
  refine Z 5 ?_
  refine M2 h (fun h => ?_) (fun h => ?_)
  ·refine Z 7 ?_
   exact hk19 _ _ _ ⟨true, h, LR, rfl, rfl⟩
  ·refine Z 2 ?_
   obtain ⟨q31, hf32, h⟩ := h
   refine o_indexS rfl rfl rfl underlying9 rfl rfl hf32 (Z 4 ?_)
   exact hk19 _ _ _ ⟨(decide (q31 = a1)), h, LR, rfl, rfl⟩
 ·refine st_exit rfl ?_
  obtain rfl := he11 _ h
  replace h := hA11
  exact hk1 _ _ _ ⟨s11.1, _, _, h, hl11, rfl, rfl, ho14⟩
theorem ref16_Word_ok {a0 : Int} {r : ByteArray} (h : ref16_Word a0 r) (σ : Sto)  :
    Does prog 66 [.I a0] σ [] (fun v τ gs => gs = [] ∧ .string r = v) := by
 refine CO func66 ntmps66 rfl (fun cs fs => Z 2 ?_)
 refine o_assign rfl rfl rfl (ev_str z_str1) (Z 3 ?_)
 refine cutS σ (fun (s1 : Bool) => ref16_Word_j1 a0 s1 r) (fun s1 => [(0, .I a0), (2, .E0), (8, .bool s1)]) (fun s1 => []) (fun s1 τ1 h hl1 => ?_) (fun hk1 => ?_)
 ·refine I2 h (fun h => ?_) (fun h => ?_)
  ·refine Z 2 ?_
   refine o_assign rfl rfl rfl (ev_str z_str1) ?_
   refine st_end ?_
   obtain rfl := h.symm
   exact RT func66 rfl hl1 ⟨rfl, rfl⟩
  ·refine Z 3 ?_
   refine o_litE eS [(bstr [109, 111, 118, 101]), (bstr [104, 111, 108, 100]), (bstr [103, 114, 97, 110, 116]), (bstr [112, 111, 115, 101]), (bstr [102, 97, 117, 108, 116])] rfl rfl rfl z_slT67 z_zero9 ⟨rfl, ⟨_, (ev_str z_str7), rfl⟩, ⟨rfl, ⟨_, (ev_str z_str8), rfl⟩, ⟨rfl, ⟨_, (ev_str z_str9), rfl⟩, ⟨rfl, ⟨_, (ev_str z_str10), rfl⟩, ⟨rfl, ⟨_, (ev_str z_str11), rfl⟩, trivial⟩⟩⟩⟩⟩ rfl rfl rfl rfl (fun v2 g3 ho4 => Z 2 ?_)
   obtain ⟨q5, hf6, h⟩ := h
   refine o_indexOw rfl rfl rfl z_slT67 rfl rfl ho4 rfl hf6 (fun b7 hb8 => ?_)
   obtain ⟨vs9, hrep10, hat11⟩ := Ow.at ho4 hb8 hf6
   obtain rfl := hrep10
   refine o_loadOw (off := 0) (j := 0) (v := .string q5) rfl rfl rfl z_sc9 rfl hat11 rfl rfl (Z 2 ?_)
   obtain rfl := h.symm
   exact RT func66 rfl hl1 ⟨rfl, rfl⟩
 refine Z 3 ?_
 refine M2 h (fun h => ?_) (fun h => ?_)
 ·refine Z 4 ?_
  exact hk1 _ _ _ ⟨true, h, LR, rfl, rfl⟩
 ·refine Z 4 ?_
  exact hk1 _ _ _ ⟨(decide (5 < a0)), h, LR, rfl, rfl⟩
theorem ref16_All_ok {a0 : Int} {r : (List (TyA))} (h : ref16_All a0 r) (σ : Sto)  :
    Does prog 67 [.I a0] σ [] (fun v τ gs => ∃ (v55 : Value), gs = [] ∧ v55 = v ∧ Sl (kP kS (kP (kI .i64) (kP (kI .i64) (kP (kI .i64) (kP (kI .i64) (kP (kI .i64) (kI .i64))))))) τ v55 r) := by
 refine CO func67 ntmps67 rfl (fun cs fs => Z 14 ?_)
 refine o_lit (dk := (kP kS (kP (kI .i64) (kP (kI .i64) (kP (kI .i64) (kP (kI .i64) (kP (kI .i64) (kI .i64)))))))) (xs := ([] : List (TyA))) (ps := []) (cs := []) rfl rfl rfl z_slT126 z_zero129 trivial rfl rfl rfl rfl Kd.Many.nil (fun v1 g2 ho3 => Z 3 ?_)
 refine st_cut (fun ρ τ4 gs => ∃ (s4 : (List (TyA))) (v5 : Value) (g6 : Grp), ref16_All_j1 s4 r ∧ σ.Le τ4 ∧ ESub ρ [(2, .N0), (3, .N0), (4, .I 0), (5, v5)] ∧ gs = [g6] ∧ Ow (kP kS (kP (kI .i64) (kP (kI .i64) (kP (kI .i64) (kP (kI .i64) (kP (kI .i64) (kI .i64))))))) 129 τ4 v5 s4 g6) ?_ (fun hk4 => ?_)
 ·rintro ρ4 τ4 gs4 ⟨s4, v5, g6, h, hl4, hρ, rfl, ho7⟩
  refine st_es hρ ?_
  refine st_seq ?_
  refine st_cut (fun ρ τ8 gs => ∃ (s8 : (List (TyA))) (v9 : Value) (g10 : Grp), ref16_All_j2 s8 r ∧ τ4.Le τ8 ∧ ESub ρ [(2, .N0), (3, v9)] ∧ gs = [g10] ∧ Ow (kP kS (kP (kI .i64) (kP (kI .i64) (kP (kI .i64) (kP (kI .i64) (kP (kI .i64) (kI .i64))))))) 129 τ8 v9 s8 g10) ?_ (fun hk8 => ?_)
  ·rintro ρ8 τ8 gs8 ⟨s8, v9, g10, h, hl8, hρ, rfl, ho11⟩
   refine st_es hρ (Z 5 ?_)
   refine st_freeze (fun τ12 hl13 hg14 => ?_)
   have hs15 := ho11.freeze hl13 hg14
   obtain rfl := h.symm
   exact RT func67 rfl ((hl4.trans hl8).trans hl13) ⟨_, rfl, rfl, hs15⟩
  refine Z 4 ?_
  obtain ⟨e18, hL18, hA18⟩ := h
  refine st_addNil ?_
  refine st_ord [1, 0] _ rfl ?_
  refine st_loop hL18 (fun (s18 : (List (TyA)) × Int × Int) ρ τ18 gs => τ4.Le τ18 ∧ ∃ (v19 : Value) (g20 : Grp), ESub ρ [(2, .N0), (3, v19), (4, .I s18.2.1), (5, v5), (6, .I s18.2.2)] ∧ gs = [g6, g20] ∧ Ow (kP kS (kP (kI .i64) (kP (kI .i64) (kP (kI .i64) (kP (kI .i64) (kP (kI .i64) (kI .i64))))))) 129 τ18 v19 s18.1 g20) ⟨LR, _, _, rfl, rfl, Ow.nil⟩ ?_
  rintro s18 o18 h he18 ρ18 τ18 gs18 ⟨hl18, v19, g20, hρ, rfl, ho21⟩ hn18
  refine st_es hρ (Z 5 ?_)
  refine o_lenO rfl rfl rfl z_slT126 rfl (ho7.up hl18) (Z 2 ?_)
  refine I2 h (fun h => ?_) (fun h => ?_)
  ·refine Z 7 ?_
   obtain ⟨q22, hf23, h⟩ := h
   refine o_indexOw rfl rfl rfl z_slT126 rfl rfl (ho7.up hl18) rfl hf23 (fun b24 hb25 => ?_)
   obtain ⟨vs26, hrep27, hat28⟩ := Ow.at (ho7.up hl18) hb25 hf23
   obtain ⟨_, _, rfl, rfl, ⟨_, _, rfl, rfl, ⟨_, _, rfl, rfl, ⟨_, _, rfl, rfl, ⟨_, _, rfl, rfl, ⟨_, _, rfl, rfl, rfl⟩⟩⟩⟩⟩⟩ := hrep27
   refine o_loadOwN (j := 0) (off := 0) (us := (lA q22)) rfl rfl rfl z_agg129 rfl hat28 rfl (by exact rfl) ?_
   refine o_alloc rfl rfl rfl z_zero129 (fun b29 => ZZ 8 [0, 0] ?_)
   refine cutS τ18 (fun (s30 : Int × Int) => ref16_All_j4 s18 q22 s30 o18) (fun s30 => [(2, .N0), (3, v19), (4, .I s30.1), (5, v5), (6, .I s18.2.2), (7, .Pb b29)]) (fun s30 => [[(b29, .cells #[.string q22.1, .I q22.2.1, .I s30.2, .I q22.2.2.2.1, .I q22.t4.1, .I q22.t4.2.1, .I q22.t4.2.2] 129 (0, 0))], g20, g6]) (fun s30 τ30 h hl30 => (ZZ 3 [0] ?_)) (fun hk30 => ?_)
   ·refine o_litE (eP eS (eP (eI .i64) (eP (eI .i64) (eP (eI .i64) (eP (eI .i64) (eP (eI .i64) (eI .i64))))))) [(q22.1, q22.2.1, s30.2, q22.2.2.2.1, q22.t4.1, q22.t4.2.1, q22.t4.2.2)] rfl rfl rfl z_slT126 z_zero129 ⟨rfl, ⟨_, rfl, rfl⟩, trivial⟩ rfl rfl rfl rfl (fun v31 g32 ho33 => ?_)
    obtain ⟨hf37, hf38, h⟩ := h
    refine st_ord [2, 0, 0, 0] _ rfl ?_
    refine o_append (dk := (kP kS (kP (kI .i64) (kP (kI .i64) (kP (kI .i64) (kP (kI .i64) (kP (kI .i64) (kI .i64)))))))) (xs := s18.1) (ys := [(q22.1, q22.2.1, s30.2, q22.2.2.2.1, q22.t4.1, q22.t4.2.1, q22.t4.2.2)]) rfl rfl rfl rfl z_slT126 rfl (ho21.up hl30) rfl (Ow.src (j := 1) ho33 rfl) hf37 hf38 (fun v34 g35 ho36 => Z 8 ?_)
    refine st_ord [3, 0] _ rfl ?_
    exact hn18 _ _ _ _ h ⟨(hl18.trans hl30), _, _, rfl, rfl, ho36⟩
   refine ZZ 6 [0] ?_
   refine I2 h (fun h => ?_) (fun h => ?_)
   ·refine ZZ 11 [0] ?_
    refine st_ord [0, 1, 0] _ rfl ?_
    exact hk30 _ _ _ ⟨((i64.wrap (s18.2.1 + 1)), s18.2.1), h, LR, rfl, rfl⟩
   ·refine st_skip ?_
    refine st_ord [0, 1, 0] _ rfl ?_
    exact hk30 _ _ _ ⟨(s18.2.1, (-1)), h, LR, rfl, rfl⟩
  ·refine st_exit rfl ?_
   obtain rfl := he18 _ h
   replace h := hA18
   refine st_ord [1] _ rfl ?_
   exact hk8 _ _ _ ⟨s18.1, _, _, h, hl18, rfl, rfl, ho21⟩
 refine Z 10 ?_
 refine I2 h (fun h => ?_) (fun h => ?_)
 ·refine st_region ?_
  refine o_build (ps := [(0, [.string (bstr [114, 111, 98, 111, 116])]), (1, [.I 1]), (2, [.I 0]), (3, [.I 0]), (4, [.I 65535]), (5, [.I 1]), (6, [.I 0])]) rfl rfl rfl z_struct129 ⟨rfl, ⟨_, (ev_str z_str12), rfl⟩, ⟨rfl, ⟨_, rfl, rfl⟩, ⟨rfl, ⟨_, rfl, rfl⟩, ⟨rfl, ⟨_, rfl, rfl⟩, ⟨rfl, ⟨_, rfl, rfl⟩, ⟨rfl, ⟨_, rfl, rfl⟩, ⟨rfl, ⟨_, rfl, rfl⟩, trivial⟩⟩⟩⟩⟩⟩⟩ rfl ?_
  refine o_build (ps := [(0, [.string (bstr [115, 112, 101, 101, 100])]), (1, [.I 1]), (2, [.I 0]), (3, [.I 1]), (4, [.I 5000]), (5, [.I 1]), (6, [.I 0])]) rfl rfl rfl z_struct129 ⟨rfl, ⟨_, (ev_str z_str13), rfl⟩, ⟨rfl, ⟨_, rfl, rfl⟩, ⟨rfl, ⟨_, rfl, rfl⟩, ⟨rfl, ⟨_, rfl, rfl⟩, ⟨rfl, ⟨_, rfl, rfl⟩, ⟨rfl, ⟨_, rfl, rfl⟩, ⟨rfl, ⟨_, rfl, rfl⟩, trivial⟩⟩⟩⟩⟩⟩⟩ rfl ?_
  refine o_build (ps := [(0, [.string (bstr [97, 99, 99, 101, 108])]), (1, [.I 1]), (2, [.I 0]), (3, [.I 1]), (4, [.I 10000]), (5, [.I 2]), (6, [.I 500])]) rfl rfl rfl z_struct129 ⟨rfl, ⟨_, (ev_str z_str14), rfl⟩, ⟨rfl, ⟨_, rfl, rfl⟩, ⟨rfl, ⟨_, rfl, rfl⟩, ⟨rfl, ⟨_, rfl, rfl⟩, ⟨rfl, ⟨_, rfl, rfl⟩, ⟨rfl, ⟨_, rfl, rfl⟩, ⟨rfl, ⟨_, rfl, rfl⟩, trivial⟩⟩⟩⟩⟩⟩⟩ rfl ?_
  refine o_build (ps := [(0, [.string (bstr [112, 97, 116, 104])]), (1, [.I 3]), (2, [.I 0]), (3, [.I 1]), (4, [.I 16]), (5, [.I 1]), (6, [.I 0])]) rfl rfl rfl z_struct129 ⟨rfl, ⟨_, (ev_str z_str15), rfl⟩, ⟨rfl, ⟨_, rfl, rfl⟩, ⟨rfl, ⟨_, rfl, rfl⟩, ⟨rfl, ⟨_, rfl, rfl⟩, ⟨rfl, ⟨_, rfl, rfl⟩, ⟨rfl, ⟨_, rfl, rfl⟩, ⟨rfl, ⟨_, rfl, rfl⟩, trivial⟩⟩⟩⟩⟩⟩⟩ rfl ?_
  refine o_build (ps := [(0, [.string (bstr [116, 97, 103])]), (1, [.I 6]), (2, [.I 0]), (3, [.I 0]), (4, [.I 16]), (5, [.I 2]), (6, [.I 0])]) rfl rfl rfl z_struct129 ⟨rfl, ⟨_, (ev_str z_str16), rfl⟩, ⟨rfl, ⟨_, rfl, rfl⟩, ⟨rfl, ⟨_, rfl, rfl⟩, ⟨rfl, ⟨_, rfl, rfl⟩, ⟨rfl, ⟨_, rfl, rfl⟩, ⟨rfl, ⟨_, rfl, rfl⟩, ⟨rfl, ⟨_, rfl, rfl⟩, trivial⟩⟩⟩⟩⟩⟩⟩ rfl ?_
  refine o_litE (eP eS (eP (eI .i64) (eP (eI .i64) (eP (eI .i64) (eP (eI .i64) (eP (eI .i64) (eI .i64))))))) [((bstr [114, 111, 98, 111, 116]), 1, 0, 0, 65535, 1, 0), ((bstr [115, 112, 101, 101, 100]), 1, 0, 1, 5000, 1, 0), ((bstr [97, 99, 99, 101, 108]), 1, 0, 1, 10000, 2, 500), ((bstr [112, 97, 116, 104]), 3, 0, 1, 16, 1, 0), ((bstr [116, 97, 103]), 6, 0, 0, 16, 2, 0)] rfl rfl rfl z_slT126 z_zero129 ⟨rfl, ⟨_, rfl, rfl⟩, ⟨rfl, ⟨_, rfl, rfl⟩, ⟨rfl, ⟨_, rfl, rfl⟩, ⟨rfl, ⟨_, rfl, rfl⟩, ⟨rfl, ⟨_, rfl, rfl⟩, trivial⟩⟩⟩⟩⟩ rfl rfl rfl rfl (fun v40 g41 ho42 => Z 3 ?_)
  refine st_ord [0] _ rfl ?_
  exact hk4 _ _ _ ⟨[((bstr [114, 111, 98, 111, 116]), 1, 0, 0, 65535, 1, 0), ((bstr [115, 112, 101, 101, 100]), 1, 0, 1, 5000, 1, 0), ((bstr [97, 99, 99, 101, 108]), 1, 0, 1, 10000, 2, 500), ((bstr [112, 97, 116, 104]), 3, 0, 1, 16, 1, 0), ((bstr [116, 97, 103]), 6, 0, 0, 16, 2, 0)], _, _, h, LR, rfl, rfl, ho42⟩
 ·refine Z 5 ?_
  refine I2 h (fun h => ?_) (fun h => ?_)
  ·refine st_region ?_
   refine o_build (ps := [(0, [.string (bstr [114, 111, 98, 111, 116])]), (1, [.I 1]), (2, [.I 0]), (3, [.I 0]), (4, [.I 65535]), (5, [.I 1]), (6, [.I 0])]) rfl rfl rfl z_struct129 ⟨rfl, ⟨_, (ev_str z_str12), rfl⟩, ⟨rfl, ⟨_, rfl, rfl⟩, ⟨rfl, ⟨_, rfl, rfl⟩, ⟨rfl, ⟨_, rfl, rfl⟩, ⟨rfl, ⟨_, rfl, rfl⟩, ⟨rfl, ⟨_, rfl, rfl⟩, ⟨rfl, ⟨_, rfl, rfl⟩, trivial⟩⟩⟩⟩⟩⟩⟩ rfl ?_
   refine o_build (ps := [(0, [.string (bstr [114, 101, 97, 115, 111, 110])]), (1, [.I 1]), (2, [.I 0]), (3, [.I 0]), (4, [.I 15]), (5, [.I 1]), (6, [.I 0])]) rfl rfl rfl z_struct129 ⟨rfl, ⟨_, (ev_str z_str17), rfl⟩, ⟨rfl, ⟨_, rfl, rfl⟩, ⟨rfl, ⟨_, rfl, rfl⟩, ⟨rfl, ⟨_, rfl, rfl⟩, ⟨rfl, ⟨_, rfl, rfl⟩, ⟨rfl, ⟨_, rfl, rfl⟩, ⟨rfl, ⟨_, rfl, rfl⟩, trivial⟩⟩⟩⟩⟩⟩⟩ rfl ?_
   refine o_build (ps := [(0, [.string (bstr [122, 111, 110, 101])]), (1, [.I 1]), (2, [.I 0]), (3, [.I 0]), (4, [.I 4095]), (5, [.I 2]), (6, [.I 0])]) rfl rfl rfl z_struct129 ⟨rfl, ⟨_, (ev_str z_str18), rfl⟩, ⟨rfl, ⟨_, rfl, rfl⟩, ⟨rfl, ⟨_, rfl, rfl⟩, ⟨rfl, ⟨_, rfl, rfl⟩, ⟨rfl, ⟨_, rfl, rfl⟩, ⟨rfl, ⟨_, rfl, rfl⟩, ⟨rfl, ⟨_, rfl, rfl⟩, trivial⟩⟩⟩⟩⟩⟩⟩ rfl ?_
   refine o_litE (eP eS (eP (eI .i64) (eP (eI .i64) (eP (eI .i64) (eP (eI .i64) (eP (eI .i64) (eI .i64))))))) [((bstr [114, 111, 98, 111, 116]), 1, 0, 0, 65535, 1, 0), ((bstr [114, 101, 97, 115, 111, 110]), 1, 0, 0, 15, 1, 0), ((bstr [122, 111, 110, 101]), 1, 0, 0, 4095, 2, 0)] rfl rfl rfl z_slT126 z_zero129 ⟨rfl, ⟨_, rfl, rfl⟩, ⟨rfl, ⟨_, rfl, rfl⟩, ⟨rfl, ⟨_, rfl, rfl⟩, trivial⟩⟩⟩ rfl rfl rfl rfl (fun v43 g44 ho45 => Z 3 ?_)
   refine st_ord [0] _ rfl ?_
   exact hk4 _ _ _ ⟨[((bstr [114, 111, 98, 111, 116]), 1, 0, 0, 65535, 1, 0), ((bstr [114, 101, 97, 115, 111, 110]), 1, 0, 0, 15, 1, 0), ((bstr [122, 111, 110, 101]), 1, 0, 0, 4095, 2, 0)], _, _, h, LR, rfl, rfl, ho45⟩
  ·refine Z 5 ?_
   refine I2 h (fun h => ?_) (fun h => ?_)
   ·refine st_region ?_
    refine o_build (ps := [(0, [.string (bstr [114, 111, 98, 111, 116])]), (1, [.I 1]), (2, [.I 0]), (3, [.I 0]), (4, [.I 65535]), (5, [.I 1]), (6, [.I 0])]) rfl rfl rfl z_struct129 ⟨rfl, ⟨_, (ev_str z_str12), rfl⟩, ⟨rfl, ⟨_, rfl, rfl⟩, ⟨rfl, ⟨_, rfl, rfl⟩, ⟨rfl, ⟨_, rfl, rfl⟩, ⟨rfl, ⟨_, rfl, rfl⟩, ⟨rfl, ⟨_, rfl, rfl⟩, ⟨rfl, ⟨_, rfl, rfl⟩, trivial⟩⟩⟩⟩⟩⟩⟩ rfl ?_
    refine o_build (ps := [(0, [.string (bstr [122, 111, 110, 101])]), (1, [.I 1]), (2, [.I 0]), (3, [.I 0]), (4, [.I 4095]), (5, [.I 1]), (6, [.I 0])]) rfl rfl rfl z_struct129 ⟨rfl, ⟨_, (ev_str z_str18), rfl⟩, ⟨rfl, ⟨_, rfl, rfl⟩, ⟨rfl, ⟨_, rfl, rfl⟩, ⟨rfl, ⟨_, rfl, rfl⟩, ⟨rfl, ⟨_, rfl, rfl⟩, ⟨rfl, ⟨_, rfl, rfl⟩, ⟨rfl, ⟨_, rfl, rfl⟩, trivial⟩⟩⟩⟩⟩⟩⟩ rfl ?_
    refine o_build (ps := [(0, [.string (bstr [108, 101, 97, 115, 101])]), (1, [.I 1]), (2, [.I 0]), (3, [.I 1]), (4, [.I 255]), (5, [.I 2]), (6, [.I 1])]) rfl rfl rfl z_struct129 ⟨rfl, ⟨_, (ev_str z_str19), rfl⟩, ⟨rfl, ⟨_, rfl, rfl⟩, ⟨rfl, ⟨_, rfl, rfl⟩, ⟨rfl, ⟨_, rfl, rfl⟩, ⟨rfl, ⟨_, rfl, rfl⟩, ⟨rfl, ⟨_, rfl, rfl⟩, ⟨rfl, ⟨_, rfl, rfl⟩, trivial⟩⟩⟩⟩⟩⟩⟩ rfl ?_
    refine o_build (ps := [(0, [.string (bstr [99, 101, 108, 108, 115])]), (1, [.I 4]), (2, [.I 0]), (3, [.I 1]), (4, [.I 32]), (5, [.I 1]), (6, [.I 0])]) rfl rfl rfl z_struct129 ⟨rfl, ⟨_, (ev_str z_str20), rfl⟩, ⟨rfl, ⟨_, rfl, rfl⟩, ⟨rfl, ⟨_, rfl, rfl⟩, ⟨rfl, ⟨_, rfl, rfl⟩, ⟨rfl, ⟨_, rfl, rfl⟩, ⟨rfl, ⟨_, rfl, rfl⟩, ⟨rfl, ⟨_, rfl, rfl⟩, trivial⟩⟩⟩⟩⟩⟩⟩ rfl ?_
    refine o_litE (eP eS (eP (eI .i64) (eP (eI .i64) (eP (eI .i64) (eP (eI .i64) (eP (eI .i64) (eI .i64))))))) [((bstr [114, 111, 98, 111, 116]), 1, 0, 0, 65535, 1, 0), ((bstr [122, 111, 110, 101]), 1, 0, 0, 4095, 1, 0), ((bstr [108, 101, 97, 115, 101]), 1, 0, 1, 255, 2, 1), ((bstr [99, 101, 108, 108, 115]), 4, 0, 1, 32, 1, 0)] rfl rfl rfl z_slT126 z_zero129 ⟨rfl, ⟨_, rfl, rfl⟩, ⟨rfl, ⟨_, rfl, rfl⟩, ⟨rfl, ⟨_, rfl, rfl⟩, ⟨rfl, ⟨_, rfl, rfl⟩, trivial⟩⟩⟩⟩ rfl rfl rfl rfl (fun v46 g47 ho48 => Z 3 ?_)
    refine st_ord [0] _ rfl ?_
    exact hk4 _ _ _ ⟨[((bstr [114, 111, 98, 111, 116]), 1, 0, 0, 65535, 1, 0), ((bstr [122, 111, 110, 101]), 1, 0, 0, 4095, 1, 0), ((bstr [108, 101, 97, 115, 101]), 1, 0, 1, 255, 2, 1), ((bstr [99, 101, 108, 108, 115]), 4, 0, 1, 32, 1, 0)], _, _, h, LR, rfl, rfl, ho48⟩
   ·refine Z 5 ?_
    refine I2 h (fun h => ?_) (fun h => ?_)
    ·refine st_region ?_
     refine o_build (ps := [(0, [.string (bstr [114, 111, 98, 111, 116])]), (1, [.I 1]), (2, [.I 0]), (3, [.I 0]), (4, [.I 65535]), (5, [.I 1]), (6, [.I 0])]) rfl rfl rfl z_struct129 ⟨rfl, ⟨_, (ev_str z_str12), rfl⟩, ⟨rfl, ⟨_, rfl, rfl⟩, ⟨rfl, ⟨_, rfl, rfl⟩, ⟨rfl, ⟨_, rfl, rfl⟩, ⟨rfl, ⟨_, rfl, rfl⟩, ⟨rfl, ⟨_, rfl, rfl⟩, ⟨rfl, ⟨_, rfl, rfl⟩, trivial⟩⟩⟩⟩⟩⟩⟩ rfl ?_
     refine o_build (ps := [(0, [.string (bstr [120])]), (1, [.I 2]), (2, [.I 0]), (3, [.I (-1000000)]), (4, [.I 1000000]), (5, [.I 1]), (6, [.I 0])]) rfl rfl rfl z_struct129 ⟨rfl, ⟨_, (ev_str z_str21), rfl⟩, ⟨rfl, ⟨_, rfl, rfl⟩, ⟨rfl, ⟨_, rfl, rfl⟩, ⟨rfl, ⟨_, rfl, rfl⟩, ⟨rfl, ⟨_, rfl, rfl⟩, ⟨rfl, ⟨_, rfl, rfl⟩, ⟨rfl, ⟨_, rfl, rfl⟩, trivial⟩⟩⟩⟩⟩⟩⟩ rfl ?_
     refine o_build (ps := [(0, [.string (bstr [121])]), (1, [.I 2]), (2, [.I 0]), (3, [.I (-1000000)]), (4, [.I 1000000]), (5, [.I 1]), (6, [.I 0])]) rfl rfl rfl z_struct129 ⟨rfl, ⟨_, (ev_str z_str22), rfl⟩, ⟨rfl, ⟨_, rfl, rfl⟩, ⟨rfl, ⟨_, rfl, rfl⟩, ⟨rfl, ⟨_, rfl, rfl⟩, ⟨rfl, ⟨_, rfl, rfl⟩, ⟨rfl, ⟨_, rfl, rfl⟩, ⟨rfl, ⟨_, rfl, rfl⟩, trivial⟩⟩⟩⟩⟩⟩⟩ rfl ?_
     refine o_build (ps := [(0, [.string (bstr [104, 101, 97, 100, 105, 110, 103])]), (1, [.I 1]), (2, [.I 0]), (3, [.I 0]), (4, [.I 35999]), (5, [.I 1]), (6, [.I 0])]) rfl rfl rfl z_struct129 ⟨rfl, ⟨_, (ev_str z_str23), rfl⟩, ⟨rfl, ⟨_, rfl, rfl⟩, ⟨rfl, ⟨_, rfl, rfl⟩, ⟨rfl, ⟨_, rfl, rfl⟩, ⟨rfl, ⟨_, rfl, rfl⟩, ⟨rfl, ⟨_, rfl, rfl⟩, ⟨rfl, ⟨_, rfl, rfl⟩, trivial⟩⟩⟩⟩⟩⟩⟩ rfl ?_
     refine o_build (ps := [(0, [.string (bstr [98, 97, 116, 116, 101, 114, 121])]), (1, [.I 1]), (2, [.I 0]), (3, [.I 0]), (4, [.I 1000]), (5, [.I 1]), (6, [.I 0])]) rfl rfl rfl z_struct129 ⟨rfl, ⟨_, (ev_str z_str24), rfl⟩, ⟨rfl, ⟨_, rfl, rfl⟩, ⟨rfl, ⟨_, rfl, rfl⟩, ⟨rfl, ⟨_, rfl, rfl⟩, ⟨rfl, ⟨_, rfl, rfl⟩, ⟨rfl, ⟨_, rfl, rfl⟩, ⟨rfl, ⟨_, rfl, rfl⟩, trivial⟩⟩⟩⟩⟩⟩⟩ rfl ?_
     refine o_build (ps := [(0, [.string (bstr [115, 117, 114, 101])]), (1, [.I 1]), (2, [.I 0]), (3, [.I 0]), (4, [.I 100]), (5, [.I 2]), (6, [.I 100])]) rfl rfl rfl z_struct129 ⟨rfl, ⟨_, (ev_str z_str25), rfl⟩, ⟨rfl, ⟨_, rfl, rfl⟩, ⟨rfl, ⟨_, rfl, rfl⟩, ⟨rfl, ⟨_, rfl, rfl⟩, ⟨rfl, ⟨_, rfl, rfl⟩, ⟨rfl, ⟨_, rfl, rfl⟩, ⟨rfl, ⟨_, rfl, rfl⟩, trivial⟩⟩⟩⟩⟩⟩⟩ rfl ?_
     refine o_litE (eP eS (eP (eI .i64) (eP (eI .i64) (eP (eI .i64) (eP (eI .i64) (eP (eI .i64) (eI .i64))))))) [((bstr [114, 111, 98, 111, 116]), 1, 0, 0, 65535, 1, 0), ((bstr [120]), 2, 0, (-1000000), 1000000, 1, 0), ((bstr [121]), 2, 0, (-1000000), 1000000, 1, 0), ((bstr [104, 101, 97, 100, 105, 110, 103]), 1, 0, 0, 35999, 1, 0), ((bstr [98, 97, 116, 116, 101, 114, 121]), 1, 0, 0, 1000, 1, 0), ((bstr [115, 117, 114, 101]), 1, 0, 0, 100, 2, 100)] rfl rfl rfl z_slT126 z_zero129 ⟨rfl, ⟨_, rfl, rfl⟩, ⟨rfl, ⟨_, rfl, rfl⟩, ⟨rfl, ⟨_, rfl, rfl⟩, ⟨rfl, ⟨_, rfl, rfl⟩, ⟨rfl, ⟨_, rfl, rfl⟩, ⟨rfl, ⟨_, rfl, rfl⟩, trivial⟩⟩⟩⟩⟩⟩ rfl rfl rfl rfl (fun v49 g50 ho51 => Z 3 ?_)
     refine st_ord [0] _ rfl ?_
     exact hk4 _ _ _ ⟨[((bstr [114, 111, 98, 111, 116]), 1, 0, 0, 65535, 1, 0), ((bstr [120]), 2, 0, (-1000000), 1000000, 1, 0), ((bstr [121]), 2, 0, (-1000000), 1000000, 1, 0), ((bstr [104, 101, 97, 100, 105, 110, 103]), 1, 0, 0, 35999, 1, 0), ((bstr [98, 97, 116, 116, 101, 114, 121]), 1, 0, 0, 1000, 1, 0), ((bstr [115, 117, 114, 101]), 1, 0, 0, 100, 2, 100)], _, _, h, LR, rfl, rfl, ho51⟩
    ·refine Z 5 ?_
     refine I2 h (fun h => ?_) (fun h => ?_)
     ·refine st_region ?_
      refine o_build (ps := [(0, [.string (bstr [114, 111, 98, 111, 116])]), (1, [.I 1]), (2, [.I 0]), (3, [.I 0]), (4, [.I 65535]), (5, [.I 1]), (6, [.I 0])]) rfl rfl rfl z_struct129 ⟨rfl, ⟨_, (ev_str z_str12), rfl⟩, ⟨rfl, ⟨_, rfl, rfl⟩, ⟨rfl, ⟨_, rfl, rfl⟩, ⟨rfl, ⟨_, rfl, rfl⟩, ⟨rfl, ⟨_, rfl, rfl⟩, ⟨rfl, ⟨_, rfl, rfl⟩, ⟨rfl, ⟨_, rfl, rfl⟩, trivial⟩⟩⟩⟩⟩⟩⟩ rfl ?_
      refine o_build (ps := [(0, [.string (bstr [99, 111, 100, 101])]), (1, [.I 1]), (2, [.I 0]), (3, [.I 1]), (4, [.I 9999]), (5, [.I 1]), (6, [.I 0])]) rfl rfl rfl z_struct129 ⟨rfl, ⟨_, (ev_str z_str26), rfl⟩, ⟨rfl, ⟨_, rfl, rfl⟩, ⟨rfl, ⟨_, rfl, rfl⟩, ⟨rfl, ⟨_, rfl, rfl⟩, ⟨rfl, ⟨_, rfl, rfl⟩, ⟨rfl, ⟨_, rfl, rfl⟩, ⟨rfl, ⟨_, rfl, rfl⟩, trivial⟩⟩⟩⟩⟩⟩⟩ rfl ?_
      refine o_build (ps := [(0, [.string (bstr [115, 101, 118, 101, 114, 105, 116, 121])]), (1, [.I 1]), (2, [.I 0]), (3, [.I 0]), (4, [.I 4]), (5, [.I 1]), (6, [.I 0])]) rfl rfl rfl z_struct129 ⟨rfl, ⟨_, (ev_str z_str27), rfl⟩, ⟨rfl, ⟨_, rfl, rfl⟩, ⟨rfl, ⟨_, rfl, rfl⟩, ⟨rfl, ⟨_, rfl, rfl⟩, ⟨rfl, ⟨_, rfl, rfl⟩, ⟨rfl, ⟨_, rfl, rfl⟩, ⟨rfl, ⟨_, rfl, rfl⟩, trivial⟩⟩⟩⟩⟩⟩⟩ rfl ?_
      refine o_build (ps := [(0, [.string (bstr [112, 97, 114, 116])]), (1, [.I 1]), (2, [.I 0]), (3, [.I 0]), (4, [.I 255]), (5, [.I 2]), (6, [.I 0])]) rfl rfl rfl z_struct129 ⟨rfl, ⟨_, (ev_str z_str28), rfl⟩, ⟨rfl, ⟨_, rfl, rfl⟩, ⟨rfl, ⟨_, rfl, rfl⟩, ⟨rfl, ⟨_, rfl, rfl⟩, ⟨rfl, ⟨_, rfl, rfl⟩, ⟨rfl, ⟨_, rfl, rfl⟩, ⟨rfl, ⟨_, rfl, rfl⟩, trivial⟩⟩⟩⟩⟩⟩⟩ rfl ?_
      refine o_build (ps := [(0, [.string (bstr [116, 105, 109, 101, 115])]), (1, [.I 1]), (2, [.I 0]), (3, [.I 1]), (4, [.I 1000000]), (5, [.I 2]), (6, [.I 1])]) rfl rfl rfl z_struct129 ⟨rfl, ⟨_, (ev_str z_str29), rfl⟩, ⟨rfl, ⟨_, rfl, rfl⟩, ⟨rfl, ⟨_, rfl, rfl⟩, ⟨rfl, ⟨_, rfl, rfl⟩, ⟨rfl, ⟨_, rfl, rfl⟩, ⟨rfl, ⟨_, rfl, rfl⟩, ⟨rfl, ⟨_, rfl, rfl⟩, trivial⟩⟩⟩⟩⟩⟩⟩ rfl ?_
      refine o_build (ps := [(0, [.string (bstr [116, 101, 120, 116])]), (1, [.I 5]), (2, [.I 0]), (3, [.I 0]), (4, [.I 64]), (5, [.I 1]), (6, [.I 0])]) rfl rfl rfl z_struct129 ⟨rfl, ⟨_, (ev_str z_str30), rfl⟩, ⟨rfl, ⟨_, rfl, rfl⟩, ⟨rfl, ⟨_, rfl, rfl⟩, ⟨rfl, ⟨_, rfl, rfl⟩, ⟨rfl, ⟨_, rfl, rfl⟩, ⟨rfl, ⟨_, rfl, rfl⟩, ⟨rfl, ⟨_, rfl, rfl⟩, trivial⟩⟩⟩⟩⟩⟩⟩ rfl ?_
      refine o_litE (eP eS (eP (eI .i64) (eP (eI .i64) (eP (eI .i64) (eP (eI .i64) (eP (eI .i64) (eI .i64))))))) [((bstr [114, 111, 98, 111, 116]), 1, 0, 0, 65535, 1, 0), ((bstr [99, 111, 100, 101]), 1, 0, 1, 9999, 1, 0), ((bstr [115, 101, 118, 101, 114, 105, 116, 121]), 1, 0, 0, 4, 1, 0), ((bstr [112, 97, 114, 116]), 1, 0, 0, 255, 2, 0), ((bstr [116, 105, 109, 101, 115]), 1, 0, 1, 1000000, 2, 1), ((bstr [116, 101, 120, 116]), 5, 0, 0, 64, 1, 0)] rfl rfl rfl z_slT126 z_zero129 ⟨rfl, ⟨_, rfl, rfl⟩, ⟨rfl, ⟨_, rfl, rfl⟩, ⟨rfl, ⟨_, rfl, rfl⟩, ⟨rfl, ⟨_, rfl, rfl⟩, ⟨rfl, ⟨_, rfl, rfl⟩, ⟨rfl, ⟨_, rfl, rfl⟩, trivial⟩⟩⟩⟩⟩⟩ rfl rfl rfl rfl (fun v52 g53 ho54 => Z 3 ?_)
      refine st_ord [0] _ rfl ?_
      exact hk4 _ _ _ ⟨[((bstr [114, 111, 98, 111, 116]), 1, 0, 0, 65535, 1, 0), ((bstr [99, 111, 100, 101]), 1, 0, 1, 9999, 1, 0), ((bstr [115, 101, 118, 101, 114, 105, 116, 121]), 1, 0, 0, 4, 1, 0), ((bstr [112, 97, 114, 116]), 1, 0, 0, 255, 2, 0), ((bstr [116, 105, 109, 101, 115]), 1, 0, 1, 1000000, 2, 1), ((bstr [116, 101, 120, 116]), 5, 0, 0, 64, 1, 0)], _, _, h, LR, rfl, rfl, ho54⟩
     ·refine Z 2 ?_
      exact hk4 _ _ _ ⟨([] : List (TyA)), _, _, h, LR, rfl, rfl, ho3⟩
theorem ref20_Read_ok {a0 : ByteArray} {r : Int × Int} (h : ref20_Read a0 r) (σ : Sto)  :
    Does prog 27 [.string a0] σ [] (fun v τ gs => gs = [] ∧ .tuple [.I r.1, .I r.2].toArray = v) := by
 refine CO func27 ntmps27 rfl (fun cs fs => Z 10 ?_)
 refine cutS σ (fun (s1 : Int) => ref20_Read_j1 a0 s1 r) (fun s1 => [(0, .string a0), (2, .I 0), (3, .I 0), (4, .I s1)]) (fun s1 => []) (fun s1 τ1 h hl1 => (Z 2 ?_)) (fun hk1 => ?_)
 ·refine st_cut (fun ρ τ2 gs => ∃ (s2 : Bool), ref20_Read_j2 a0 s1 s2 r ∧ τ1.Le τ2 ∧ ESub ρ [(0, .string a0), (2, .I 0), (3, .I 0), (4, .I s1), (31, .bool s2)] ∧ gs = []) ?_ (fun hk2 => ?_)
  ·rintro ρ2 τ2 gs2 ⟨s2, h, hl2, hρ, rfl⟩
   refine st_es hρ ?_
   refine I2 h (fun h => ?_) (fun h => ?_)
   ·refine Z 5 ?_
    obtain rfl := h.symm
    exact RT func27 rfl (hl1.trans hl2) ⟨rfl, rfl⟩
   ·refine Z 2 ?_
    refine cutS τ2 (fun (s3 : Unit) => ref20_Read_j3 a0 s1 s3 r) (fun s3 => [(0, .string a0), (2, .I 0), (3, .I 0), (4, .I s1)]) (fun s3 => []) (fun s3 τ3 h hl3 => (Z 5 ?_)) (fun hk3 => ?_)
    ·refine st_cut (fun ρ τ4 gs => ∃ (s4 : Int), ref20_Read_j4 s1 s4 r ∧ τ3.Le τ4 ∧ ESub ρ [(2, .I 0), (3, .I 0), (4, .I s1), (6, .I s4)] ∧ gs = []) ?_ (fun hk4 => ?_)
     ·rintro ρ4 τ4 gs4 ⟨s4, h, hl4, hρ, rfl⟩
      refine st_es hρ (Z 6 ?_)
      refine I2 h (fun h => ?_) (fun h => ?_)
      ·refine Z 6 ?_
       obtain rfl := h.symm
       exact RT func27 rfl (((hl1.trans hl2).trans hl3).trans hl4) ⟨rfl, rfl⟩
      ·refine Z 7 ?_
       refine I2 h (fun h => ?_) (fun h => ?_)
       ·refine Z 5 ?_
        obtain rfl := h.symm
        exact RT func27 rfl (((hl1.trans hl2).trans hl3).trans hl4) ⟨rfl, rfl⟩
       ·refine Z 8 ?_
        obtain rfl := h.symm
        exact RT func27 rfl (((hl1.trans hl2).trans hl3).trans hl4) ⟨rfl, rfl⟩
     refine Z 5 ?_
     obtain ⟨e5, hL5, hA5⟩ := h
     refine st_loop hL5 (fun (s5 : Int × Int) ρ τ5 gs => τ3.Le τ5 ∧ ESub ρ [(0, .string a0), (2, .I 0), (3, .I 0), (4, .I s1), (6, .I s5.1), (7, .I s5.2)] ∧ gs = []) ⟨LR, rfl, rfl⟩ ?_
     rintro s5 o5 h he5 ρ5 τ5 gs5 ⟨hl5, hρ, rfl⟩ hn5
     refine st_es hρ (Z 8 ?_)
     refine I2 h (fun h => ?_) (fun h => ?_)
     ·refine Z 7 ?_
      obtain ⟨q6, hf7, h⟩ := h
      refine o_indexS rfl rfl rfl underlying9 rfl rfl hf7 (Z 13 ?_)
      refine I2 h (fun h => ?_) (fun h => ?_)
      ·refine Z 5 ?_
       obtain rfl := he5 _ h
       replace h := hA5
       obtain rfl := h.symm
       exact RT func27 rfl (((hl1.trans hl2).trans hl3).trans hl5) ⟨rfl, rfl⟩
      ·refine Z 14 ?_
       exact hn5 _ _ _ _ h ⟨hl5, rfl, rfl⟩
     ·refine st_exit rfl ?_
      obtain rfl := he5 _ h
      replace h := hA5
      exact hk4 _ _ _ ⟨s5.1, h, hl5, rfl, rfl⟩
    refine Z 5 ?_
    obtain ⟨e10, hL10, hA10⟩ := h
    refine st_loop hL10 (fun (s10 : Int) ρ τ10 gs => τ2.Le τ10 ∧ ESub ρ [(0, .string a0), (2, .I 0), (3, .I 0), (4, .I s1), (5, .I s10)] ∧ gs = []) ⟨LR, rfl, rfl⟩ ?_
    rintro s10 o10 h he10 ρ10 τ10 gs10 ⟨hl10, hρ, rfl⟩ hn10
    refine st_es hρ (Z 8 ?_)
    refine I2 h (fun h => ?_) (fun h => ?_)
    ·refine Z 4 ?_
     refine cutS τ10 (fun (s11 : Bool) => ref20_Read_j7 s10 s11 o10) (fun s11 => [(0, .string a0), (2, .I 0), (3, .I 0), (4, .I s1), (5, .I s10), (48, .bool s11)]) (fun s11 => []) (fun s11 τ11 h hl11 => ?_) (fun hk11 => ?_)
     ·refine I2 h (fun h => ?_) (fun h => ?_)
      ·refine Z 5 ?_
       obtain rfl := he10 _ h
       replace h := hA10
       obtain rfl := h.symm
       exact RT func27 rfl (((hl1.trans hl2).trans hl10).trans hl11) ⟨rfl, rfl⟩
      ·refine Z 7 ?_
       exact hn10 _ _ _ _ h ⟨(hl10.trans hl11), rfl, rfl⟩
     refine Z 3 ?_
     obtain ⟨q12, hf13, h⟩ := h
     refine o_indexS rfl rfl rfl underlying9 rfl rfl hf13 ?_
     refine o_ibin (v := .bool (decide (q12 < 48))) rfl rfl rfl rfl rfl rfl ?_
     refine M2 h (fun h => ?_) (fun h => ?_)
     ·refine Z 6 ?_
      exact hk11 _ _ _ ⟨true, h, LR, rfl, rfl⟩
     ·refine Z 2 ?_
      obtain ⟨q14, hf15, h⟩ := h
      refine o_indexS rfl rfl rfl underlying9 rfl rfl hf15 (Z 3 ?_)
      exact hk11 _ _ _ ⟨(decide (57 < q14)), h, LR, rfl, rfl⟩
    ·refine st_exit rfl ?_
     obtain rfl := he10 _ h
     replace h := hA10
     exact hk3 _ _ _ ⟨(), h, hl10, rfl, rfl⟩
  refine Z 5 ?_
  refine M2 h (fun h => ?_) (fun h => ?_)
  ·refine Z 11 ?_
   exact hk2 _ _ _ ⟨true, h, LR, rfl, rfl⟩
  ·refine Z 2 ?_
   obtain ⟨q18, hf19, h⟩ := h
   refine o_indexS rfl rfl rfl underlying9 rfl rfl hf19 ?_
   refine o_ibin (v := .bool (decide (q18 = 48))) rfl rfl rfl rfl rfl rfl ?_
   refine M2 h (fun h => ?_) (fun h => ?_)
   ·refine Z 6 ?_
    exact hk2 _ _ _ ⟨(decide (1 < (a0.size : Int))), h, LR, rfl, rfl⟩
   ·refine Z 6 ?_
    exact hk2 _ _ _ ⟨false, h, LR, rfl, rfl⟩
 refine st_seq ?_
 refine cutS σ (fun (s20 : Bool) => ref20_Read_j8 a0 s20 r) (fun s20 => [(0, .string a0), (2, .I 0), (3, .I 0), (4, .I 0), (16, .bool s20)]) (fun s20 => []) (fun s20 τ20 h hl20 => ?_) (fun hk20 => ?_)
 ·refine I2 h (fun h => ?_) (fun h => ?_)
  ·refine Z 3 ?_
   exact hk1 _ _ _ ⟨1, h, hl20, rfl, rfl⟩
  ·refine st_skip ?_
   exact hk1 _ _ _ ⟨0, h, hl20, rfl, rfl⟩
 refine Z 4 ?_
 refine M2 h (fun h => ?_) (fun h => ?_)
 ·refine o_move rfl rfl rfl rfl ?_
  obtain ⟨q21, hf22, h⟩ := h
  refine o_indexS rfl rfl rfl underlying9 rfl rfl hf22 (Z 3 ?_)
  exact hk20 _ _ _ ⟨(decide (q21 = 45)), h, LR, rfl, rfl⟩
 ·refine Z 5 ?_
  exact hk20 _ _ _ ⟨false, h, LR, rfl, rfl⟩
theorem ref20_numbers_ok {a0 : List ByteArray} {v1 : Value} {r : List Int × Int} (h : ref20_numbers a0 r) (σ : Sto) (hs2 : Sl kS σ v1 a0) :
    Does prog 100 [v1] σ [] (fun v τ gs => ∃ (v36 : Value), gs = [] ∧ .tuple [v36, .I r.2].toArray = v ∧ Sl (kI .i64) τ v36 r.1) := by
 refine CO func100 ntmps100 rfl (fun cs fs => Z 10 ?_)
 refine st_cut (fun ρ τ3 gs => ∃ (s3 : List Int) (v4 : Value) (g5 : Grp), ref20_numbers_j1 s3 r ∧ σ.Le τ3 ∧ ESub ρ [(2, .N0), (3, .I 0), (4, v4)] ∧ gs = [g5] ∧ Ow (kI .i64) 3 τ3 v4 s3 g5) ?_ (fun hk3 => ?_)
 ·rintro ρ3 τ3 gs3 ⟨s3, v4, g5, h, hl3, hρ, rfl, ho6⟩
  refine st_es hρ (Z 6 ?_)
  refine st_freeze (fun τ7 hl8 hg9 => ?_)
  have hs10 := ho6.freeze hl8 hg9
  obtain rfl := h.symm
  exact RT func100 rfl (hl3.trans hl8) ⟨_, rfl, rfl, hs10⟩
 refine Z 4 ?_
 obtain ⟨e13, hL13, hA13⟩ := h
 refine st_addNil ?_
 refine st_loop hL13 (fun (s13 : K7) ρ τ13 gs => σ.Le τ13 ∧ ∃ (v14 : Value) (g15 : Grp), ESub ρ [(0, v1), (2, .N0), (3, .I 0), (4, v14), (5, .I s13.2)] ∧ gs = [g15] ∧ Ow (kI .i64) 3 τ13 v14 s13.1 g15) ⟨LR, _, _, rfl, rfl, Ow.nil⟩ ?_
 rintro s13 o13 h he13 ρ13 τ13 gs13 ⟨hl13, v14, g15, hρ, rfl, ho16⟩ hn13
 refine st_es hρ (Z 5 ?_)
 refine o_lenI rfl rfl rfl z_slT67 rfl (hs2.up hl13) (Z 2 ?_)
 refine I2 h (fun h => ?_) (fun h => ?_)
 ·refine Z 7 ?_
  obtain ⟨q17, hf18, h⟩ := h
  refine o_index rfl rfl rfl z_slT67 rfl rfl (hs2.up hl13) rfl hf18 (fun b19 of20 vs hc21 hrep => ?_)
  obtain rfl := hrep
  refine o_loadI (v := .string q17) rfl rfl rfl z_sc9 rfl (hc21 0 _ rfl) ?_
  obtain ⟨r22, hr23, h⟩ := h
  refine SC z_en27 (ref20_Read_ok hr23 τ13) ?_
  rintro _ τ24 _ hl25 ⟨rfl, rfl⟩
  refine Z 12 ?_
  refine I2 h (fun h => ?_) (fun h => ?_)
  ·refine Z 6 ?_
   refine st_ord [] _ rfl ?_
   obtain rfl := he13 _ h
   replace h := hA13
   obtain rfl := h.symm
   exact RT func100 rfl (hl13.trans hl25) ⟨_, rfl, rfl, Sl.nil⟩
  ·refine Z 4 ?_
   refine o_litE (eI .i64) [r22.1] rfl rfl rfl z_slT24 z_zero3 ⟨rfl, ⟨_, rfl, rfl⟩, trivial⟩ rfl rfl rfl rfl (fun v26 g27 ho28 => ?_)
   obtain ⟨hf32, hf33, h⟩ := h
   refine st_ord [1, 0] _ rfl ?_
   refine o_append (dk := (kI .i64)) (xs := s13.1) (ys := [r22.1]) rfl rfl rfl rfl z_slT24 rfl (ho16.up hl25) rfl (Ow.src (j := 1) ho28 rfl) hf32 hf33 (fun v29 g30 ho31 => Z 8 ?_)
   refine st_ord [0] _ rfl ?_
   exact hn13 _ _ _ _ h ⟨(hl13.trans hl25), _, _, rfl, rfl, ho31⟩
 ·refine st_exit rfl ?_
  obtain rfl := he13 _ h
  replace h := hA13
  exact hk3 _ _ _ ⟨s13.1, _, _, h, hl13, rfl, rfl, ho16⟩
theorem ref20_digit_ok {a0 r : Int} (h : ref20_digit a0 r) (σ : Sto)  :
    Does prog 111 [.int .u8 a0] σ [] (fun v τ gs => gs = [] ∧ .int .u8 r = v) := by
 refine CO func111 ntmps111 rfl (fun cs fs => Z 10 ?_)
 refine I2 h (fun h => ?_) (fun h => ?_)
 ·refine Z 6 ?_
  obtain rfl := h.symm
  exact RT func111 rfl LR ⟨rfl, rfl⟩
 ·refine Z 7 ?_
  obtain rfl := h.symm
  exact RT func111 rfl LR ⟨rfl, rfl⟩
theorem ref20_unhex_ok {a0 : ByteArray} {r : ByteArray × Int} (h : ref20_unhex a0 r) (σ : Sto)  :
    Does prog 101 [.string a0] σ [] (fun v τ gs => gs = [] ∧ .tuple [.string r.1, .I r.2].toArray = v) := by
 refine CO func101 ntmps101 rfl (fun cs fs => Z 2 ?_)
 refine o_assign rfl rfl rfl (ev_str z_str1) (Z 6 ?_)
 refine o_sbin (v := .bool (decide (a0 = (bstr [45])))) rfl rfl rfl rfl (ev_str z_str33) rfl ?_
 refine st_end ?_
 refine I2 h (fun h => ?_) (fun h => ?_)
 ·refine Z 2 ?_
  refine o_assign rfl rfl rfl (ev_str z_str1) (Z 2 ?_)
  obtain rfl := h.symm
  exact RT func101 rfl LR ⟨rfl, rfl⟩
 ·refine Z 3 ?_
  refine cutS σ (fun (s1 : Bool) => ref20_unhex_j1 a0 s1 r) (fun s1 => [(0, .string a0), (2, .E0), (3, .I 0), (18, .bool s1)]) (fun s1 => []) (fun s1 τ1 h hl1 => ?_) (fun hk1 => ?_)
  ·refine I2 h (fun h => ?_) (fun h => ?_)
   ·refine Z 2 ?_
    refine o_assign rfl rfl rfl (ev_str z_str1) (Z 2 ?_)
    obtain rfl := h.symm
    exact RT func101 rfl hl1 ⟨rfl, rfl⟩
   ·refine Z 10 ?_
    refine st_cut (fun ρ τ2 gs => ∃ (s2 : List Int) (v3 : Value) (g4 : Grp), ref20_unhex_j2 s2 r ∧ τ1.Le τ2 ∧ ESub ρ [(2, .E0), (3, .I 0), (4, v3)] ∧ gs = [g4] ∧ Ow (kI .u8) 5 τ2 v3 s2 g4) ?_ (fun hk2 => ?_)
    ·rintro ρ2 τ2 gs2 ⟨s2, v3, g4, h, hl2, hρ, rfl, ho5⟩
     refine st_es hρ (Z 3 ?_)
     refine st_freeze (fun τ6 hl7 hg8 => ?_)
     have hs9 := ho5.freeze hl7 hg8
     refine o_bstr (xs := s2) rfl rfl rfl underlying27 underlying5 underlying9 rfl hs9 (Z 3 ?_)
     obtain rfl := h.symm
     exact RT func101 rfl ((hl1.trans hl2).trans hl7) ⟨rfl, rfl⟩
    refine Z 4 ?_
    obtain ⟨e11, hL11, hA11⟩ := h
    refine st_addNil ?_
    refine st_loop hL11 (fun (s11 : K43) ρ τ11 gs => τ1.Le τ11 ∧ ∃ (v12 : Value) (g13 : Grp), ESub ρ [(0, .string a0), (2, .E0), (3, .I 0), (4, v12), (5, .I s11.2.1), (6, .I s11.2.2)] ∧ gs = [g13] ∧ Ow (kI .u8) 5 τ11 v12 s11.1 g13) ⟨LR, _, _, rfl, rfl, Ow.nil⟩ ?_
    rintro s11 o11 h he11 ρ11 τ11 gs11 ⟨hl11, v12, g13, hρ, rfl, ho14⟩ hn11
    refine st_es hρ (Z 8 ?_)
    refine I2 h (fun h => ?_) (fun h => ?_)
    ·refine Z 2 ?_
     refine st_cut (fun ρ τ15 gs => ∃ (s15 : K7) (v16 : Value) (g17 : Grp), ref20_unhex_j4 s11 s15 o11 ∧ τ11.Le τ15 ∧ ESub ρ [(0, .string a0), (2, .E0), (3, .I 0), (4, v16), (5, .I s15.2), (6, .I s11.2.2)] ∧ gs = [g17] ∧ Ow (kI .u8) 5 τ15 v16 s15.1 g17) ?_ (fun hk15 => ?_)
     ·rintro ρ15 τ15 gs15 ⟨s15, v16, g17, h, hl15, hρ, rfl, ho18⟩
      refine st_es hρ (Z 5 ?_)
      exact hn11 _ _ _ _ h ⟨(hl11.trans hl15), _, _, rfl, rfl, ho18⟩
     refine Z 6 ?_
     refine cutS τ11 (fun (s19 : Int) => ref20_unhex_j5 s11 s19 o11) (fun s19 => [(0, .string a0), (2, .E0), (3, .I 0), (4, v12), (5, .I s11.2.1), (6, .I s11.2.2), (7, .I s19)]) (fun s19 => [g13]) (fun s19 τ19 h hl19 => (Z 6 ?_)) (fun hk19 => ?_)
     ·refine I2 h (fun h => ?_) (fun h => ?_)
      ·refine Z 2 ?_
       refine o_assign rfl rfl rfl (ev_str z_str1) (Z 2 ?_)
       refine st_ord [] _ rfl ?_
       obtain rfl := he11 _ h
       replace h := hA11
       obtain rfl := h.symm
       exact RT func101 rfl ((hl1.trans hl11).trans hl19) ⟨rfl, rfl⟩
      ·refine Z 15 ?_
       refine I2 h (fun h => ?_) (fun h => ?_)
       ·refine Z 5 ?_
        refine o_litE (eI .u8) [(u8.wrap (i64.wrap ((i64.wrap (16 * s11.2.1)) + s19)))] rfl rfl rfl z_slT27 z_zero5 ⟨rfl, ⟨_, rfl, rfl⟩, trivial⟩ rfl rfl rfl rfl (fun v20 g21 ho22 => ?_)
        obtain ⟨hf26, hf27, h⟩ := h
        refine st_ord [1, 0] _ rfl ?_
        refine o_append (dk := (kI .u8)) (xs := s11.1) (ys := [(u8.wrap (i64.wrap ((i64.wrap (16 * s11.2.1)) + s19)))]) rfl rfl rfl rfl z_slT27 rfl (ho14.up hl19) rfl (Ow.src (j := 1) ho22 rfl) hf26 hf27 (fun v23 g24 ho25 => Z 6 ?_)
        refine st_ord [0] _ rfl ?_
        exact hk15 _ _ _ ⟨((s11.1 ++ [(u8.wrap (i64.wrap ((i64.wrap (16 * s11.2.1)) + s19)))]), 0), _, _, h, hl19, rfl, rfl, ho25⟩
       ·refine Z 2 ?_
        exact hk15 _ _ _ ⟨(s11.1, (i64.wrap ((i64.wrap (16 * s11.2.1)) + s19))), _, _, h, hl19, rfl, rfl, (ho14.up hl19)⟩
     refine Z 4 ?_
     obtain ⟨e28, hL28, hA28⟩ := h
     refine st_loop hL28 (fun (s28 : Int × Int) ρ τ28 gs => τ11.Le τ28 ∧ ESub ρ [(0, .string a0), (2, .E0), (3, .I 0), (4, v12), (5, .I s11.2.1), (6, .I s11.2.2), (7, .I s28.1), (8, .I s28.2)] ∧ gs = [g13]) ⟨LR, rfl, rfl⟩ ?_
     rintro s28 o28 h he28 ρ28 τ28 gs28 ⟨hl28, hρ, rfl⟩ hn28
     refine st_es hρ (Z 6 ?_)
     refine I2 h (fun h => ?_) (fun h => ?_)
     ·refine Z 2 ?_
      refine cutS τ28 (fun (s29 : Int) => ref20_unhex_j7 s28 s29 o28) (fun s29 => [(0, .string a0), (2, .E0), (3, .I 0), (4, v12), (5, .I s11.2.1), (6, .I s11.2.2), (7, .I s29), (8, .I s28.2)]) (fun s29 => [g13]) (fun s29 τ29 h hl29 => (Z 5 ?_)) (fun hk29 => ?_)
      ·exact hn28 _ _ _ _ h ⟨(hl28.trans hl29), rfl, rfl⟩
      refine Z 2 ?_
      obtain ⟨r30, hr31, q34, hf35, h⟩ := h
      refine st_draw 7 (dl [.v (.I s28.2), .v (.int .u8 (u8.wrap s28.2)), .v (.int .u8 r30), .v (.string a0), .v (.I s11.2.2), .v (.int .u8 q34), .v (.bool (decide (r30 = q34)))]) (fun _ _ => []) z_mix rfl (dl_mono trivial) (allB_cons (allB_cons (allB_cons (allB_cons (allB_cons (allB_cons (allB_cons allB_nil (p1 dA)) (p1 dA)) ?_) (p1 dA)) (p1 dA)) ?_) (p1 dA)) ?_
      ·intro ρ' τ pq rs hl hd hq hk
       obtain ⟨_, e1, rfl⟩ := hd 1 rfl
       refine st_call (foot := []) rfl rfl rfl rfl (evs_cons e1 rfl) rfl (callV_fn z_en111 (ref20_digit_ok hr31 τ)) ?_
       rintro _ τ32 _ hl33 ⟨rfl, rfl⟩
       exact st_addNil (hk _ _ hl33 rfl)
      ·intro ρ' τ pq rs hl hd hq hk
       obtain ⟨_, e3, rfl⟩ := hd 3 rfl
       obtain ⟨_, e4, rfl⟩ := hd 4 rfl
       refine o_indexS rfl rfl rfl underlying9 e3 e4 hf35 ?_
       exact st_addNil (hk _ _ LR rfl)
      intro ρ' τ36 vals hl36 hv hq
      refine st_ord [0] _ rfl ?_
      refine st_env (ρ' := [(35, .bool (decide (r30 = q34))), (0, .string a0), (2, .E0), (3, .I 0), (4, v12), (5, .I s11.2.1), (6, .I s11.2.2), (7, .I s28.1), (8, .I s28.2)]) ⟨(lv1 hv 6 rfl rfl), oT hq 0, oT hq 2, oT hq 3, oT hq 4, oT hq 5, oT hq 6, oT hq 7, oT hq 8, trivial⟩ ?_
      refine st_end ?_
      refine I2 h (fun h => ?_) (fun h => ?_)
      ·refine Z 5 ?_
       exact hk29 _ _ _ ⟨s28.2, h, hl36, rfl, rfl⟩
      ·refine Z 2 ?_
       exact hk29 _ _ _ ⟨s28.1, h, hl36, rfl, rfl⟩
     ·refine st_exit rfl ?_
      obtain rfl := he28 _ h
      replace h := hA28
      exact hk19 _ _ _ ⟨s28.1, h, hl28, rfl, rfl⟩
    ·refine st_exit rfl ?_
     obtain rfl := he11 _ h
     replace h := hA11
     exact hk2 _ _ _ ⟨s11.1, _, _, h, hl11, rfl, rfl, ho14⟩
  refine Z 2 ?_
  refine o_sbin (v := .bool (decide (a0 = (bstr [])))) rfl rfl rfl rfl (ev_str z_str1) rfl ?_
  refine M2 h (fun h => ?_) (fun h => ?_)
  ·refine Z 6 ?_
   exact hk1 _ _ _ ⟨true, h, LR, rfl, rfl⟩
  ·refine Z 6 ?_
   exact hk1 _ _ _ ⟨(decide (((a0.size : Int).tmod 2) = 1)), h, LR, rfl, rfl⟩
theorem ref20_value_ok {a0 : TyR} {a1 : TyA} {a2 : ByteArray} {v1 v2 : Value} {r : (TyR) × Int} (h : ref20_value a0 a1 a2 r) (σ : Sto) (hs3 : Sl (kA .i64 2) σ v1 a0.2.2.1) (hs4 : Sl (kI .i64) σ v2 a0.2.2.2.1) :
    Does prog 68 [.agg (lM a0 v1 v2).toArray, .agg (lA a1).toArray, .string a2] σ [] (fun v τ gs => ∃ (v113 v114 : Value), gs = [] ∧ .tuple [.agg (lM r.1 v113 v114).toArray, .I r.2].toArray = v ∧ Sl (kA .i64 2) τ v113 r.1.2.2.1 ∧ Sl (kI .i64) τ v114 r.1.2.2.2.1) := by
 refine CO func68 ntmps68 rfl (fun cs fs => Z 2 ?_)
 refine o_box (cs := (lM a0 v1 v2)) rfl rfl rfl rfl rfl (fun b5 => ?_)
 refine o_boxC rfl rfl rfl rfl rfl rfl (fun b6 => ?_)
 refine o_alloc rfl rfl rfl z_zero37 (fun b7 => Z 7 ?_)
 refine st_cut (fun ρ τ8 gs => ∃ (s8 : K28) (v9 v11 : Value), ref20_value_j1 a0 s8 r ∧ σ.Le τ8 ∧ ESub ρ [(3, .Pb b5), (6, .Pb b7), (7, .I 0), (8, .I s8.1)] ∧ gs = [[(b5, .cells #[.I a0.1, .I s8.2.1, .I s8.2.2.1, .I s8.2.2.2.1, .I s8.t4.1, .I s8.t4.2.1, .I s8.t4.2.2.1, v9, v11, .string s8.t4.t4.2.1, .string s8.t4.t4.2.2] 37 (0, 0))], [(b7, .cells lY.toArray 37 (0, 0))]] ∧ Sl (kA .i64 2) τ8 v9 s8.t4.2.2.2.1 ∧ Sl (kI .i64) τ8 v11 s8.t4.t4.1) ?_ (fun hk8 => ?_)
 ·rintro ρ8 τ8 gs8 ⟨s8, v9, v11, h, hl8, hρ, rfl, hs10, hs12⟩
  refine st_es hρ (ZZ 4 [0] ?_)
  refine o_store (j := 1) (vs := [.I a0.1, .I s8.2.1, .I s8.2.2.1, .I s8.2.2.2.1, .I s8.t4.1, .I s8.t4.2.1, .I s8.t4.2.2.1, v9, v11, .string s8.t4.t4.2.1, .string s8.t4.t4.2.2]) (cs' := [.I a0.1, .I s8.2.1, .I s8.2.2.1, .I s8.2.2.2.1, .I s8.t4.1, .I s8.t4.2.1, .I s8.t4.2.2.1, v9, v11, .string s8.t4.t4.2.1, .string s8.t4.t4.2.2]) rfl rfl rfl z_size37 rfl rfl rfl (o4 (ones_cons rfl (ones_cons rfl (ones_cons rfl (ones_cons hs10.one' (ones_cons hs12.one' (ones_cons rfl (ones_cons rfl ones_nil)))))))) rfl rfl rfl (Z 2 ?_)
  obtain rfl := h.symm
  exact RC [.agg #[.I a0.1, .I s8.2.1, .I s8.2.2.1, .I s8.2.2.2.1, .I s8.t4.1, .I s8.t4.2.1, .I s8.t4.2.2.1, v9, v11, .string s8.t4.t4.2.1, .string s8.t4.t4.2.2], .I s8.1] func68 ⟨cN 1 z_agg37, rfl, trivial⟩ hl8 ⟨_, _, rfl, rfl, hs10, hs12⟩
 refine ZZ 11 [1] ?_
 refine I2 h (fun h => ?_) (fun h => ?_)
 ·refine Z 3 ?_
  obtain ⟨r13, hr14, h⟩ := h
  refine SC z_en20 (ref20_Split_ok hr14 σ) ?_
  rintro _ τ15 _ hl16 ⟨v17, rfl, rfl, hs18⟩
  refine Z 6 ?_
  obtain ⟨e19, hL19, hA19⟩ := h
  refine st_ord [2, 0] _ rfl ?_
  refine st_loop hL19 (fun (s19 : Int × List (List Int)) ρ τ19 gs => τ15.Le τ19 ∧ ∃ (v20 : Value), ESub ρ [(3, .Pb b5), (6, .Pb b7), (7, .I 0), (8, .I 0), (9, v17), (10, .I s19.1)] ∧ gs = [[(b5, .cells (lM a0 v20 v2).toArray 37 (0, 0))], [(b7, .cells lY.toArray 37 (0, 0))]] ∧ Sl (kA .i64 2) τ19 v20 s19.2) ⟨LR, _, rfl, rfl, (hs3.up hl16)⟩ ?_
  rintro s19 o19 h he19 ρ19 τ19 gs19 ⟨hl19, v20, hρ, rfl, hs21⟩ hn19
  refine st_es hρ (Z 5 ?_)
  refine o_lenI rfl rfl rfl z_slT67 rfl (hs18.up hl19) (Z 2 ?_)
  refine I2 h (fun h => ?_) (fun h => ?_)
  ·refine Z 7 ?_
   obtain ⟨q22, hf23, h⟩ := h
   refine o_index rfl rfl rfl z_slT67 rfl rfl (hs18.up hl19) rfl hf23 (fun b24 of25 vs hc26 hrep => ?_)
   obtain rfl := hrep
   refine o_loadI (v := .string q22) rfl rfl rfl z_sc9 rfl (hc26 0 _ rfl) ?_
   obtain ⟨r27, hr28, h⟩ := h
   refine SC z_en20 (ref20_Split_ok hr28 τ19) ?_
   rintro _ τ29 _ hl30 ⟨v31, rfl, rfl, hs32⟩
   refine Z 6 ?_
   refine o_lenI rfl rfl rfl z_slT67 rfl hs32 (Z 2 ?_)
   refine I2 h (fun h => ?_) (fun h => ?_)
   ·refine ZZ 3 [0] ?_
    refine o_store (j := 1) (vs := (lM a0 v20 v2)) (cs' := (lM a0 v20 v2)) rfl rfl rfl z_size37 rfl rfl rfl (o4 (ones_cons rfl (ones_cons rfl (ones_cons rfl (ones_cons (hs21.up hl30).one' (ones_cons (hs4.up ((hl16.trans hl19).trans hl30)).one' (ones_cons rfl (ones_cons rfl ones_nil)))))))) rfl rfl rfl (Z 2 ?_)
    obtain rfl := he19 _ h
    replace h := hA19
    obtain rfl := h.symm
    exact RC [.agg (lM a0 v20 v2).toArray, .I 3] func68 ⟨cN 1 z_agg37, rfl, trivial⟩ ((hl16.trans hl19).trans hl30) ⟨_, _, rfl, rfl, (hs21.up hl30), (hs4.up ((hl16.trans hl19).trans hl30))⟩
   ·refine Z 4 ?_
    obtain ⟨r33, hr34, h⟩ := h
    refine SC z_en100 (ref20_numbers_ok hr34 τ29 hs32) ?_
    rintro _ τ35 _ hl36 ⟨v37, rfl, rfl, hs38⟩
    refine Z 12 ?_
    refine I2 h (fun h => ?_) (fun h => ?_)
    ·refine ZZ 4 [0] ?_
     refine o_store (j := 1) (vs := (lM a0 v20 v2)) (cs' := (lM a0 v20 v2)) rfl rfl rfl z_size37 rfl rfl rfl (o4 (ones_cons rfl (ones_cons rfl (ones_cons rfl (ones_cons (hs21.up (hl30.trans hl36)).one' (ones_cons (hs4.up (((hl16.trans hl19).trans hl30).trans hl36)).one' (ones_cons rfl (ones_cons rfl ones_nil)))))))) rfl rfl rfl (Z 2 ?_)
     obtain rfl := he19 _ h
     replace h := hA19
     obtain rfl := h.symm
     exact RC [.agg (lM a0 v20 v2).toArray, .I r33.2] func68 ⟨cN 1 z_agg37, rfl, trivial⟩ (((hl16.trans hl19).trans hl30).trans hl36) ⟨_, _, rfl, rfl, (hs21.up (hl30.trans hl36)), (hs4.up (((hl16.trans hl19).trans hl30).trans hl36))⟩
    ·refine st_skip ?_
     obtain ⟨hf48, hf49, q53, hf54, q58, hf59, hf73, hf74, h⟩ := h
     refine st_d41 [[(b5, .cells (lM a0 v20 v2).toArray 37 (0, 0))], [(b7, .cells lY.toArray 37 (0, 0))]] [] 13 3 [some (0, 0), none, none, some (0, 1), none, none, none, none, none, none, none, none, some (0, 2)] [none, none, none, none, none, none, none, none, none, none, none, none, none] [[none, some 53, some 56, some 65]] [.t fun _ _ => True, .v (.pointer (some ⟨b5, 7, none⟩)), .v (v20), .t fun _ _ => True, .v (v37), .t fun τ v => ∃ (b55 of56 : Nat) (vsb55 : K10), (.pointer (some ⟨b55, of56, none⟩) : Value) = v ∧ CelN τ ⟨b55, of56, none⟩ vsb55 ∧ (kI .i64).rep τ vsb55 q53, .v (.I q53), .v (v37), .t fun τ v => ∃ (b60 of61 : Nat) (vsb60 : K10), (.pointer (some ⟨b60, of61, none⟩) : Value) = v ∧ CelN τ ⟨b60, of61, none⟩ vsb60 ∧ (kI .i64).rep τ vsb60 q58, .v (.I q58), .v (.agg #[.I q53, .I q58]), .t fun τ v => ∃ (v63 : Value), (v63 : Value) = v ∧ Sl (kA .i64 2) τ v63 [[q53, q58]], .t fun _ _ => True] [[fun τ u F => F = [], fun τ u F => ∃ (v42 : Value) (g43 : Grp), F = [g43] ∧ v42 = u ∧ Ow (kA .i64 2) 134 τ v42 ([] : List (List Int)) g43, fun τ u F => ∃ (v50 : Value) (g51 : Grp), F = [g51] ∧ v50 = u ∧ Ow (kA .i64 2) 134 τ v50 (([] : List (List Int)) ++ s19.2) g51, fun τ u F => ∃ (v75 : Value) (g76 : Grp), F = [g76] ∧ v75 = u ∧ Ow (kA .i64 2) 134 τ v75 ((([] : List (List Int)) ++ s19.2) ++ [[q53, q58]]) g76]] rfl z_mix rfl ⟨fun _ _ _ _ _ => trivial, ⟨fun _ _ _ _ _ => trivial, ⟨fun _ _ _ hl ⟨b55, of56, vsb55, hv, hc57, hrepb55⟩ => ⟨b55, of56, vsb55, hv, hc57.up hl, Kd.mono _ hl hrepb55⟩, ⟨fun _ _ _ hl ⟨b60, of61, vsb60, hv, hc62, hrepb60⟩ => ⟨b60, of61, vsb60, hv, hc62.up hl, Kd.mono _ hl hrepb60⟩, ⟨fun _ _ _ hl ⟨v63, hv, hs69⟩ => ⟨v63, hv, hs69.up hl⟩, ⟨fun _ _ _ _ _ => trivial, trivial⟩⟩⟩⟩⟩⟩ ⟨⟨fun _ _ _ _ hl h => h, ⟨fun _ _ _ _ hl h => (let ⟨v42, g43, hF, hU, ho44⟩ := h; ⟨v42, g43, hF, hU, ho44.up hl⟩), ⟨fun _ _ _ _ hl h => (let ⟨v50, g51, hF, hU, ho52⟩ := h; ⟨v50, g51, hF, hU, ho52.up hl⟩), ⟨fun _ _ _ _ hl h => (let ⟨v75, g76, hF, hU, ho77⟩ := h; ⟨v75, g76, hF, hU, ho77.up hl⟩), trivial⟩⟩⟩⟩, trivial⟩ rfl rfl ?_ (allB_cons (allB_cons (allB_cons (allB_cons (allB_cons (allB_cons (allB_cons (allB_cons (allB_cons (allB_cons (allB_cons (allB_cons (allB_cons allB_nil ?_) (p4 dA)) ?_) ?_) (p4 dA)) ?_) ?_) (p4 dA)) ?_) ?_) ?_) ?_) ?_) ?_
     ·exact rfl
     ·intro ρ' τ u Fv pq rs hl hI hu hd hq hw hk
      have hI0 := hI
      obtain rfl := hI
      refine o_lit (dk := (kA .i64 2)) (xs := ([] : List (List Int))) (ps := []) (cs := []) rfl rfl rfl z_slT35 z_zero134 trivial rfl rfl rfl rfl Kd.Many.nil (fun v39 g40 ho41 => ?_)
      refine st_ord [1, 1, 0, 0] _ rfl ?_
      exact hk _ _ [g40] LR trivial (by exact ⟨v39, g40, rfl, rfl, ho41⟩)
     ·intro ρ' τ pq rs hl hd hq hw hk
      obtain ⟨_, e1, rfl⟩ := hd 1 rfl _ rfl
      refine o_load (j := 0) (v := v20) rfl rfl rfl z_sc35 e1 rfl rfl ?_
      exact hk _ _ LR rfl
     ·intro ρ' τ u Fv pq rs hl hI hu hd hq hw hk
      obtain ⟨_, e2, rfl⟩ := hd 2 rfl _ rfl
      obtain ⟨v42, g43, rfl, rfl, ho44⟩ := hI
      refine st_ord [2, 0, 0, 0] _ rfl ?_
      refine o_append (dk := (kA .i64 2)) (xs := ([] : List (List Int))) (ys := s19.2) rfl rfl rfl rfl z_slT35 (hu (by decide) _ rfl) ho44 e2 (Sl.src (hs21.up ((hl30.trans hl36).trans hl))) hf48 hf49 (fun v45 g46 ho47 => ?_)
      refine st_ord [1, 1, 0, 0] _ rfl ?_
      exact hk _ _ [g46] LR trivial (by exact ⟨v45, g46, rfl, rfl, ho47⟩)
     ·intro ρ' τ pq rs hl hd hq hw hk
      obtain ⟨_, e4, rfl⟩ := hd 4 rfl _ rfl
      refine o_index rfl rfl rfl z_slT24 rfl e4 (hs38.up hl) rfl hf54 (fun b55 of56 vsb55 hc57 hrepb55 => ?_)
      exact hk _ _ LR ⟨b55, of56, _, rfl, hc57, hrepb55⟩
     ·intro ρ' τ pq rs hl hd hq hw hk
      obtain ⟨_, e5, b55, of56, vsb55, rfl, hc57, hrepb55⟩ := hd 5 rfl _ rfl
      have hrepb55 := hrepb55
      obtain rfl := hrepb55
      refine o_loadI (v := .I q53) rfl rfl rfl z_sc3 e5 (hc57 0 _ rfl) ?_
      exact hk _ _ LR rfl
     ·intro ρ' τ pq rs hl hd hq hw hk
      obtain ⟨_, e7, rfl⟩ := hd 7 rfl _ rfl
      refine o_index rfl rfl rfl z_slT24 rfl e7 (hs38.up hl) rfl hf59 (fun b60 of61 vsb60 hc62 hrepb60 => ?_)
      exact hk _ _ LR ⟨b60, of61, _, rfl, hc62, hrepb60⟩
     ·intro ρ' τ pq rs hl hd hq hw hk
      obtain ⟨_, e8, b60, of61, vsb60, rfl, hc62, hrepb60⟩ := hd 8 rfl _ rfl
      have hrepb60 := hrepb60
      obtain rfl := hrepb60
      refine o_loadI (v := .I q58) rfl rfl rfl z_sc3 e8 (hc62 0 _ rfl) ?_
      exact hk _ _ LR rfl
     ·intro ρ' τ pq rs hl hd hq hw hk
      obtain ⟨_, e6, rfl⟩ := hd 6 rfl _ rfl
      obtain ⟨_, e9, rfl⟩ := hd 9 rfl _ rfl
      refine o_buildA (ps := [(0, [.I q53]), (1, [.I q58])]) (cs := [.I q53, .I q58]) rfl rfl rfl z_arrz134 ⟨rfl, ⟨_, e6, rfl⟩, ⟨rfl, ⟨_, e9, rfl⟩, trivial⟩⟩ (fill_all [.I q53, .I q58] _ rfl) ?_
      exact hk _ _ LR rfl
     ·intro ρ' τ pq rs hl hd hq hw hk
      obtain ⟨_, e10, rfl⟩ := hd 10 rfl _ rfl
      refine o_litE (eA .i64 2) [[q53, q58]] rfl rfl rfl z_slT35 z_zero134 ⟨rfl, ⟨_, e10, rfl⟩, trivial⟩ rfl rfl rfl rfl (fun v63 g64 ho65 => ?_)
      refine st_freeze (fun τ66 hl67 hg68 => ?_)
      have hs69 := ho65.freeze hl67 hg68
      exact hk _ _ hl67 ⟨v63, rfl, hs69⟩
     ·intro ρ' τ u Fv pq rs hl hI hu hd hq hw hk
      obtain ⟨_, e11, v63, rfl, hs69⟩ := hd 11 rfl _ rfl
      obtain ⟨v50, g51, rfl, rfl, ho52⟩ := hI
      refine st_ord [2, 0, 0, 0] _ rfl ?_
      refine o_append (dk := (kA .i64 2)) (xs := (([] : List (List Int)) ++ s19.2)) (ys := [[q53, q58]]) rfl rfl rfl rfl z_slT35 (hu (by decide) _ rfl) ho52 e11 (Sl.src hs69) hf73 hf74 (fun v70 g71 ho72 => ?_)
      refine st_ord [1, 1, 0, 0] _ rfl ?_
      exact hk _ _ [g71] LR trivial (by exact ⟨v70, g71, rfl, rfl, ho72⟩)
     intro ρ' τ78 vals u Fv hl78 hI hu hv hq
     obtain ⟨v75, g76, rfl, rfl, ho77⟩ := hI
     refine st_env (ρ' := [(3, .Pb b5), (6, .Pb b7), (7, .I 0), (8, .I 0), (9, v17), (10, .I s19.1), (65, v75)]) ⟨oT hq 3, oT hq 6, oT hq 7, oT hq 8, oT hq 9, oT hq 10, (by exact hu _ rfl), trivial⟩ ?_
     refine o_fieldAddr rfl rfl rfl z_field37_2 rfl ?_
     refine o_store (j := 0) (vs := [v75]) (cs' := (lM a0 v75 v2)) rfl rfl rfl z_size35 rfl rfl (oneL_ow ho77) (ones_cons ho77.one' ones_nil) rfl rfl rfl (Z 7 ?_)
     refine st_ord [2, 0, 0] _ rfl ?_
     refine st_freeze (fun τ79 hl80 hg81 => ?_)
     have hs82 := ho77.freeze hl80 hg81
     exact hn19 _ _ _ _ h ⟨((((hl19.trans hl30).trans hl36).trans hl78).trans hl80), _, rfl, rfl, hs82⟩
  ·refine Z 2 ?_
   obtain rfl := he19 _ h
   replace h := hA19
   exact hk8 _ _ _ ⟨(0, (a0.2.1.getD 0 0), (a0.2.1.getD 1 0), (a0.2.1.getD 2 0), (a0.2.1.getD 3 0), (a0.2.1.getD 4 0), (a0.2.1.getD 5 0), s19.2, a0.2.2.2.1, a0.t4.1, a0.t4.2), _, _, h, (hl16.trans hl19), rfl, rfl, hs21, (hs4.up (hl16.trans hl19))⟩
 ·refine Z 5 ?_
  refine I2 h (fun h => ?_) (fun h => ?_)
  ·refine Z 2 ?_
   obtain ⟨r86, hr87, h⟩ := h
   refine SC z_en20 (ref20_Split_ok hr87 σ) ?_
   rintro _ τ88 _ hl89 ⟨v90, rfl, rfl, hs91⟩
   obtain ⟨r92, hr93, h⟩ := h
   refine SC z_en100 (ref20_numbers_ok hr93 τ88 hs91) ?_
   rintro _ τ94 _ hl95 ⟨v96, rfl, rfl, hs97⟩
   refine Z 4 ?_
   refine o_store (j := 2) (vs := [v96]) (cs' := (lM a0 v1 v96)) rfl rfl rfl z_size24 rfl rfl (oneL_sl hs97) (ones_cons hs97.one' ones_nil) rfl rfl rfl (Z 3 ?_)
   refine st_ord [2, 0] _ rfl ?_
   exact hk8 _ _ _ ⟨(r92.2, (a0.2.1.getD 0 0), (a0.2.1.getD 1 0), (a0.2.1.getD 2 0), (a0.2.1.getD 3 0), (a0.2.1.getD 4 0), (a0.2.1.getD 5 0), a0.2.2.1, r92.1, a0.t4.1, a0.t4.2), _, _, h, (hl89.trans hl95), rfl, rfl, (hs3.up (hl89.trans hl95)), hs97⟩
  ·refine Z 5 ?_
   refine I2 h (fun h => ?_) (fun h => ?_)
   ·refine Z 2 ?_
    obtain ⟨r98, hr99, h⟩ := h
    refine SC z_en101 (ref20_unhex_ok hr99 σ) ?_
    rintro _ τ100 _ hl101 ⟨rfl, rfl⟩
    refine ZZ 8 [2] ?_
    refine st_ord [2, 0] _ rfl ?_
    exact hk8 _ _ _ ⟨(r98.2, (a0.2.1.getD 0 0), (a0.2.1.getD 1 0), (a0.2.1.getD 2 0), (a0.2.1.getD 3 0), (a0.2.1.getD 4 0), (a0.2.1.getD 5 0), a0.2.2.1, a0.2.2.2.1, r98.1, a0.t4.2), _, _, h, hl101, rfl, rfl, (hs3.up hl101), (hs4.up hl101)⟩
   ·refine Z 5 ?_
    refine I2 h (fun h => ?_) (fun h => ?_)
    ·refine Z 2 ?_
     obtain ⟨r102, hr103, h⟩ := h
     refine SC z_en101 (ref20_unhex_ok hr103 σ) ?_
     rintro _ τ104 _ hl105 ⟨rfl, rfl⟩
     refine ZZ 8 [2] ?_
     refine st_ord [2, 0] _ rfl ?_
     exact hk8 _ _ _ ⟨(r102.2, (a0.2.1.getD 0 0), (a0.2.1.getD 1 0), (a0.2.1.getD 2 0), (a0.2.1.getD 3 0), (a0.2.1.getD 4 0), (a0.2.1.getD 5 0), a0.2.2.1, a0.2.2.2.1, a0.t4.1, r102.1), _, _, h, hl105, rfl, rfl, (hs3.up hl105), (hs4.up hl105)⟩
    ·obtain ⟨r106, hr107, hf110, hf111, h⟩ := h
     refine st_d41 [[(b7, .cells lY.toArray 37 (0, 0))], [(b6, .cells (lA a1).toArray 129 (0, 0))]] [[(b5, .cells (lM a0 v1 v2).toArray 37 (0, 0))]] 10 1 [none, none, none, none, none, none, none, none, none, some (0, 0)] [none, none, none, none, none, none, none, none, none, none] [[none, none]] [.v (.pointer (some ⟨b6, 2, none⟩)), .v (.I a1.2.2.1), .v (.string a2), .v (.tuple #[.I r106.1, .I r106.2]), .v (.tuple #[.I r106.1, .I r106.2]), .v (.I r106.1), .v (.I r106.2), .v (.pointer (some ⟨b5, 1, none⟩)), .v (.pointer (some ⟨b5, 1 + a1.2.2.1.toNat * 1, none⟩)), .t fun _ _ => True] [[fun τ u F => F = [[(b5, .cells (lM a0 v1 v2).toArray 37 (0, 0))]], fun τ u F => F = [[(b5, .cells #[.I a0.1, .I ((putN 6 0 a0.2.1 a1.2.2.1.toNat r106.1).getD 0 0), .I ((putN 6 0 a0.2.1 a1.2.2.1.toNat r106.1).getD 1 0), .I ((putN 6 0 a0.2.1 a1.2.2.1.toNat r106.1).getD 2 0), .I ((putN 6 0 a0.2.1 a1.2.2.1.toNat r106.1).getD 3 0), .I ((putN 6 0 a0.2.1 a1.2.2.1.toNat r106.1).getD 4 0), .I ((putN 6 0 a0.2.1 a1.2.2.1.toNat r106.1).getD 5 0), v1, v2, .string a0.t4.1, .string a0.t4.2] 37 (0, 0))]]]] rfl z_mix rfl ⟨fun _ _ _ _ _ => trivial, trivial⟩ ⟨⟨fun _ _ _ _ hl h => h, ⟨fun _ _ _ _ hl h => h, trivial⟩⟩, trivial⟩ rfl rfl ?_ (allB_cons (allB_cons (allB_cons (allB_cons (allB_cons (allB_cons (allB_cons (allB_cons (allB_cons (allB_cons allB_nil (p4 dA)) ?_) (p4 dA)) ?_) ?_) (p4 dA)) (p4 dA)) (p4 dA)) ?_) ?_) ?_
     ·exact rfl
     ·intro ρ' τ pq rs hl hd hq hw hk
      obtain ⟨_, e0, rfl⟩ := hd 0 rfl _ rfl
      refine o_load (j := 1) (v := .I a1.2.2.1) rfl rfl rfl z_sc3 e0 rfl rfl ?_
      exact hk _ _ LR rfl
     ·intro ρ' τ pq rs hl hd hq hw hk
      obtain ⟨_, e2, rfl⟩ := hd 2 rfl _ rfl
      refine st_call (foot := []) rfl rfl rfl rfl (evs_cons e2 rfl) rfl (callV_fn z_en27 (ref20_Read_ok hr107 τ)) ?_
      rintro _ τ108 _ hl109 ⟨rfl, rfl⟩
      exact hk _ _ hl109 rfl
     ·intro ρ' τ pq rs hl hd hq hw hk
      obtain ⟨_, e3, rfl⟩ := hd 3 rfl _ rfl
      refine o_move rfl rfl rfl e3 ?_
      exact hk _ _ LR rfl
     ·intro ρ' τ pq rs hl hd hq hw hk
      obtain ⟨_, e1, rfl⟩ := hd 1 rfl _ rfl
      obtain ⟨_, e7, rfl⟩ := hd 7 rfl _ rfl
      refine o_indexA rfl rfl rfl z_arr22 e7 e1 hf110 hf111 ?_
      exact hk _ _ LR rfl
     ·intro ρ' τ u Fv pq rs hl hI hu hd hq hw hk
      obtain ⟨_, e5, rfl⟩ := hd 5 rfl _ rfl
      obtain ⟨_, e8, rfl⟩ := hd 8 rfl _ rfl
      have hI0 := hI
      obtain rfl := hI
      refine o_storeV (j := 2) (a1.2.2.1.toNat) (f := (Value.int .i64)) (zz := 0) (a := r106.1) (l := 6) (xs := a0.2.1) [.I a0.1] [v1, v2, .string a0.t4.1, .string a0.t4.2] rfl rfl rfl z_size3 e8 e5 rfl rfl rfl (by simp only [List.length_cons, List.length_nil] <;> omega) (by omega) ?_
      exact hk _ _ [[(b5, .cells #[.I a0.1, .I ((putN 6 0 a0.2.1 a1.2.2.1.toNat r106.1).getD 0 0), .I ((putN 6 0 a0.2.1 a1.2.2.1.toNat r106.1).getD 1 0), .I ((putN 6 0 a0.2.1 a1.2.2.1.toNat r106.1).getD 2 0), .I ((putN 6 0 a0.2.1 a1.2.2.1.toNat r106.1).getD 3 0), .I ((putN 6 0 a0.2.1 a1.2.2.1.toNat r106.1).getD 4 0), .I ((putN 6 0 a0.2.1 a1.2.2.1.toNat r106.1).getD 5 0), v1, v2, .string a0.t4.1, .string a0.t4.2] 37 (0, 0))]] LR trivial (by exact rfl)
     intro ρ' τ112 vals u Fv hl112 hI hu hv hq
     obtain rfl := hI
     refine st_env (ρ' := [(22, .I r106.2), (3, .Pb b5), (6, .Pb b7), (7, .I 0)]) ⟨(lv4 hv 6 rfl rfl rfl), oT hq 3, oT hq 6, oT hq 7, trivial⟩ (Z 3 ?_)
     refine st_ord [2, 0] _ rfl ?_
     exact hk8 _ _ _ ⟨(r106.2, ((putN 6 0 a0.2.1 a1.2.2.1.toNat r106.1).getD 0 0), ((putN 6 0 a0.2.1 a1.2.2.1.toNat r106.1).getD 1 0), ((putN 6 0 a0.2.1 a1.2.2.1.toNat r106.1).getD 2 0), ((putN 6 0 a0.2.1 a1.2.2.1.toNat r106.1).getD 3 0), ((putN 6 0 a0.2.1 a1.2.2.1.toNat r106.1).getD 4 0), ((putN 6 0 a0.2.1 a1.2.2.1.toNat r106.1).getD 5 0), a0.2.2.1, a0.2.2.2.1, a0.t4.1, a0.t4.2), _, _, h, hl112, rfl, rfl, (hs3.up hl112), (hs4.up hl112)⟩
theorem ref17_path_ok {a0 : List (List Int)} {v1 : Value} {r : Int} (h : ref17_path a0 r) (σ : Sto) (hs2 : Sl (kA .i64 2) σ v1 a0) :
    Does prog 77 [v1] σ [] (fun v τ gs => gs = [] ∧ .I r = v) := by
 refine CO func77 ntmps77 rfl (fun cs fs => Z 8 ?_)
 refine o_lenI rfl rfl rfl z_slT35 rfl hs2 (Z 2 ?_)
 refine I2 h (fun h => ?_) (fun h => ?_)
 ·refine Z 4 ?_
  obtain rfl := h.symm
  exact RT func77 rfl LR ⟨rfl, rfl⟩
 ·refine Z 5 ?_
  refine o_lenI rfl rfl rfl z_slT35 rfl hs2 (Z 2 ?_)
  refine I2 h (fun h => ?_) (fun h => ?_)
  ·refine Z 4 ?_
   obtain rfl := h.symm
   exact RT func77 rfl LR ⟨rfl, rfl⟩
  ·refine Z 2 ?_
   refine cutS σ (fun (s3 : Unit) => ref17_path_j1 s3 r) (fun s3 => [(2, .I 0)]) (fun s3 => []) (fun s3 τ3 h hl3 => (Z 4 ?_)) (fun hk3 => ?_)
   ·obtain rfl := h.symm
    exact RT func77 rfl hl3 ⟨rfl, rfl⟩
   refine Z 4 ?_
   obtain ⟨e4, hL4, hA4⟩ := h
   refine st_loop hL4 (fun (s4 : Int) ρ τ4 gs => σ.Le τ4 ∧ ESub ρ [(0, v1), (2, .I 0), (3, .I s4)] ∧ gs = []) ⟨LR, rfl, rfl⟩ ?_
   rintro s4 o4 h he4 ρ4 τ4 gs4 ⟨hl4, hρ, rfl⟩ hn4
   refine st_es hρ (Z 5 ?_)
   refine o_lenI rfl rfl rfl z_slT35 rfl (hs2.up hl4) (Z 2 ?_)
   refine I2 h (fun h => ?_) (fun h => ?_)
   ·refine Z 2 ?_
    refine cutS τ4 (fun (s5 : Unit) => ref17_path_j3 s4 s5 o4) (fun s5 => [(0, v1), (2, .I 0), (3, .I s4)]) (fun s5 => []) (fun s5 τ5 h hl5 => (Z 5 ?_)) (fun hk5 => ?_)
    ·exact hn4 _ _ _ _ h ⟨(hl4.trans hl5), rfl, rfl⟩
    refine Z 5 ?_
    obtain ⟨e6, hL6, hA6⟩ := h
    refine st_loop hL6 (fun (s6 : Int) ρ τ6 gs => τ4.Le τ6 ∧ ESub ρ [(0, v1), (2, .I 0), (3, .I s4), (4, .I s6)] ∧ gs = []) ⟨LR, rfl, rfl⟩ ?_
    rintro s6 o6 h he6 ρ6 τ6 gs6 ⟨hl6, hρ, rfl⟩ hn6
    refine st_es hρ (Z 6 ?_)
    refine I2 h (fun h => ?_) (fun h => ?_)
    ·refine Z 4 ?_
     refine cutS τ6 (fun (s7 : Bool) => ref17_path_j5 s6 s7 o6) (fun s7 => [(0, v1), (2, .I 0), (3, .I s4), (4, .I s6), (36, .bool s7)]) (fun s7 => []) (fun s7 τ7 h hl7 => ?_) (fun hk7 => ?_)
     ·refine I2 h (fun h => ?_) (fun h => ?_)
      ·refine Z 4 ?_
       obtain rfl := he6 _ h
       replace h := hA6
       obtain rfl := he4 _ h
       replace h := hA4
       obtain rfl := h.symm
       exact RT func77 rfl ((hl4.trans hl6).trans hl7) ⟨rfl, rfl⟩
      ·refine Z 7 ?_
       exact hn6 _ _ _ _ h ⟨(hl6.trans hl7), rfl, rfl⟩
     refine Z 4 ?_
     obtain ⟨q8, hf9, h⟩ := h
     refine o_index rfl rfl rfl z_slT35 rfl rfl (hs2.up (hl4.trans hl6)) rfl hf9 (fun b10 of11 vs hc12 hrep => ?_)
     obtain rfl := hrep
     obtain ⟨hf13, hf14, h⟩ := h
     refine o_indexA rfl rfl rfl z_arr134 rfl rfl hf13 hf14 ?_
     refine o_loadI (v := .I (q8.getD s6.toNat 0)) rfl rfl rfl z_sc3 rfl (cel_arr (f := (Value.int .i64)) (zz := 0) (n := 2) (xs := q8) (p := 0) (q := s6.toNat) hc12 rfl (by omega) (by omega)) ?_
     refine o_ibin (v := .bool (decide ((q8.getD s6.toNat 0) < (-1000000)))) rfl rfl rfl rfl rfl rfl ?_
     refine M2 h (fun h => ?_) (fun h => ?_)
     ·refine Z 9 ?_
      exact hk7 _ _ _ ⟨true, h, LR, rfl, rfl⟩
     ·refine Z 3 ?_
      obtain ⟨q15, hf16, h⟩ := h
      refine o_index rfl rfl rfl z_slT35 rfl rfl (hs2.up (hl4.trans hl6)) rfl hf16 (fun b17 of18 vs hc19 hrep => ?_)
      obtain rfl := hrep
      obtain ⟨hf20, hf21, h⟩ := h
      refine o_indexA rfl rfl rfl z_arr134 rfl rfl hf20 hf21 ?_
      refine o_loadI (v := .I (q15.getD s6.toNat 0)) rfl rfl rfl z_sc3 rfl (cel_arr (f := (Value.int .i64)) (zz := 0) (n := 2) (xs := q15) (p := 0) (q := s6.toNat) hc19 rfl (by omega) (by omega)) (Z 3 ?_)
      exact hk7 _ _ _ ⟨(decide (1000000 < (q15.getD s6.toNat 0))), h, LR, rfl, rfl⟩
    ·refine Z 2 ?_
     obtain rfl := he6 _ h
     replace h := hA6
     exact hk5 _ _ _ ⟨(), h, hl6, rfl, rfl⟩
   ·refine st_exit rfl ?_
    obtain rfl := he4 _ h
    replace h := hA4
    exact hk3 _ _ _ ⟨(), h, hl4, rfl, rfl⟩
theorem ref17_cells_ok {a0 : List Int} {v1 : Value} {r : Int} (h : ref17_cells a0 r) (σ : Sto) (hs2 : Sl (kI .i64) σ v1 a0) :
    Does prog 78 [v1] σ [] (fun v τ gs => gs = [] ∧ .I r = v) := by
 refine CO func78 ntmps78 rfl (fun cs fs => Z 8 ?_)
 refine o_lenI rfl rfl rfl z_slT24 rfl hs2 (Z 2 ?_)
 refine I2 h (fun h => ?_) (fun h => ?_)
 ·refine Z 4 ?_
  obtain rfl := h.symm
  exact RT func78 rfl LR ⟨rfl, rfl⟩
 ·refine Z 5 ?_
  refine o_lenI rfl rfl rfl z_slT24 rfl hs2 (Z 2 ?_)
  refine I2 h (fun h => ?_) (fun h => ?_)
  ·refine Z 4 ?_
   obtain rfl := h.symm
   exact RT func78 rfl LR ⟨rfl, rfl⟩
  ·refine Z 2 ?_
   refine cutS σ (fun (s3 : Unit) => ref17_cells_j1 s3 r) (fun s3 => [(2, .I 0)]) (fun s3 => []) (fun s3 τ3 h hl3 => (Z 4 ?_)) (fun hk3 => ?_)
   ·obtain rfl := h.symm
    exact RT func78 rfl hl3 ⟨rfl, rfl⟩
   refine Z 4 ?_
   obtain ⟨e4, hL4, hA4⟩ := h
   refine st_loop hL4 (fun (s4 : Int) ρ τ4 gs => σ.Le τ4 ∧ ESub ρ [(0, v1), (2, .I 0), (3, .I s4)] ∧ gs = []) ⟨LR, rfl, rfl⟩ ?_
   rintro s4 o4 h he4 ρ4 τ4 gs4 ⟨hl4, hρ, rfl⟩ hn4
   refine st_es hρ (Z 5 ?_)
   refine o_lenI rfl rfl rfl z_slT24 rfl (hs2.up hl4) (Z 2 ?_)
   refine I2 h (fun h => ?_) (fun h => ?_)
   ·refine Z 5 ?_
    refine cutS τ4 (fun (s5 : Bool) => ref17_cells_j3 a0 s4 s5 o4) (fun s5 => [(0, v1), (2, .I 0), (3, .I s4), (27, .bool s5)]) (fun s5 => []) (fun s5 τ5 h hl5 => ?_) (fun hk5 => ?_)
    ·refine I2 h (fun h => ?_) (fun h => ?_)
     ·refine Z 4 ?_
      obtain rfl := he4 _ h
      replace h := hA4
      obtain rfl := h.symm
      exact RT func78 rfl (hl4.trans hl5) ⟨rfl, rfl⟩
     ·refine Z 2 ?_
      obtain ⟨q7, hf8, q12, hf13, h⟩ := h
      let cc6 : Prop := (decide (0 < s4)) = true
      refine st_draw 14 (dl [.v (.I s4), .v (.bool (decide (0 < s4))), .v (.bool (decide (0 < s4))), .g cc6 (v1), .g cc6 (.I s4), .h cc6 fun τ v => ∃ (b9 of10 : Nat) (vsb9 : K10), (.pointer (some ⟨b9, of10, none⟩) : Value) = v ∧ CelN τ ⟨b9, of10, none⟩ vsb9 ∧ (kI .i64).rep τ vsb9 q7, .g cc6 (.I q7), .g cc6 (v1), .g cc6 (.I s4), .g cc6 (.I (i64.wrap (s4 - 1))), .h cc6 fun τ v => ∃ (b14 of15 : Nat) (vsb14 : K10), (.pointer (some ⟨b14, of15, none⟩) : Value) = v ∧ CelN τ ⟨b14, of15, none⟩ vsb14 ∧ (kI .i64).rep τ vsb14 q12, .g cc6 (.I q12), .g cc6 (.bool (decide (q7 ≤ q12))), .v (.bool ((decide (0 < s4)) && (decide (q7 ≤ q12))))]) (fun _ _ => []) z_mix rfl (dl_mono ⟨fun _ _ _ hl ⟨b9, of10, vsb9, hv, hc11, hrepb9⟩ => ⟨b9, of10, vsb9, hv, hc11.up hl, Kd.mono _ hl hrepb9⟩, ⟨fun _ _ _ hl ⟨b14, of15, vsb14, hv, hc16, hrepb14⟩ => ⟨b14, of15, vsb14, hv, hc16.up hl, Kd.mono _ hl hrepb14⟩, trivial⟩⟩) (allB_cons (allB_cons (allB_cons (allB_cons (allB_cons (allB_cons (allB_cons (allB_cons (allB_cons (allB_cons (allB_cons (allB_cons (allB_cons (allB_cons allB_nil (p1 dA)) (p1 dA)) (p1 dA)) (p1 (dG []))) (p1 (dG []))) ?_) ?_) (p1 (dG []))) (p1 (dG []))) (p1 (dG [8]))) ?_) ?_) (p1 (dG [6, 11]))) (p1 dK)) ?_
      ·intro ρ' τ pq rs hl hd hq hk
       obtain ⟨_, e2, rfl⟩ := hd 2 rfl
       obtain ⟨w3, e3, t3⟩ := hd 3 rfl
       obtain ⟨w4, e4, t4⟩ := hd 4 rfl
       by_cases hG : (decide (0 < s4)) = true
       ·have hC := hG
        replace hf8 := hf8 hC
        obtain ⟨rfl⟩ := t4.1 hC
        obtain ⟨rfl⟩ := t3.1 hC
        refine o_index rfl (wants_of rfl e2 hG) rfl z_slT24 rfl e3 (hs2.up ((hl4.trans hl5).trans hl)) e4 hf8 (fun b9 of10 vsb9 hc11 hrepb9 => ?_)
        exact st_addNil (hk _ _ LR ⟨fun _ => ⟨b9, of10, _, rfl, hc11, hrepb9⟩, fun hn => absurd hC hn⟩)
       ·refine st_pass rfl rfl rfl e2 (beq_off hG) rfl ?_
        exact st_addNil (hk _ _ LR ⟨fun h => absurd h hG, fun _ => rfl⟩)
      ·intro ρ' τ pq rs hl hd hq hk
       obtain ⟨_, e2, rfl⟩ := hd 2 rfl
       obtain ⟨w5, e5, t5⟩ := hd 5 rfl
       by_cases hG : (decide (0 < s4)) = true
       ·have hC := hG
        obtain ⟨b9, of10, vsb9, rfl, hc11, hrepb9⟩ := t5.1 hC
        have hrepb9 := hrepb9
        obtain rfl := hrepb9
        refine o_loadI (v := .I q7) rfl (wants_of rfl e2 hG) rfl z_sc3 e5 (hc11 0 _ rfl) ?_
        exact st_addNil (hk _ _ LR ⟨fun _ => rfl, fun hn => absurd hC hn⟩)
       ·refine st_pass rfl rfl rfl e2 (beq_off hG) rfl ?_
        exact st_addNil (hk _ _ LR ⟨fun h => absurd h hG, fun _ => rfl⟩)
      ·intro ρ' τ pq rs hl hd hq hk
       obtain ⟨_, e2, rfl⟩ := hd 2 rfl
       obtain ⟨w7, e7, t7⟩ := hd 7 rfl
       obtain ⟨w9, e9, t9⟩ := hd 9 rfl
       by_cases hG : (decide (0 < s4)) = true
       ·have hC := hG
        replace hf13 := hf13 hC
        obtain ⟨rfl⟩ := t7.1 hC
        obtain ⟨rfl⟩ := t9.1 hC
        refine o_index rfl (wants_of rfl e2 hG) rfl z_slT24 rfl e7 (hs2.up ((hl4.trans hl5).trans hl)) e9 hf13 (fun b14 of15 vsb14 hc16 hrepb14 => ?_)
        exact st_addNil (hk _ _ LR ⟨fun _ => ⟨b14, of15, _, rfl, hc16, hrepb14⟩, fun hn => absurd hC hn⟩)
       ·refine st_pass rfl rfl rfl e2 (beq_off hG) rfl ?_
        exact st_addNil (hk _ _ LR ⟨fun h => absurd h hG, fun _ => rfl⟩)
      ·intro ρ' τ pq rs hl hd hq hk
       obtain ⟨_, e2, rfl⟩ := hd 2 rfl
       obtain ⟨w10, e10, t10⟩ := hd 10 rfl
       by_cases hG : (decide (0 < s4)) = true
       ·have hC := hG
        obtain ⟨b14, of15, vsb14, rfl, hc16, hrepb14⟩ := t10.1 hC
        have hrepb14 := hrepb14
        obtain rfl := hrepb14
        refine o_loadI (v := .I q12) rfl (wants_of rfl e2 hG) rfl z_sc3 e10 (hc16 0 _ rfl) ?_
        exact st_addNil (hk _ _ LR ⟨fun _ => rfl, fun hn => absurd hC hn⟩)
       ·refine st_pass rfl rfl rfl e2 (beq_off hG) rfl ?_
        exact st_addNil (hk _ _ LR ⟨fun h => absurd h hG, fun _ => rfl⟩)
      intro ρ' τ17 vals hl17 hv hq
      refine st_ord [] _ rfl ?_
      refine st_env (ρ' := [(41, .bool ((decide (0 < s4)) && (decide (q7 ≤ q12)))), (0, v1), (2, .I 0), (3, .I s4)]) ⟨(lv1 hv 13 rfl rfl), oT hq 0, oT hq 2, oT hq 3, trivial⟩ ?_
      refine st_end ?_
      refine I2 h (fun h => ?_) (fun h => ?_)
      ·refine Z 4 ?_
       obtain rfl := he4 _ h
       replace h := hA4
       obtain rfl := h.symm
       exact RT func78 rfl ((hl4.trans hl5).trans hl17) ⟨rfl, rfl⟩
      ·refine Z 7 ?_
       exact hn4 _ _ _ _ h ⟨((hl4.trans hl5).trans hl17), rfl, rfl⟩
    refine Z 3 ?_
    obtain ⟨q18, hf19, h⟩ := h
    refine o_index rfl rfl rfl z_slT24 rfl rfl (hs2.up hl4) rfl hf19 (fun b20 of21 vs hc22 hrep => ?_)
    obtain rfl := hrep
    refine o_loadI (v := .I q18) rfl rfl rfl z_sc3 rfl (hc22 0 _ rfl) ?_
    refine o_ibin (v := .bool (decide (q18 < 0))) rfl rfl rfl rfl rfl rfl ?_
    refine M2 h (fun h => ?_) (fun h => ?_)
    ·refine Z 7 ?_
     exact hk5 _ _ _ ⟨true, h, LR, rfl, rfl⟩
    ·refine Z 2 ?_
     obtain ⟨q23, hf24, h⟩ := h
     refine o_index rfl rfl rfl z_slT24 rfl rfl (hs2.up hl4) rfl hf24 (fun b25 of26 vs hc27 hrep => ?_)
     obtain rfl := hrep
     refine o_loadI (v := .I q23) rfl rfl rfl z_sc3 rfl (hc27 0 _ rfl) (Z 3 ?_)
     exact hk5 _ _ _ ⟨(decide (65535 < q23)), h, LR, rfl, rfl⟩
   ·refine st_exit rfl ?_
    obtain rfl := he4 _ h
    replace h := hA4
    exact hk3 _ _ _ ⟨(), h, hl4, rfl, rfl⟩
theorem ref17_text_ok {a0 : ByteArray} {a1 r : Int} (h : ref17_text a0 a1 r) (σ : Sto)  :
    Does prog 79 [.string a0, .I a1] σ [] (fun v τ gs => gs = [] ∧ .I r = v) := by
 refine CO func79 ntmps79 rfl (fun cs fs => Z 12 ?_)
 refine I2 h (fun h => ?_) (fun h => ?_)
 ·refine Z 4 ?_
  obtain rfl := h.symm
  exact RT func79 rfl LR ⟨rfl, rfl⟩
 ·refine Z 2 ?_
  refine cutS σ (fun (s1 : Unit) => ref17_text_j1 s1 r) (fun s1 => [(4, .I 0)]) (fun s1 => []) (fun s1 τ1 h hl1 => (Z 4 ?_)) (fun hk1 => ?_)
  ·obtain rfl := h.symm
   exact RT func79 rfl hl1 ⟨rfl, rfl⟩
  refine Z 4 ?_
  obtain ⟨e2, hL2, hA2⟩ := h
  refine st_loop hL2 (fun (s2 : Int) ρ τ2 gs => σ.Le τ2 ∧ ESub ρ [(0, .string a0), (4, .I 0), (5, .I s2)] ∧ gs = []) ⟨LR, rfl, rfl⟩ ?_
  rintro s2 o2 h he2 ρ2 τ2 gs2 ⟨hl2, hρ, rfl⟩ hn2
  refine st_es hρ (Z 8 ?_)
  refine I2 h (fun h => ?_) (fun h => ?_)
  ·refine Z 4 ?_
   refine cutS τ2 (fun (s3 : Bool) => ref17_text_j3 s2 s3 o2) (fun s3 => [(0, .string a0), (4, .I 0), (5, .I s2), (25, .bool s3)]) (fun s3 => []) (fun s3 τ3 h hl3 => ?_) (fun hk3 => ?_)
   ·refine I2 h (fun h => ?_) (fun h => ?_)
    ·refine Z 4 ?_
     obtain rfl := he2 _ h
     replace h := hA2
     obtain rfl := h.symm
     exact RT func79 rfl (hl2.trans hl3) ⟨rfl, rfl⟩
    ·refine Z 7 ?_
     exact hn2 _ _ _ _ h ⟨(hl2.trans hl3), rfl, rfl⟩
   refine Z 3 ?_
   obtain ⟨q4, hf5, h⟩ := h
   refine o_indexS rfl rfl rfl underlying9 rfl rfl hf5 ?_
   refine o_ibin (v := .bool (decide (q4 < 32))) rfl rfl rfl rfl rfl rfl ?_
   refine M2 h (fun h => ?_) (fun h => ?_)
   ·refine Z 6 ?_
    exact hk3 _ _ _ ⟨true, h, LR, rfl, rfl⟩
   ·refine Z 2 ?_
    obtain ⟨q6, hf7, h⟩ := h
    refine o_indexS rfl rfl rfl underlying9 rfl rfl hf7 (Z 3 ?_)
    exact hk3 _ _ _ ⟨(decide (126 < q6)), h, LR, rfl, rfl⟩
  ·refine st_exit rfl ?_
   obtain rfl := he2 _ h
   replace h := hA2
   exact hk1 _ _ _ ⟨(), h, hl2, rfl, rfl⟩
theorem ref17_Check_ok {a0 : TyR} {v1 v2 : Value} {r : Int} (h : ref17_Check a0 r) (σ : Sto) (hs3 : Sl (kA .i64 2) σ v1 a0.2.2.1) (hs4 : Sl (kI .i64) σ v2 a0.2.2.2.1) :
    Does prog 38 [.agg (lM a0 v1 v2).toArray] σ [] (fun v τ gs => gs = [] ∧ .I r = v) := by
 refine CO func38 ntmps38 rfl (fun cs fs => Z 2 ?_)
 refine o_box (cs := (lM a0 v1 v2)) rfl rfl rfl rfl rfl (fun b5 => ZZ 6 [0] ?_)
 obtain ⟨r6, hr7, h⟩ := h
 refine SC z_en67 (ref16_All_ok hr7 σ) ?_
 rintro _ τ8 _ hl9 ⟨v10, rfl, rfl, hs11⟩
 refine Z 6 ?_
 refine o_lenI rfl rfl rfl z_slT126 rfl hs11 (Z 2 ?_)
 refine I2 h (fun h => ?_) (fun h => ?_)
 ·refine Z 4 ?_
  obtain rfl := h.symm
  exact RT func38 rfl hl9 ⟨rfl, rfl⟩
 ·refine Z 3 ?_
  refine o_alloc rfl rfl rfl z_zero143 (fun b12 => Z 3 ?_)
  refine o_alloc rfl rfl rfl z_zero144 (fun b13 => Z 2 ?_)
  refine cutS τ8 (fun (s14 : K8) => ref17_Check_j1 a0 s14 r) (fun s14 => [(1, .Pb b5), (2, .I 0), (4, .Pb b12), (5, .Pb b13)]) (fun s14 => [[(b5, .cells (lM a0 v1 v2).toArray 37 (0, 0))], [(b12, .cells #[.bool s14.1, .bool s14.2.1, .bool s14.2.2.1, .bool s14.2.2.2.1, .bool s14.t4.1, .bool s14.t4.2.1, .bool s14.t4.2.2.1] 143 (0, 0))], [(b13, .cells #[.bool s14.t4.2.2.2.1, .bool s14.t4.t4.1, .bool s14.t4.t4.2.1, .bool s14.t4.t4.2.2.1, .bool s14.t4.t4.2.2.2.1, .bool s14.t4.t4.t4] 144 (0, 0))]]) (fun s14 τ14 h hl14 => ?_) (fun hk14 => ?_)
  ·refine st_seq ?_
   refine cutS τ14 (fun (s15 : Unit) => ref17_Check_j2 a0 s14 s15 r) (fun s15 => [(1, .Pb b5), (2, .I 0), (4, .Pb b12)]) (fun s15 => [[(b5, .cells (lM a0 v1 v2).toArray 37 (0, 0))], [(b12, .cells #[.bool s14.1, .bool s14.2.1, .bool s14.2.2.1, .bool s14.2.2.2.1, .bool s14.t4.1, .bool s14.t4.2.1, .bool s14.t4.2.2.1] 143 (0, 0))]]) (fun s15 τ15 h hl15 => (Z 2 ?_)) (fun hk15 => ?_)
   ·refine st_cut (fun ρ τ16 gs => ∃ (s16 : Bool), ref17_Check_j3 s16 r ∧ τ15.Le τ16 ∧ ESub ρ [(2, .I 0), (145, .bool s16)] ∧ gs = []) ?_ (fun hk16 => ?_)
    ·rintro ρ16 τ16 gs16 ⟨s16, h, hl16, hρ, rfl⟩
     refine st_es hρ ?_
     refine I2 h (fun h => ?_) (fun h => ?_)
     ·refine Z 4 ?_
      obtain rfl := h.symm
      exact RT func38 rfl (((hl9.trans hl14).trans hl15).trans hl16) ⟨rfl, rfl⟩
     ·refine Z 5 ?_
      obtain rfl := h.symm
      exact RT func38 rfl (((hl9.trans hl14).trans hl15).trans hl16) ⟨rfl, rfl⟩
    refine st_region ?_
    refine o_indexA rfl rfl rfl z_arr143 rfl rfl (by decide) (by decide) (ZZ 2 [1] ?_)
    refine M2 h (fun h => ?_) (fun h => ?_)
    ·refine ZZ 2 [0] ?_
     refine o_lenI rfl rfl rfl z_slT35 rfl (hs3.up ((hl9.trans hl14).trans hl15)) (Z 2 ?_)
     refine M2 h (fun h => ?_) (fun h => ?_)
     ·refine Z 31 ?_
      refine st_ord [] _ rfl ?_
      exact hk16 _ _ _ ⟨true, h, LR, rfl, rfl⟩
     ·refine o_indexA rfl rfl rfl z_arr143 rfl rfl (by decide) (by decide) (ZZ 2 [1] ?_)
      refine M2 h (fun h => ?_) (fun h => ?_)
      ·refine ZZ 2 [0] ?_
       refine o_lenI rfl rfl rfl z_slT24 rfl (hs4.up ((hl9.trans hl14).trans hl15)) (Z 3 ?_)
       refine M2 h (fun h => ?_) (fun h => ?_)
       ·refine Z 20 ?_
        refine st_ord [] _ rfl ?_
        exact hk16 _ _ _ ⟨true, h, LR, rfl, rfl⟩
       ·refine o_indexA rfl rfl rfl z_arr143 rfl rfl (by decide) (by decide) (ZZ 2 [1] ?_)
        refine M2 h (fun h => ?_) (fun h => ?_)
        ·refine ZZ 2 [0] ?_
         refine o_sbin (v := .bool (!(decide (a0.t4.1 = (bstr []))))) rfl rfl rfl rfl (ev_str z_str1) rfl (Z 2 ?_)
         refine M2 h (fun h => ?_) (fun h => ?_)
         ·refine Z 10 ?_
          refine st_ord [] _ rfl ?_
          exact hk16 _ _ _ ⟨true, h, LR, rfl, rfl⟩
         ·refine o_indexA rfl rfl rfl z_arr143 rfl rfl (by decide) (by decide) (ZZ 2 [1] ?_)
          refine M2 h (fun h => ?_) (fun h => ?_)
          ·refine ZZ 2 [0] ?_
           refine o_sbin (v := .bool (!(decide (a0.t4.2 = (bstr []))))) rfl rfl rfl rfl (ev_str z_str1) rfl (Z 3 ?_)
           refine st_ord [] _ rfl ?_
           exact hk16 _ _ _ ⟨(!(decide (a0.t4.2 = (bstr [])))), h, LR, rfl, rfl⟩
          ·refine Z 6 ?_
           refine st_ord [] _ rfl ?_
           exact hk16 _ _ _ ⟨false, h, LR, rfl, rfl⟩
        ·refine Z 6 ?_
         refine o_indexA rfl rfl rfl z_arr143 rfl rfl (by decide) (by decide) (ZZ 2 [1] ?_)
         refine M2 h (fun h => ?_) (fun h => ?_)
         ·refine ZZ 2 [0] ?_
          refine o_sbin (v := .bool (!(decide (a0.t4.2 = (bstr []))))) rfl rfl rfl rfl (ev_str z_str1) rfl (Z 3 ?_)
          refine st_ord [] _ rfl ?_
          exact hk16 _ _ _ ⟨(!(decide (a0.t4.2 = (bstr [])))), h, LR, rfl, rfl⟩
         ·refine Z 6 ?_
          refine st_ord [] _ rfl ?_
          exact hk16 _ _ _ ⟨false, h, LR, rfl, rfl⟩
      ·refine Z 7 ?_
       refine o_indexA rfl rfl rfl z_arr143 rfl rfl (by decide) (by decide) (ZZ 2 [1] ?_)
       refine M2 h (fun h => ?_) (fun h => ?_)
       ·refine ZZ 2 [0] ?_
        refine o_sbin (v := .bool (!(decide (a0.t4.1 = (bstr []))))) rfl rfl rfl rfl (ev_str z_str1) rfl (Z 2 ?_)
        refine M2 h (fun h => ?_) (fun h => ?_)
        ·refine Z 10 ?_
         refine st_ord [] _ rfl ?_
         exact hk16 _ _ _ ⟨true, h, LR, rfl, rfl⟩
        ·refine o_indexA rfl rfl rfl z_arr143 rfl rfl (by decide) (by decide) (ZZ 2 [1] ?_)
         refine M2 h (fun h => ?_) (fun h => ?_)
         ·refine ZZ 2 [0] ?_
          refine o_sbin (v := .bool (!(decide (a0.t4.2 = (bstr []))))) rfl rfl rfl rfl (ev_str z_str1) rfl (Z 3 ?_)
          refine st_ord [] _ rfl ?_
          exact hk16 _ _ _ ⟨(!(decide (a0.t4.2 = (bstr [])))), h, LR, rfl, rfl⟩
         ·refine Z 6 ?_
          refine st_ord [] _ rfl ?_
          exact hk16 _ _ _ ⟨false, h, LR, rfl, rfl⟩
       ·refine Z 6 ?_
        refine o_indexA rfl rfl rfl z_arr143 rfl rfl (by decide) (by decide) (ZZ 2 [1] ?_)
        refine M2 h (fun h => ?_) (fun h => ?_)
        ·refine ZZ 2 [0] ?_
         refine o_sbin (v := .bool (!(decide (a0.t4.2 = (bstr []))))) rfl rfl rfl rfl (ev_str z_str1) rfl (Z 3 ?_)
         refine st_ord [] _ rfl ?_
         exact hk16 _ _ _ ⟨(!(decide (a0.t4.2 = (bstr [])))), h, LR, rfl, rfl⟩
        ·refine Z 6 ?_
         refine st_ord [] _ rfl ?_
         exact hk16 _ _ _ ⟨false, h, LR, rfl, rfl⟩
    ·refine Z 6 ?_
     refine o_indexA rfl rfl rfl z_arr143 rfl rfl (by decide) (by decide) (ZZ 2 [1] ?_)
     refine M2 h (fun h => ?_) (fun h => ?_)
     ·refine ZZ 2 [0] ?_
      refine o_lenI rfl rfl rfl z_slT24 rfl (hs4.up ((hl9.trans hl14).trans hl15)) (Z 3 ?_)
      refine M2 h (fun h => ?_) (fun h => ?_)
      ·refine Z 20 ?_
       refine st_ord [] _ rfl ?_
       exact hk16 _ _ _ ⟨true, h, LR, rfl, rfl⟩
      ·refine o_indexA rfl rfl rfl z_arr143 rfl rfl (by decide) (by decide) (ZZ 2 [1] ?_)
       refine M2 h (fun h => ?_) (fun h => ?_)
       ·refine ZZ 2 [0] ?_
        refine o_sbin (v := .bool (!(decide (a0.t4.1 = (bstr []))))) rfl rfl rfl rfl (ev_str z_str1) rfl (Z 2 ?_)
        refine M2 h (fun h => ?_) (fun h => ?_)
        ·refine Z 10 ?_
         refine st_ord [] _ rfl ?_
         exact hk16 _ _ _ ⟨true, h, LR, rfl, rfl⟩
        ·refine o_indexA rfl rfl rfl z_arr143 rfl rfl (by decide) (by decide) (ZZ 2 [1] ?_)
         refine M2 h (fun h => ?_) (fun h => ?_)
         ·refine ZZ 2 [0] ?_
          refine o_sbin (v := .bool (!(decide (a0.t4.2 = (bstr []))))) rfl rfl rfl rfl (ev_str z_str1) rfl (Z 3 ?_)
          refine st_ord [] _ rfl ?_
          exact hk16 _ _ _ ⟨(!(decide (a0.t4.2 = (bstr [])))), h, LR, rfl, rfl⟩
         ·refine Z 6 ?_
          refine st_ord [] _ rfl ?_
          exact hk16 _ _ _ ⟨false, h, LR, rfl, rfl⟩
       ·refine Z 6 ?_
        refine o_indexA rfl rfl rfl z_arr143 rfl rfl (by decide) (by decide) (ZZ 2 [1] ?_)
        refine M2 h (fun h => ?_) (fun h => ?_)
        ·refine ZZ 2 [0] ?_
         refine o_sbin (v := .bool (!(decide (a0.t4.2 = (bstr []))))) rfl rfl rfl rfl (ev_str z_str1) rfl (Z 3 ?_)
         refine st_ord [] _ rfl ?_
         exact hk16 _ _ _ ⟨(!(decide (a0.t4.2 = (bstr [])))), h, LR, rfl, rfl⟩
        ·refine Z 6 ?_
         refine st_ord [] _ rfl ?_
         exact hk16 _ _ _ ⟨false, h, LR, rfl, rfl⟩
     ·refine Z 7 ?_
      refine o_indexA rfl rfl rfl z_arr143 rfl rfl (by decide) (by decide) (ZZ 2 [1] ?_)
      refine M2 h (fun h => ?_) (fun h => ?_)
      ·refine ZZ 2 [0] ?_
       refine o_sbin (v := .bool (!(decide (a0.t4.1 = (bstr []))))) rfl rfl rfl rfl (ev_str z_str1) rfl (Z 2 ?_)
       refine M2 h (fun h => ?_) (fun h => ?_)
       ·refine Z 10 ?_
        refine st_ord [] _ rfl ?_
        exact hk16 _ _ _ ⟨true, h, LR, rfl, rfl⟩
       ·refine o_indexA rfl rfl rfl z_arr143 rfl rfl (by decide) (by decide) (ZZ 2 [1] ?_)
        refine M2 h (fun h => ?_) (fun h => ?_)
        ·refine ZZ 2 [0] ?_
         refine o_sbin (v := .bool (!(decide (a0.t4.2 = (bstr []))))) rfl rfl rfl rfl (ev_str z_str1) rfl (Z 3 ?_)
         refine st_ord [] _ rfl ?_
         exact hk16 _ _ _ ⟨(!(decide (a0.t4.2 = (bstr [])))), h, LR, rfl, rfl⟩
        ·refine Z 6 ?_
         refine st_ord [] _ rfl ?_
         exact hk16 _ _ _ ⟨false, h, LR, rfl, rfl⟩
      ·refine Z 6 ?_
       refine o_indexA rfl rfl rfl z_arr143 rfl rfl (by decide) (by decide) (ZZ 2 [1] ?_)
       refine M2 h (fun h => ?_) (fun h => ?_)
       ·refine ZZ 2 [0] ?_
        refine o_sbin (v := .bool (!(decide (a0.t4.2 = (bstr []))))) rfl rfl rfl rfl (ev_str z_str1) rfl (Z 3 ?_)
        refine st_ord [] _ rfl ?_
        exact hk16 _ _ _ ⟨(!(decide (a0.t4.2 = (bstr [])))), h, LR, rfl, rfl⟩
       ·refine Z 6 ?_
        refine st_ord [] _ rfl ?_
        exact hk16 _ _ _ ⟨false, h, LR, rfl, rfl⟩
   refine Z 4 ?_
   obtain ⟨e17, hL17, hA17⟩ := h
   refine st_loop hL17 (fun (s17 : Int) ρ τ17 gs => τ14.Le τ17 ∧ ESub ρ [(1, .Pb b5), (2, .I 0), (4, .Pb b12), (5, .Pb b13), (8, .I s17)] ∧ gs = [[(b5, .cells (lM a0 v1 v2).toArray 37 (0, 0))], [(b12, .cells #[.bool s14.1, .bool s14.2.1, .bool s14.2.2.1, .bool s14.2.2.2.1, .bool s14.t4.1, .bool s14.t4.2.1, .bool s14.t4.2.2.1] 143 (0, 0))], [(b13, .cells #[.bool s14.t4.2.2.2.1, .bool s14.t4.t4.1, .bool s14.t4.t4.2.1, .bool s14.t4.t4.2.2.1, .bool s14.t4.t4.2.2.2.1, .bool s14.t4.t4.t4] 144 (0, 0))]]) ⟨LR, rfl, rfl⟩ ?_
   rintro s17 o17 h he17 ρ17 τ17 gs17 ⟨hl17, hρ, rfl⟩ hn17
   refine st_es hρ (Z 6 ?_)
   refine I2 h (fun h => ?_) (fun h => ?_)
   ·refine Z 4 ?_
    refine cutS τ17 (fun (s18 : Bool) => ref17_Check_j5 s17 s18 o17) (fun s18 => [(1, .Pb b5), (2, .I 0), (4, .Pb b12), (5, .Pb b13), (8, .I s17), (105, .bool s18)]) (fun s18 => [[(b5, .cells (lM a0 v1 v2).toArray 37 (0, 0))], [(b12, .cells #[.bool s14.1, .bool s14.2.1, .bool s14.2.2.1, .bool s14.2.2.2.1, .bool s14.t4.1, .bool s14.t4.2.1, .bool s14.t4.2.2.1] 143 (0, 0))], [(b13, .cells #[.bool s14.t4.2.2.2.1, .bool s14.t4.t4.1, .bool s14.t4.t4.2.1, .bool s14.t4.t4.2.2.1, .bool s14.t4.t4.2.2.2.1, .bool s14.t4.t4.t4] 144 (0, 0))]]) (fun s18 τ18 h hl18 => ?_) (fun hk18 => ?_)
    ·refine I2 h (fun h => ?_) (fun h => ?_)
     ·refine Z 4 ?_
      refine st_ord [] _ rfl ?_
      obtain rfl := he17 _ h
      replace h := hA17
      obtain rfl := h.symm
      exact RT func38 rfl (((hl9.trans hl14).trans hl17).trans hl18) ⟨rfl, rfl⟩
     ·refine Z 7 ?_
      exact hn17 _ _ _ _ h ⟨(hl17.trans hl18), rfl, rfl⟩
    refine Z 2 ?_
    obtain ⟨hf19, hf20, h⟩ := h
    refine o_indexA rfl rfl rfl z_arr144 rfl rfl hf19 hf20 ?_
    refine o_loadV (j := 2) (s17.toNat) (f := Value.bool) (zz := false) (l := 6) (xs := [s14.t4.2.2.2.1, s14.t4.t4.1, s14.t4.t4.2.1, s14.t4.t4.2.2.1, s14.t4.t4.2.2.2.1, s14.t4.t4.t4]) [] [] rfl rfl rfl z_sc4 rfl rfl (by simp only [List.length_cons, List.length_nil] <;> omega) (by omega) ?_
    refine o_not rfl rfl rfl rfl ?_
    refine M2 h (fun h => ?_) (fun h => ?_)
    ·refine Z 2 ?_
     obtain ⟨hf21, hf22, h⟩ := h
     refine o_indexA rfl rfl rfl z_arr22 rfl rfl hf21 hf22 ?_
     refine o_loadV (j := 0) (s17.toNat) (f := (Value.int .i64)) (zz := 0) (l := 6) (xs := a0.2.1) [.I a0.1] [v1, v2, .string a0.t4.1, .string a0.t4.2] rfl rfl rfl z_sc3 rfl rfl (by simp only [List.length_cons, List.length_nil] <;> omega) (by omega) (Z 3 ?_)
     exact hk18 _ _ _ ⟨(!(decide ((a0.2.1.getD s17.toNat 0) = 0))), h, LR, rfl, rfl⟩
    ·refine Z 7 ?_
     exact hk18 _ _ _ ⟨false, h, LR, rfl, rfl⟩
   ·refine st_exit rfl ?_
    obtain rfl := he17 _ h
    replace h := hA17
    refine st_ord [0, 0] _ rfl ?_
    exact hk15 _ _ _ ⟨(), h, hl17, rfl, rfl⟩
  refine Z 4 ?_
  obtain ⟨e25, hL25, hA25⟩ := h
  refine st_ord [2, 1, 0] _ rfl ?_
  refine st_loop hL25 (fun (s25 : K16) ρ τ25 gs => τ8.Le τ25 ∧ ESub ρ [(1, .Pb b5), (2, .I 0), (3, v10), (4, .Pb b12), (5, .Pb b13), (6, .I s25.1)] ∧ gs = [[(b5, .cells (lM a0 v1 v2).toArray 37 (0, 0))], [(b12, .cells #[.bool s25.2.1, .bool s25.2.2.1, .bool s25.2.2.2.1, .bool s25.t4.1, .bool s25.t4.2.1, .bool s25.t4.2.2.1, .bool s25.t4.2.2.2.1] 143 (0, 0))], [(b13, .cells #[.bool s25.t4.t4.1, .bool s25.t4.t4.2.1, .bool s25.t4.t4.2.2.1, .bool s25.t4.t4.2.2.2.1, .bool s25.t4.t4.t4.1, .bool s25.t4.t4.t4.2] 144 (0, 0))]]) ⟨LR, rfl, rfl⟩ ?_
  rintro s25 o25 h he25 ρ25 τ25 gs25 ⟨hl25, hρ, rfl⟩ hn25
  refine st_es hρ (Z 5 ?_)
  refine o_lenI rfl rfl rfl z_slT126 rfl (hs11.up hl25) (Z 2 ?_)
  refine I2 h (fun h => ?_) (fun h => ?_)
  ·refine Z 11 ?_
   obtain ⟨q26, hf27, h⟩ := h
   refine o_index rfl rfl rfl z_slT126 rfl rfl (hs11.up hl25) rfl hf27 (fun b28 of29 vs hc30 hrep => ?_)
   obtain ⟨_, _, rfl, rfl, ⟨_, _, rfl, rfl, ⟨_, _, rfl, rfl, ⟨_, _, rfl, rfl, ⟨_, _, rfl, rfl, ⟨_, _, rfl, rfl, rfl⟩⟩⟩⟩⟩⟩ := hrep
   refine o_fieldAddr rfl rfl rfl z_field129_1 rfl ?_
   refine o_loadI (v := .I q26.2.1) rfl rfl rfl z_sc3 rfl (hc30 1 _ rfl) ?_
   obtain ⟨hf31, hf32, h⟩ := h
   refine o_indexA rfl rfl rfl z_arr143 rfl rfl hf31 hf32 ?_
   refine o_storeV (j := 1) (q26.2.1.toNat) (f := Value.bool) (zz := false) (a := true) (l := 7) (xs := [s25.2.1, s25.2.2.1, s25.2.2.2.1, s25.t4.1, s25.t4.2.1, s25.t4.2.2.1, s25.t4.2.2.2.1]) [] [] rfl rfl rfl z_size4 rfl rfl rfl rfl rfl (by simp only [List.length_cons, List.length_nil] <;> omega) (by omega) (Z 2 ?_)
   refine cutS τ25 (fun (s33 : Int × Bool × Bool × Bool × Bool × Bool × Bool) => ref17_Check_j7 s25 q26 s33 o25) (fun s33 => [(1, .Pb b5), (2, .I 0), (3, v10), (4, .Pb b12), (5, .Pb b13), (6, .I s25.1), (7, .I s33.1)]) (fun s33 => [[(b5, .cells (lM a0 v1 v2).toArray 37 (0, 0))], [(b12, .cells #[.bool ((putN 7 false [s25.2.1, s25.2.2.1, s25.2.2.2.1, s25.t4.1, s25.t4.2.1, s25.t4.2.2.1, s25.t4.2.2.2.1] q26.2.1.toNat true).getD 0 false), .bool ((putN 7 false [s25.2.1, s25.2.2.1, s25.2.2.2.1, s25.t4.1, s25.t4.2.1, s25.t4.2.2.1, s25.t4.2.2.2.1] q26.2.1.toNat true).getD 1 false), .bool ((putN 7 false [s25.2.1, s25.2.2.1, s25.2.2.2.1, s25.t4.1, s25.t4.2.1, s25.t4.2.2.1, s25.t4.2.2.2.1] q26.2.1.toNat true).getD 2 false), .bool ((putN 7 false [s25.2.1, s25.2.2.1, s25.2.2.2.1, s25.t4.1, s25.t4.2.1, s25.t4.2.2.1, s25.t4.2.2.2.1] q26.2.1.toNat true).getD 3 false), .bool ((putN 7 false [s25.2.1, s25.2.2.1, s25.2.2.2.1, s25.t4.1, s25.t4.2.1, s25.t4.2.2.1, s25.t4.2.2.2.1] q26.2.1.toNat true).getD 4 false), .bool ((putN 7 false [s25.2.1, s25.2.2.1, s25.2.2.2.1, s25.t4.1, s25.t4.2.1, s25.t4.2.2.1, s25.t4.2.2.2.1] q26.2.1.toNat true).getD 5 false), .bool ((putN 7 false [s25.2.1, s25.2.2.1, s25.2.2.2.1, s25.t4.1, s25.t4.2.1, s25.t4.2.2.1, s25.t4.2.2.2.1] q26.2.1.toNat true).getD 6 false)] 143 (0, 0))], [(b13, .cells #[.bool s33.2.1, .bool s33.2.2.1, .bool s33.2.2.2.1, .bool s33.t4.1, .bool s33.t4.2.1, .bool s33.t4.2.2] 144 (0, 0))]]) (fun s33 τ33 h hl33 => (Z 5 ?_)) (fun hk33 => ?_)
   ·refine I2 h (fun h => ?_) (fun h => ?_)
    ·refine Z 5 ?_
     refine st_ord [] _ rfl ?_
     obtain rfl := he25 _ h
     replace h := hA25
     obtain rfl := h.symm
     exact RT func38 rfl ((hl9.trans hl25).trans hl33) ⟨rfl, rfl⟩
    ·refine Z 7 ?_
     exact hn25 _ _ _ _ h ⟨(hl25.trans hl33), rfl, rfl⟩
   refine Z 4 ?_
   obtain ⟨q34, hf35, h⟩ := h
   refine o_index rfl rfl rfl z_slT126 rfl rfl (hs11.up hl25) rfl hf35 (fun b36 of37 vs hc38 hrep => ?_)
   obtain ⟨_, _, rfl, rfl, ⟨_, _, rfl, rfl, ⟨_, _, rfl, rfl, ⟨_, _, rfl, rfl, ⟨_, _, rfl, rfl, ⟨_, _, rfl, rfl, rfl⟩⟩⟩⟩⟩⟩ := hrep
   refine o_fieldAddr rfl rfl rfl z_field129_1 rfl ?_
   refine o_loadI (v := .I q34.2.1) rfl rfl rfl z_sc3 rfl (hc38 1 _ rfl) (Z 7 ?_)
   refine I2 h (fun h => ?_) (fun h => ?_)
   ·refine ZZ 3 [0] ?_
    obtain ⟨r39, hr40, h⟩ := h
    refine SC z_en77 (ref17_path_ok hr40 τ25 (hs3.up (hl9.trans hl25))) ?_
    rintro _ τ41 _ hl42 ⟨rfl, rfl⟩
    refine Z 3 ?_
    exact hk33 _ _ _ ⟨(r39, s25.t4.t4.1, s25.t4.t4.2.1, s25.t4.t4.2.2.1, s25.t4.t4.2.2.2.1, s25.t4.t4.t4.1, s25.t4.t4.t4.2), h, hl42, rfl, rfl⟩
   ·refine Z 5 ?_
    refine I2 h (fun h => ?_) (fun h => ?_)
    ·refine ZZ 3 [0] ?_
     obtain ⟨r43, hr44, h⟩ := h
     refine SC z_en78 (ref17_cells_ok hr44 τ25 (hs4.up (hl9.trans hl25))) ?_
     rintro _ τ45 _ hl46 ⟨rfl, rfl⟩
     refine Z 3 ?_
     exact hk33 _ _ _ ⟨(r43, s25.t4.t4.1, s25.t4.t4.2.1, s25.t4.t4.2.2.1, s25.t4.t4.2.2.2.1, s25.t4.t4.t4.1, s25.t4.t4.t4.2), h, hl46, rfl, rfl⟩
    ·refine Z 5 ?_
     refine I2 h (fun h => ?_) (fun h => ?_)
     ·refine ZZ 3 [0] ?_
      obtain ⟨r47, hr48, h⟩ := h
      refine SC z_en79 (ref17_text_ok hr48 τ25) ?_
      rintro _ τ49 _ hl50 ⟨rfl, rfl⟩
      refine Z 3 ?_
      exact hk33 _ _ _ ⟨(r47, s25.t4.t4.1, s25.t4.t4.2.1, s25.t4.t4.2.2.1, s25.t4.t4.2.2.2.1, s25.t4.t4.t4.1, s25.t4.t4.t4.2), h, hl50, rfl, rfl⟩
     ·refine Z 5 ?_
      refine I2 h (fun h => ?_) (fun h => ?_)
      ·refine ZZ 3 [0] ?_
       obtain ⟨r51, hr52, h⟩ := h
       refine SC z_en79 (ref17_text_ok hr52 τ25) ?_
       rintro _ τ53 _ hl54 ⟨rfl, rfl⟩
       refine Z 3 ?_
       exact hk33 _ _ _ ⟨(r51, s25.t4.t4.1, s25.t4.t4.2.1, s25.t4.t4.2.2.1, s25.t4.t4.2.2.2.1, s25.t4.t4.t4.1, s25.t4.t4.t4.2), h, hl54, rfl, rfl⟩
      ·refine Z 4 ?_
       obtain ⟨q55, hf56, h⟩ := h
       refine o_index rfl rfl rfl z_slT126 rfl rfl (hs11.up hl25) rfl hf56 (fun b57 of58 vs hc59 hrep => ?_)
       obtain ⟨_, _, rfl, rfl, ⟨_, _, rfl, rfl, ⟨_, _, rfl, rfl, ⟨_, _, rfl, rfl, ⟨_, _, rfl, rfl, ⟨_, _, rfl, rfl, rfl⟩⟩⟩⟩⟩⟩ := hrep
       refine o_fieldAddr rfl rfl rfl z_field129_2 rfl ?_
       refine o_loadI (v := .I q55.2.2.1) rfl rfl rfl z_sc3 rfl (hc59 2 _ rfl) ?_
       obtain ⟨hf60, hf61, h⟩ := h
       refine o_indexA rfl rfl rfl z_arr144 rfl rfl hf60 hf61 ?_
       refine o_storeV (j := 2) (q55.2.2.1.toNat) (f := Value.bool) (zz := false) (a := true) (l := 6) (xs := [s25.t4.t4.1, s25.t4.t4.2.1, s25.t4.t4.2.2.1, s25.t4.t4.2.2.2.1, s25.t4.t4.t4.1, s25.t4.t4.t4.2]) [] [] rfl rfl rfl z_size4 rfl rfl rfl rfl rfl (by simp only [List.length_cons, List.length_nil] <;> omega) (by omega) (Z 2 ?_)
       obtain ⟨q62, hf63, hf67, hf68, q69, hf70, q75, hf76, hf80, hf81, q82, hf83, h⟩ := h
       let cc74 : Prop := (decide ((a0.2.1.getD q62.2.2.1.toNat 0) < q69.2.2.2.1)) = false
       refine st_draw 30 (dl [.v (v10), .v (.I s25.1), .t fun τ v => ∃ (b64 of65 : Nat) (vsb64 : K10), (.pointer (some ⟨b64, of65, none⟩) : Value) = v ∧ CelN τ ⟨b64, of65, none⟩ vsb64 ∧ (kP kS (kP (kI .i64) (kP (kI .i64) (kP (kI .i64) (kP (kI .i64) (kP (kI .i64) (kI .i64))))))).rep τ vsb64 q62, .t fun τ v => ∃ (b64 of65 : Nat) (vsb64 : K10), (.pointer (some ⟨b64, of65 + 2, none⟩) : Value) = v ∧ CelN τ ⟨b64, of65, none⟩ vsb64 ∧ (kP kS (kP (kI .i64) (kP (kI .i64) (kP (kI .i64) (kP (kI .i64) (kP (kI .i64) (kI .i64))))))).rep τ vsb64 q62, .v (.I q62.2.2.1), .v (.pointer (some ⟨b5, 1, none⟩)), .v (.pointer (some ⟨b5, 1 + q62.2.2.1.toNat * 1, none⟩)), .v (.I (a0.2.1.getD q62.2.2.1.toNat 0)), .v (v10), .v (.I s25.1), .t fun τ v => ∃ (b71 of72 : Nat) (vsb71 : K10), (.pointer (some ⟨b71, of72, none⟩) : Value) = v ∧ CelN τ ⟨b71, of72, none⟩ vsb71 ∧ (kP kS (kP (kI .i64) (kP (kI .i64) (kP (kI .i64) (kP (kI .i64) (kP (kI .i64) (kI .i64))))))).rep τ vsb71 q69, .t fun τ v => ∃ (b71 of72 : Nat) (vsb71 : K10), (.pointer (some ⟨b71, of72 + 3, none⟩) : Value) = v ∧ CelN τ ⟨b71, of72, none⟩ vsb71 ∧ (kP kS (kP (kI .i64) (kP (kI .i64) (kP (kI .i64) (kP (kI .i64) (kP (kI .i64) (kI .i64))))))).rep τ vsb71 q69, .v (.I q69.2.2.2.1), .v (.bool (decide ((a0.2.1.getD q62.2.2.1.toNat 0) < q69.2.2.2.1))), .v (.bool (decide ((a0.2.1.getD q62.2.2.1.toNat 0) < q69.2.2.2.1))), .g cc74 (v10), .g cc74 (.I s25.1), .h cc74 fun τ v => ∃ (b77 of78 : Nat) (vsb77 : K10), (.pointer (some ⟨b77, of78, none⟩) : Value) = v ∧ CelN τ ⟨b77, of78, none⟩ vsb77 ∧ (kP kS (kP (kI .i64) (kP (kI .i64) (kP (kI .i64) (kP (kI .i64) (kP (kI .i64) (kI .i64))))))).rep τ vsb77 q75, .h cc74 fun τ v => ∃ (b77 of78 : Nat) (vsb77 : K10), (.pointer (some ⟨b77, of78 + 2, none⟩) : Value) = v ∧ CelN τ ⟨b77, of78, none⟩ vsb77 ∧ (kP kS (kP (kI .i64) (kP (kI .i64) (kP (kI .i64) (kP (kI .i64) (kP (kI .i64) (kI .i64))))))).rep τ vsb77 q75, .g cc74 (.I q75.2.2.1), .g cc74 (.pointer (some ⟨b5, 1, none⟩)), .g cc74 (.pointer (some ⟨b5, 1 + q75.2.2.1.toNat * 1, none⟩)), .g cc74 (.I (a0.2.1.getD q75.2.2.1.toNat 0)), .g cc74 (v10), .g cc74 (.I s25.1), .h cc74 fun τ v => ∃ (b84 of85 : Nat) (vsb84 : K10), (.pointer (some ⟨b84, of85, none⟩) : Value) = v ∧ CelN τ ⟨b84, of85, none⟩ vsb84 ∧ (kP kS (kP (kI .i64) (kP (kI .i64) (kP (kI .i64) (kP (kI .i64) (kP (kI .i64) (kI .i64))))))).rep τ vsb84 q82, .h cc74 fun τ v => ∃ (b84 of85 : Nat) (vsb84 : K10), (.pointer (some ⟨b84, of85 + 4, none⟩) : Value) = v ∧ CelN τ ⟨b84, of85, none⟩ vsb84 ∧ (kP kS (kP (kI .i64) (kP (kI .i64) (kP (kI .i64) (kP (kI .i64) (kP (kI .i64) (kI .i64))))))).rep τ vsb84 q82, .g cc74 (.I q82.t4.1), .g cc74 (.bool (decide (q82.t4.1 < (a0.2.1.getD q75.2.2.1.toNat 0)))), .v (.bool ((decide ((a0.2.1.getD q62.2.2.1.toNat 0) < q69.2.2.2.1)) || (decide (q82.t4.1 < (a0.2.1.getD q75.2.2.1.toNat 0)))))]) (fun _ _ => []) z_mix rfl (dl_mono (by exact ⟨fun _ _ _ hl ⟨b64, of65, vsb64, hv, hc66, hrepb64⟩ => ⟨b64, of65, vsb64, hv, hc66.up hl, Kd.mono _ hl hrepb64⟩, ⟨fun _ _ _ hl ⟨b64, of65, vsb64, hv, hc66, hrepb64⟩ => ⟨b64, of65, vsb64, hv, hc66.up hl, Kd.mono _ hl hrepb64⟩, ⟨fun _ _ _ hl ⟨b71, of72, vsb71, hv, hc73, hrepb71⟩ => ⟨b71, of72, vsb71, hv, hc73.up hl, Kd.mono _ hl hrepb71⟩, ⟨fun _ _ _ hl ⟨b71, of72, vsb71, hv, hc73, hrepb71⟩ => ⟨b71, of72, vsb71, hv, hc73.up hl, Kd.mono _ hl hrepb71⟩, ⟨fun _ _ _ hl ⟨b77, of78, vsb77, hv, hc79, hrepb77⟩ => ⟨b77, of78, vsb77, hv, hc79.up hl, Kd.mono _ hl hrepb77⟩, ⟨fun _ _ _ hl ⟨b77, of78, vsb77, hv, hc79, hrepb77⟩ => ⟨b77, of78, vsb77, hv, hc79.up hl, Kd.mono _ hl hrepb77⟩, ⟨fun _ _ _ hl ⟨b84, of85, vsb84, hv, hc86, hrepb84⟩ => ⟨b84, of85, vsb84, hv, hc86.up hl, Kd.mono _ hl hrepb84⟩, ⟨fun _ _ _ hl ⟨b84, of85, vsb84, hv, hc86, hrepb84⟩ => ⟨b84, of85, vsb84, hv, hc86.up hl, Kd.mono _ hl hrepb84⟩, trivial⟩⟩⟩⟩⟩⟩⟩⟩)) (allB_cons (allB_cons (allB_cons (allB_cons (allB_cons (allB_cons (allB_cons (allB_cons (allB_cons (allB_cons (allB_cons (allB_cons (allB_cons (allB_cons (allB_cons (allB_cons (allB_cons (allB_cons (allB_cons (allB_cons (allB_cons (allB_cons (allB_cons (allB_cons (allB_cons (allB_cons (allB_cons (allB_cons (allB_cons (allB_cons allB_nil (p1 dA)) (p1 dA)) ?_) ?_) ?_) (p1 dA)) ?_) ?_) (p1 dA)) (p1 dA)) ?_) ?_) ?_) (p1 dA)) (p1 dA)) (p1 (dG []))) (p1 (dG []))) ?_) ?_) ?_) (p1 (dG []))) ?_) ?_) (p1 (dG []))) (p1 (dG []))) ?_) ?_) ?_) (p1 (dG [22, 27]))) (p1 dO)) ?_
       ·intro ρ' τ pq rs hl hd hq hk
        obtain ⟨_, e0, rfl⟩ := hd 0 rfl
        obtain ⟨_, e1, rfl⟩ := hd 1 rfl
        refine o_index rfl rfl rfl z_slT126 rfl e0 (hs11.up (hl25.trans hl)) e1 hf63 (fun b64 of65 vsb64 hc66 hrepb64 => ?_)
        exact st_addNil (hk _ _ LR ⟨b64, of65, _, rfl, hc66, hrepb64⟩)
       ·intro ρ' τ pq rs hl hd hq hk
        obtain ⟨_, e2, b64, of65, vsb64, rfl, hc66, hrepb64⟩ := hd 2 rfl
        have hrepb64 := hrepb64
        obtain ⟨_, _, rfl, rfl, ⟨_, _, rfl, rfl, ⟨_, _, rfl, rfl, ⟨_, _, rfl, rfl, ⟨_, _, rfl, rfl, ⟨_, _, rfl, rfl, rfl⟩⟩⟩⟩⟩⟩ := hrepb64
        refine o_fieldAddr rfl rfl rfl z_field129_2 e2 ?_
        exact st_addNil (hk _ _ LR ⟨b64, of65, _, rfl, hc66, hrepb64⟩)
       ·intro ρ' τ pq rs hl hd hq hk
        obtain ⟨_, e3, b64, of65, vsb64, rfl, hc66, hrepb64⟩ := hd 3 rfl
        have hrepb64 := hrepb64
        obtain ⟨_, _, rfl, rfl, ⟨_, _, rfl, rfl, ⟨_, _, rfl, rfl, ⟨_, _, rfl, rfl, ⟨_, _, rfl, rfl, ⟨_, _, rfl, rfl, rfl⟩⟩⟩⟩⟩⟩ := hrepb64
        refine o_loadI (v := .I q62.2.2.1) rfl rfl rfl z_sc3 e3 (hc66 2 _ rfl) ?_
        exact st_addNil (hk _ _ LR rfl)
       ·intro ρ' τ pq rs hl hd hq hk
        obtain ⟨_, e4, rfl⟩ := hd 4 rfl
        obtain ⟨_, e5, rfl⟩ := hd 5 rfl
        refine o_indexA rfl rfl rfl z_arr22 e5 e4 hf67 hf68 ?_
        exact st_addNil (hk _ _ LR rfl)
       ·intro ρ' τ pq rs hl hd hq hk
        obtain ⟨_, e6, rfl⟩ := hd 6 rfl
        refine o_loadV (j := 0) (q62.2.2.1.toNat) (f := (Value.int .i64)) (zz := 0) (l := 6) (xs := a0.2.1) [.I a0.1] [v1, v2, .string a0.t4.1, .string a0.t4.2] rfl rfl rfl z_sc3 e6 rfl (by simp only [List.length_cons, List.length_nil] <;> omega) (by omega) ?_
        exact st_addNil (hk _ _ LR rfl)
       ·intro ρ' τ pq rs hl hd hq hk
        obtain ⟨_, e8, rfl⟩ := hd 8 rfl
        obtain ⟨_, e9, rfl⟩ := hd 9 rfl
        refine o_index rfl rfl rfl z_slT126 rfl e8 (hs11.up (hl25.trans hl)) e9 hf70 (fun b71 of72 vsb71 hc73 hrepb71 => ?_)
        exact st_addNil (hk _ _ LR ⟨b71, of72, _, rfl, hc73, hrepb71⟩)
       ·intro ρ' τ pq rs hl hd hq hk
        obtain ⟨_, e10, b71, of72, vsb71, rfl, hc73, hrepb71⟩ := hd 10 rfl
        have hrepb71 := hrepb71
        obtain ⟨_, _, rfl, rfl, ⟨_, _, rfl, rfl, ⟨_, _, rfl, rfl, ⟨_, _, rfl, rfl, ⟨_, _, rfl, rfl, ⟨_, _, rfl, rfl, rfl⟩⟩⟩⟩⟩⟩ := hrepb71
        refine o_fieldAddr rfl rfl rfl z_field129_3 e10 ?_
        exact st_addNil (hk _ _ LR ⟨b71, of72, _, rfl, hc73, hrepb71⟩)
       ·intro ρ' τ pq rs hl hd hq hk
        obtain ⟨_, e11, b71, of72, vsb71, rfl, hc73, hrepb71⟩ := hd 11 rfl
        have hrepb71 := hrepb71
        obtain ⟨_, _, rfl, rfl, ⟨_, _, rfl, rfl, ⟨_, _, rfl, rfl, ⟨_, _, rfl, rfl, ⟨_, _, rfl, rfl, ⟨_, _, rfl, rfl, rfl⟩⟩⟩⟩⟩⟩ := hrepb71
        refine o_loadI (v := .I q69.2.2.2.1) rfl rfl rfl z_sc3 e11 (hc73 3 _ rfl) ?_
        exact st_addNil (hk _ _ LR rfl)
       ·intro ρ' τ pq rs hl hd hq hk
        obtain ⟨_, e14, rfl⟩ := hd 14 rfl
        obtain ⟨w15, e15, t15⟩ := hd 15 rfl
        obtain ⟨w16, e16, t16⟩ := hd 16 rfl
        by_cases hG : (decide ((a0.2.1.getD q62.2.2.1.toNat 0) < q69.2.2.2.1)) = false
        ·have hC := hG
         replace hf76 := hf76 hC
         obtain ⟨rfl⟩ := t15.1 hC
         obtain ⟨rfl⟩ := t16.1 hC
         refine o_index rfl (wants_of rfl e14 hG) rfl z_slT126 rfl e15 (hs11.up (hl25.trans hl)) e16 hf76 (fun b77 of78 vsb77 hc79 hrepb77 => ?_)
         exact st_addNil (hk _ _ LR ⟨fun _ => ⟨b77, of78, _, rfl, hc79, hrepb77⟩, fun hn => absurd hC hn⟩)
        ·refine st_pass rfl rfl rfl e14 (beq_off hG) rfl ?_
         exact st_addNil (hk _ _ LR ⟨fun h => absurd h hG, fun _ => rfl⟩)
       ·intro ρ' τ pq rs hl hd hq hk
        obtain ⟨_, e14, rfl⟩ := hd 14 rfl
        obtain ⟨w17, e17, t17⟩ := hd 17 rfl
        by_cases hG : (decide ((a0.2.1.getD q62.2.2.1.toNat 0) < q69.2.2.2.1)) = false
        ·have hC := hG
         obtain ⟨b77, of78, vsb77, rfl, hc79, hrepb77⟩ := t17.1 hC
         have hrepb77 := hrepb77
         obtain ⟨_, _, rfl, rfl, ⟨_, _, rfl, rfl, ⟨_, _, rfl, rfl, ⟨_, _, rfl, rfl, ⟨_, _, rfl, rfl, ⟨_, _, rfl, rfl, rfl⟩⟩⟩⟩⟩⟩ := hrepb77
         refine o_fieldAddr rfl (wants_of rfl e14 hG) rfl z_field129_2 e17 ?_
         exact st_addNil (hk _ _ LR ⟨fun _ => ⟨b77, of78, _, rfl, hc79, hrepb77⟩, fun hn => absurd hC hn⟩)
        ·refine st_pass rfl rfl rfl e14 (beq_off hG) rfl ?_
         exact st_addNil (hk _ _ LR ⟨fun h => absurd h hG, fun _ => rfl⟩)
       ·intro ρ' τ pq rs hl hd hq hk
        obtain ⟨_, e14, rfl⟩ := hd 14 rfl
        obtain ⟨w18, e18, t18⟩ := hd 18 rfl
        by_cases hG : (decide ((a0.2.1.getD q62.2.2.1.toNat 0) < q69.2.2.2.1)) = false
        ·have hC := hG
         obtain ⟨b77, of78, vsb77, rfl, hc79, hrepb77⟩ := t18.1 hC
         have hrepb77 := hrepb77
         obtain ⟨_, _, rfl, rfl, ⟨_, _, rfl, rfl, ⟨_, _, rfl, rfl, ⟨_, _, rfl, rfl, ⟨_, _, rfl, rfl, ⟨_, _, rfl, rfl, rfl⟩⟩⟩⟩⟩⟩ := hrepb77
         refine o_loadI (v := .I q75.2.2.1) rfl (wants_of rfl e14 hG) rfl z_sc3 e18 (hc79 2 _ rfl) ?_
         exact st_addNil (hk _ _ LR ⟨fun _ => rfl, fun hn => absurd hC hn⟩)
        ·refine st_pass rfl rfl rfl e14 (beq_off hG) rfl ?_
         exact st_addNil (hk _ _ LR ⟨fun h => absurd h hG, fun _ => rfl⟩)
       ·intro ρ' τ pq rs hl hd hq hk
        obtain ⟨_, e14, rfl⟩ := hd 14 rfl
        obtain ⟨w19, e19, t19⟩ := hd 19 rfl
        obtain ⟨w20, e20, t20⟩ := hd 20 rfl
        by_cases hG : (decide ((a0.2.1.getD q62.2.2.1.toNat 0) < q69.2.2.2.1)) = false
        ·have hC := hG
         replace hf80 := hf80 hC
         replace hf81 := hf81 hC
         obtain ⟨rfl⟩ := t19.1 hC
         obtain ⟨rfl⟩ := t20.1 hC
         refine o_indexA rfl (wants_of rfl e14 hG) rfl z_arr22 e20 e19 hf80 hf81 ?_
         exact st_addNil (hk _ _ LR ⟨fun _ => rfl, fun hn => absurd hC hn⟩)
        ·refine st_pass rfl rfl rfl e14 (beq_off hG) rfl ?_
         exact st_addNil (hk _ _ LR ⟨fun h => absurd h hG, fun _ => rfl⟩)
       ·intro ρ' τ pq rs hl hd hq hk
        obtain ⟨_, e14, rfl⟩ := hd 14 rfl
        obtain ⟨w21, e21, t21⟩ := hd 21 rfl
        by_cases hG : (decide ((a0.2.1.getD q62.2.2.1.toNat 0) < q69.2.2.2.1)) = false
        ·have hC := hG
         obtain ⟨rfl⟩ := t21.1 hC
         replace hf80 := hf80 hC
         replace hf81 := hf81 hC
         refine o_loadV (j := 0) (q75.2.2.1.toNat) (f := (Value.int .i64)) (zz := 0) (l := 6) (xs := a0.2.1) [.I a0.1] [v1, v2, .string a0.t4.1, .string a0.t4.2] rfl (wants_of rfl e14 hG) rfl z_sc3 e21 rfl (by simp only [List.length_cons, List.length_nil] <;> omega) (by omega) ?_
         exact st_addNil (hk _ _ LR ⟨fun _ => rfl, fun hn => absurd hC hn⟩)
        ·refine st_pass rfl rfl rfl e14 (beq_off hG) rfl ?_
         exact st_addNil (hk _ _ LR ⟨fun h => absurd h hG, fun _ => rfl⟩)
       ·intro ρ' τ pq rs hl hd hq hk
        obtain ⟨_, e14, rfl⟩ := hd 14 rfl
        obtain ⟨w23, e23, t23⟩ := hd 23 rfl
        obtain ⟨w24, e24, t24⟩ := hd 24 rfl
        by_cases hG : (decide ((a0.2.1.getD q62.2.2.1.toNat 0) < q69.2.2.2.1)) = false
        ·have hC := hG
         replace hf83 := hf83 hC
         obtain ⟨rfl⟩ := t23.1 hC
         obtain ⟨rfl⟩ := t24.1 hC
         refine o_index rfl (wants_of rfl e14 hG) rfl z_slT126 rfl e23 (hs11.up (hl25.trans hl)) e24 hf83 (fun b84 of85 vsb84 hc86 hrepb84 => ?_)
         exact st_addNil (hk _ _ LR ⟨fun _ => ⟨b84, of85, _, rfl, hc86, hrepb84⟩, fun hn => absurd hC hn⟩)
        ·refine st_pass rfl rfl rfl e14 (beq_off hG) rfl ?_
         exact st_addNil (hk _ _ LR ⟨fun h => absurd h hG, fun _ => rfl⟩)
       ·intro ρ' τ pq rs hl hd hq hk
        obtain ⟨_, e14, rfl⟩ := hd 14 rfl
        obtain ⟨w25, e25, t25⟩ := hd 25 rfl
        by_cases hG : (decide ((a0.2.1.getD q62.2.2.1.toNat 0) < q69.2.2.2.1)) = false
        ·have hC := hG
         obtain ⟨b84, of85, vsb84, rfl, hc86, hrepb84⟩ := t25.1 hC
         have hrepb84 := hrepb84
         obtain ⟨_, _, rfl, rfl, ⟨_, _, rfl, rfl, ⟨_, _, rfl, rfl, ⟨_, _, rfl, rfl, ⟨_, _, rfl, rfl, ⟨_, _, rfl, rfl, rfl⟩⟩⟩⟩⟩⟩ := hrepb84
         refine o_fieldAddr rfl (wants_of rfl e14 hG) rfl z_field129_4 e25 ?_
         exact st_addNil (hk _ _ LR ⟨fun _ => ⟨b84, of85, _, rfl, hc86, hrepb84⟩, fun hn => absurd hC hn⟩)
        ·refine st_pass rfl rfl rfl e14 (beq_off hG) rfl ?_
         exact st_addNil (hk _ _ LR ⟨fun h => absurd h hG, fun _ => rfl⟩)
       ·intro ρ' τ pq rs hl hd hq hk
        obtain ⟨_, e14, rfl⟩ := hd 14 rfl
        obtain ⟨w26, e26, t26⟩ := hd 26 rfl
        by_cases hG : (decide ((a0.2.1.getD q62.2.2.1.toNat 0) < q69.2.2.2.1)) = false
        ·have hC := hG
         obtain ⟨b84, of85, vsb84, rfl, hc86, hrepb84⟩ := t26.1 hC
         have hrepb84 := hrepb84
         obtain ⟨_, _, rfl, rfl, ⟨_, _, rfl, rfl, ⟨_, _, rfl, rfl, ⟨_, _, rfl, rfl, ⟨_, _, rfl, rfl, ⟨_, _, rfl, rfl, rfl⟩⟩⟩⟩⟩⟩ := hrepb84
         refine o_loadI (v := .I q82.t4.1) rfl (wants_of rfl e14 hG) rfl z_sc3 e26 (hc86 4 _ rfl) ?_
         exact st_addNil (hk _ _ LR ⟨fun _ => rfl, fun hn => absurd hC hn⟩)
        ·refine st_pass rfl rfl rfl e14 (beq_off hG) rfl ?_
         exact st_addNil (hk _ _ LR ⟨fun h => absurd h hG, fun _ => rfl⟩)
       intro ρ' τ87 vals hl87 hv hq
       refine st_ord [0, 0, 0] _ rfl ?_
       refine st_env (ρ' := [(67, .bool ((decide ((a0.2.1.getD q62.2.2.1.toNat 0) < q69.2.2.2.1)) || (decide (q82.t4.1 < (a0.2.1.getD q75.2.2.1.toNat 0))))), (1, .Pb b5), (2, .I 0), (3, v10), (4, .Pb b12), (5, .Pb b13), (6, .I s25.1), (7, .I 0)]) ⟨(lv1 hv 29 rfl rfl), oT hq 1, oT hq 2, oT hq 3, oT hq 4, oT hq 5, oT hq 6, oT hq 7, trivial⟩ ?_
       refine st_end ?_
       refine I2 h (fun h => ?_) (fun h => ?_)
       ·refine Z 4 ?_
        exact hk33 _ _ _ ⟨(5, ((putN 6 false [s25.t4.t4.1, s25.t4.t4.2.1, s25.t4.t4.2.2.1, s25.t4.t4.2.2.2.1, s25.t4.t4.t4.1, s25.t4.t4.t4.2] q55.2.2.1.toNat true).getD 0 false), ((putN 6 false [s25.t4.t4.1, s25.t4.t4.2.1, s25.t4.t4.2.2.1, s25.t4.t4.2.2.2.1, s25.t4.t4.t4.1, s25.t4.t4.t4.2] q55.2.2.1.toNat true).getD 1 false), ((putN 6 false [s25.t4.t4.1, s25.t4.t4.2.1, s25.t4.t4.2.2.1, s25.t4.t4.2.2.2.1, s25.t4.t4.t4.1, s25.t4.t4.t4.2] q55.2.2.1.toNat true).getD 2 false), ((putN 6 false [s25.t4.t4.1, s25.t4.t4.2.1, s25.t4.t4.2.2.1, s25.t4.t4.2.2.2.1, s25.t4.t4.t4.1, s25.t4.t4.t4.2] q55.2.2.1.toNat true).getD 3 false), ((putN 6 false [s25.t4.t4.1, s25.t4.t4.2.1, s25.t4.t4.2.2.1, s25.t4.t4.2.2.2.1, s25.t4.t4.t4.1, s25.t4.t4.t4.2] q55.2.2.1.toNat true).getD 4 false), ((putN 6 false [s25.t4.t4.1, s25.t4.t4.2.1, s25.t4.t4.2.2.1, s25.t4.t4.2.2.2.1, s25.t4.t4.t4.1, s25.t4.t4.t4.2] q55.2.2.1.toNat true).getD 5 false)), h, hl87, rfl, rfl⟩
       ·refine Z 2 ?_
        exact hk33 _ _ _ ⟨(0, ((putN 6 false [s25.t4.t4.1, s25.t4.t4.2.1, s25.t4.t4.2.2.1, s25.t4.t4.2.2.2.1, s25.t4.t4.t4.1, s25.t4.t4.t4.2] q55.2.2.1.toNat true).getD 0 false), ((putN 6 false [s25.t4.t4.1, s25.t4.t4.2.1, s25.t4.t4.2.2.1, s25.t4.t4.2.2.2.1, s25.t4.t4.t4.1, s25.t4.t4.t4.2] q55.2.2.1.toNat true).getD 1 false), ((putN 6 false [s25.t4.t4.1, s25.t4.t4.2.1, s25.t4.t4.2.2.1, s25.t4.t4.2.2.2.1, s25.t4.t4.t4.1, s25.t4.t4.t4.2] q55.2.2.1.toNat true).getD 2 false), ((putN 6 false [s25.t4.t4.1, s25.t4.t4.2.1, s25.t4.t4.2.2.1, s25.t4.t4.2.2.2.1, s25.t4.t4.t4.1, s25.t4.t4.t4.2] q55.2.2.1.toNat true).getD 3 false), ((putN 6 false [s25.t4.t4.1, s25.t4.t4.2.1, s25.t4.t4.2.2.1, s25.t4.t4.2.2.2.1, s25.t4.t4.t4.1, s25.t4.t4.t4.2] q55.2.2.1.toNat true).getD 4 false), ((putN 6 false [s25.t4.t4.1, s25.t4.t4.2.1, s25.t4.t4.2.2.1, s25.t4.t4.2.2.2.1, s25.t4.t4.t4.1, s25.t4.t4.t4.2] q55.2.2.1.toNat true).getD 5 false)), h, hl87, rfl, rfl⟩
  ·refine st_exit rfl ?_
   obtain rfl := he25 _ h
   replace h := hA25
   exact hk14 _ _ _ ⟨(s25.2.1, s25.2.2.1, s25.2.2.2.1, s25.t4.1, s25.t4.2.1, s25.t4.2.2.1, s25.t4.2.2.2.1, s25.t4.t4.1, s25.t4.t4.2.1, s25.t4.t4.2.2.1, s25.t4.t4.2.2.2.1, s25.t4.t4.t4.1, s25.t4.t4.t4.2), h, hl25, rfl, rfl⟩
theorem ref20_Parse_ok {a0 : ByteArray} {r : (TyR) × Int} (h : ref20_Parse a0 r) (σ : Sto)  :
    Does prog 26 [.string a0] σ [] (fun v τ gs => ∃ (v86 v87 : Value), gs = [] ∧ .tuple [.agg (lM r.1 v86 v87).toArray, .I r.2].toArray = v ∧ Sl (kA .i64 2) τ v86 r.1.2.2.1 ∧ Sl (kI .i64) τ v87 r.1.2.2.2.1) := by
 refine CO func26 ntmps26 rfl (fun cs fs => Z 2 ?_)
 refine o_alloc rfl rfl rfl z_zero37 (fun b1 => Z 5 ?_)
 obtain ⟨r2, hr3, h⟩ := h
 refine SC z_en20 (ref20_Split_ok hr3 σ) ?_
 rintro _ τ4 _ hl5 ⟨v6, rfl, rfl, hs7⟩
 refine ZZ 5 [] ?_
 refine o_alloc rfl rfl rfl z_zero37 (fun b8 => ZZ 3 [0] ?_)
 refine cutS τ4 (fun (s9 : Int) => ref20_Parse_j1 r2 s9 r) (fun s9 => [(2, .Pb b1), (3, .I 0), (4, v6), (5, .Pb b8)]) (fun s9 => [[(b1, .cells lY.toArray 37 (0, 0))], [(b8, .cells #[.I s9, .I 0, .I 0, .I 0, .I 0, .I 0, .I 0, .N0, .N0, .E0, .E0] 37 (0, 0))]]) (fun s9 τ9 h hl9 => (ZZ 7 [1] ?_)) (fun hk9 => ?_)
 ·refine I2 h (fun h => ?_) (fun h => ?_)
  ·refine ZZ 6 [0] ?_
   obtain rfl := h.symm
   exact RC [.agg lY.toArray, .I 9] func26 ⟨cN 0 z_agg37, rfl, trivial⟩ (hl5.trans hl9) ⟨_, _, rfl, rfl, Sl.nil, Sl.nil⟩
  ·refine ZZ 5 [1] ?_
   obtain ⟨r10, hr11, h⟩ := h
   refine SC z_en67 (ref16_All_ok hr11 τ9) ?_
   rintro _ τ12 _ hl13 ⟨v14, rfl, rfl, hs15⟩
   refine Z 7 ?_
   refine st_cut (fun ρ τ16 gs => ∃ (s16 : K26) (v17 v19 : Value), ref20_Parse_j2 r2 s16 r ∧ τ12.Le τ16 ∧ ESub ρ [(2, .Pb b1), (3, .I 0), (4, v6), (5, .Pb b8), (8, .I s16.1)] ∧ gs = [[(b1, .cells lY.toArray 37 (0, 0))], [(b8, .cells #[.I s16.2.1, .I s16.2.2.1, .I s16.2.2.2.1, .I s16.t4.1, .I s16.t4.2.1, .I s16.t4.2.2.1, .I s16.t4.2.2.2.1, v17, v19, .string s16.t4.t4.2.2.1, .string s16.t4.t4.2.2.2] 37 (0, 0))]] ∧ Sl (kA .i64 2) τ16 v17 s16.t4.t4.1 ∧ Sl (kI .i64) τ16 v19 s16.t4.t4.2.1) ?_ (fun hk16 => ?_)
   ·rintro ρ16 τ16 gs16 ⟨s16, v17, v19, h, hl16, hρ, rfl, hs18, hs20⟩
    refine st_es hρ (Z 5 ?_)
    refine o_lenI rfl rfl rfl z_slT67 rfl (hs7.up ((hl9.trans hl13).trans hl16)) (Z 2 ?_)
    refine I2 h (fun h => ?_) (fun h => ?_)
    ·refine ZZ 6 [0] ?_
     obtain rfl := h.symm
     exact RC [.agg lY.toArray, .I 6] func26 ⟨cN 0 z_agg37, rfl, trivial⟩ (((hl5.trans hl9).trans hl13).trans hl16) ⟨_, _, rfl, rfl, Sl.nil, Sl.nil⟩
    ·refine ZZ 5 [1] ?_
     obtain ⟨r21, hr22, h⟩ := h
     refine SC z_en38 (ref17_Check_ok hr22 τ16 hs18 hs20) ?_
     rintro _ τ23 _ hl24 ⟨rfl, rfl⟩
     refine Z 2 ?_
     refine I2 h (fun h => ?_) (fun h => ?_)
     ·refine ZZ 4 [1] ?_
      obtain ⟨r25, hr26, h⟩ := h
      refine SC z_en38 (ref17_Check_ok hr26 τ23 (hs18.up hl24) (hs20.up hl24)) ?_
      rintro _ τ27 _ hl28 ⟨rfl, rfl⟩
      refine ZZ 3 [0] ?_
      obtain rfl := h.symm
      exact RC [.agg lY.toArray, .I r25] func26 ⟨cN 0 z_agg37, rfl, trivial⟩ (((((hl5.trans hl9).trans hl13).trans hl16).trans hl24).trans hl28) ⟨_, _, rfl, rfl, Sl.nil, Sl.nil⟩
     ·refine ZZ 4 [1] ?_
      refine o_store (j := 0) (vs := [.I s16.2.1, .I s16.2.2.1, .I s16.2.2.2.1, .I s16.t4.1, .I s16.t4.2.1, .I s16.t4.2.2.1, .I s16.t4.2.2.2.1, v17, v19, .string s16.t4.t4.2.2.1, .string s16.t4.t4.2.2.2]) (cs' := [.I s16.2.1, .I s16.2.2.1, .I s16.2.2.2.1, .I s16.t4.1, .I s16.t4.2.1, .I s16.t4.2.2.1, .I s16.t4.2.2.2.1, v17, v19, .string s16.t4.t4.2.2.1, .string s16.t4.t4.2.2.2]) rfl rfl rfl z_size37 rfl rfl rfl (o4 (ones_cons rfl (ones_cons rfl (ones_cons rfl (ones_cons (hs18.up hl24).one' (ones_cons (hs20.up hl24).one' (ones_cons rfl (ones_cons rfl ones_nil)))))))) rfl rfl rfl (Z 2 ?_)
      obtain rfl := h.symm
      exact RC [.agg #[.I s16.2.1, .I s16.2.2.1, .I s16.2.2.2.1, .I s16.t4.1, .I s16.t4.2.1, .I s16.t4.2.2.1, .I s16.t4.2.2.2.1, v17, v19, .string s16.t4.t4.2.2.1, .string s16.t4.t4.2.2.2], .I 0] func26 ⟨cN 0 z_agg37, rfl, trivial⟩ ((((hl5.trans hl9).trans hl13).trans hl16).trans hl24) ⟨_, _, rfl, rfl, (hs18.up hl24), (hs20.up hl24)⟩
   refine Z 4 ?_
   obtain ⟨e29, hL29, hA29⟩ := h
   refine st_loop hL29 (fun (s29 : K22) ρ τ29 gs => τ12.Le τ29 ∧ ∃ (v30 v32 : Value), ESub ρ [(2, .Pb b1), (3, .I 0), (4, v6), (5, .Pb b8), (7, v14), (8, .I s29.1), (9, .I s29.2.1)] ∧ gs = [[(b1, .cells lY.toArray 37 (0, 0))], [(b8, .cells #[.I s29.2.2.1, .I s29.2.2.2.1, .I s29.t4.1, .I s29.t4.2.1, .I s29.t4.2.2.1, .I s29.t4.2.2.2.1, .I s29.t4.t4.1, v30, v32, .string s29.t4.t4.2.2.2.1, .string s29.t4.t4.t4] 37 (0, 0))]] ∧ Sl (kA .i64 2) τ29 v30 s29.t4.t4.2.1 ∧ Sl (kI .i64) τ29 v32 s29.t4.t4.2.2.1) ⟨LR, _, _, rfl, rfl, Sl.nil, Sl.nil⟩ ?_
   rintro s29 o29 h he29 ρ29 τ29 gs29 ⟨hl29, v30, v32, hρ, rfl, hs31, hs33⟩ hn29
   refine st_es hρ (Z 5 ?_)
   refine o_lenI rfl rfl rfl z_slT126 rfl (hs15.up hl29) (Z 2 ?_)
   refine I2 h (fun h => ?_) (fun h => ?_)
   ·refine Z 8 ?_
    refine o_lenI rfl rfl rfl z_slT67 rfl (hs7.up ((hl9.trans hl13).trans hl29)) (Z 2 ?_)
    refine I2 h (fun h => ?_) (fun h => ?_)
    ·refine ZZ 6 [0] ?_
     obtain rfl := he29 _ h
     replace h := hA29
     obtain rfl := h.symm
     exact RC [.agg lY.toArray, .I 13] func26 ⟨cN 0 z_agg37, rfl, trivial⟩ (((hl5.trans hl9).trans hl13).trans hl29) ⟨_, _, rfl, rfl, Sl.nil, Sl.nil⟩
    ·refine Z 3 ?_
     obtain ⟨q34, hf35, q39, hf40, h⟩ := h
     refine st_draw 10 (dl [.v (v6), .v (.I s29.1), .t fun τ v => ∃ (b36 of37 : Nat) (vsb36 : K10), (.pointer (some ⟨b36, of37, none⟩) : Value) = v ∧ CelN τ ⟨b36, of37, none⟩ vsb36 ∧ kS.rep τ vsb36 q34, .v (.string q34), .v (v14), .v (.I s29.2.1), .t fun τ v => ∃ (b41 of42 : Nat) (vsb41 : K10), (.pointer (some ⟨b41, of42, none⟩) : Value) = v ∧ CelN τ ⟨b41, of42, none⟩ vsb41 ∧ (kP kS (kP (kI .i64) (kP (kI .i64) (kP (kI .i64) (kP (kI .i64) (kP (kI .i64) (kI .i64))))))).rep τ vsb41 q39, .t fun τ v => ∃ (b41 of42 : Nat) (vsb41 : K10), (.pointer (some ⟨b41, of42, none⟩) : Value) = v ∧ CelN τ ⟨b41, of42, none⟩ vsb41 ∧ (kP kS (kP (kI .i64) (kP (kI .i64) (kP (kI .i64) (kP (kI .i64) (kP (kI .i64) (kI .i64))))))).rep τ vsb41 q39, .v (.string q39.1), .v (.bool (!(decide (q34 = q39.1))))]) (fun _ _ => []) z_mix rfl (dl_mono ⟨fun _ _ _ hl ⟨b36, of37, vsb36, hv, hc38, hrepb36⟩ => ⟨b36, of37, vsb36, hv, hc38.up hl, Kd.mono _ hl hrepb36⟩, ⟨fun _ _ _ hl ⟨b41, of42, vsb41, hv, hc43, hrepb41⟩ => ⟨b41, of42, vsb41, hv, hc43.up hl, Kd.mono _ hl hrepb41⟩, ⟨fun _ _ _ hl ⟨b41, of42, vsb41, hv, hc43, hrepb41⟩ => ⟨b41, of42, vsb41, hv, hc43.up hl, Kd.mono _ hl hrepb41⟩, trivial⟩⟩⟩) (allB_cons (allB_cons (allB_cons (allB_cons (allB_cons (allB_cons (allB_cons (allB_cons (allB_cons (allB_cons allB_nil (p1 dA)) (p1 dA)) ?_) ?_) (p1 dA)) (p1 dA)) ?_) ?_) ?_) (p1 dA)) ?_
     ·intro ρ' τ pq rs hl hd hq hk
      obtain ⟨_, e0, rfl⟩ := hd 0 rfl
      obtain ⟨_, e1, rfl⟩ := hd 1 rfl
      refine o_index rfl rfl rfl z_slT67 rfl e0 (hs7.up (((hl9.trans hl13).trans hl29).trans hl)) e1 hf35 (fun b36 of37 vsb36 hc38 hrepb36 => ?_)
      exact st_addNil (hk _ _ LR ⟨b36, of37, _, rfl, hc38, hrepb36⟩)
     ·intro ρ' τ pq rs hl hd hq hk
      obtain ⟨_, e2, b36, of37, vsb36, rfl, hc38, hrepb36⟩ := hd 2 rfl
      have hrepb36 := hrepb36
      obtain rfl := hrepb36
      refine o_loadI (v := .string q34) rfl rfl rfl z_sc9 e2 (hc38 0 _ rfl) ?_
      exact st_addNil (hk _ _ LR rfl)
     ·intro ρ' τ pq rs hl hd hq hk
      obtain ⟨_, e4, rfl⟩ := hd 4 rfl
      obtain ⟨_, e5, rfl⟩ := hd 5 rfl
      refine o_index rfl rfl rfl z_slT126 rfl e4 (hs15.up (hl29.trans hl)) e5 hf40 (fun b41 of42 vsb41 hc43 hrepb41 => ?_)
      exact st_addNil (hk _ _ LR ⟨b41, of42, _, rfl, hc43, hrepb41⟩)
     ·intro ρ' τ pq rs hl hd hq hk
      obtain ⟨_, e6, b41, of42, vsb41, rfl, hc43, hrepb41⟩ := hd 6 rfl
      have hrepb41 := hrepb41
      obtain ⟨_, _, rfl, rfl, ⟨_, _, rfl, rfl, ⟨_, _, rfl, rfl, ⟨_, _, rfl, rfl, ⟨_, _, rfl, rfl, ⟨_, _, rfl, rfl, rfl⟩⟩⟩⟩⟩⟩ := hrepb41
      refine o_fieldAddr rfl rfl rfl z_field129_0 e6 ?_
      exact st_addNil (hk _ _ LR ⟨b41, of42, _, rfl, hc43, hrepb41⟩)
     ·intro ρ' τ pq rs hl hd hq hk
      obtain ⟨_, e7, b41, of42, vsb41, rfl, hc43, hrepb41⟩ := hd 7 rfl
      have hrepb41 := hrepb41
      obtain ⟨_, _, rfl, rfl, ⟨_, _, rfl, rfl, ⟨_, _, rfl, rfl, ⟨_, _, rfl, rfl, ⟨_, _, rfl, rfl, ⟨_, _, rfl, rfl, rfl⟩⟩⟩⟩⟩⟩ := hrepb41
      refine o_loadI (v := .string q39.1) rfl rfl rfl z_sc9 e7 (hc43 0 _ rfl) ?_
      exact st_addNil (hk _ _ LR rfl)
     intro ρ' τ44 vals hl44 hv hq
     refine st_ord [0, 0] _ rfl ?_
     refine st_env (ρ' := [(54, .bool (!(decide (q34 = q39.1)))), (2, .Pb b1), (3, .I 0), (4, v6), (5, .Pb b8), (7, v14), (8, .I s29.1), (9, .I s29.2.1)]) ⟨(lv1 hv 9 rfl rfl), oT hq 2, oT hq 3, oT hq 4, oT hq 5, oT hq 7, oT hq 8, oT hq 9, trivial⟩ ?_
     refine st_end ?_
     refine I2 h (fun h => ?_) (fun h => ?_)
     ·refine ZZ 6 [0] ?_
      obtain rfl := he29 _ h
      replace h := hA29
      obtain rfl := h.symm
      exact RC [.agg lY.toArray, .I 3] func26 ⟨cN 0 z_agg37, rfl, trivial⟩ ((((hl5.trans hl9).trans hl13).trans hl29).trans hl44) ⟨_, _, rfl, rfl, Sl.nil, Sl.nil⟩
     ·refine Z 7 ?_
      refine o_lenI rfl rfl rfl z_slT67 rfl (hs7.up (((hl9.trans hl13).trans hl29).trans hl44)) (Z 2 ?_)
      refine I2 h (fun h => ?_) (fun h => ?_)
      ·refine ZZ 6 [0] ?_
       obtain rfl := he29 _ h
       replace h := hA29
       obtain rfl := h.symm
       exact RC [.agg lY.toArray, .I 13] func26 ⟨cN 0 z_agg37, rfl, trivial⟩ ((((hl5.trans hl9).trans hl13).trans hl29).trans hl44) ⟨_, _, rfl, rfl, Sl.nil, Sl.nil⟩
      ·refine Z 2 ?_
       obtain ⟨q45, hf46, q50, hf51, r55, hr56, h⟩ := h
       refine st_d41 [[(b1, .cells lY.toArray 37 (0, 0))], [(b8, .cells #[.I s29.2.2.1, .I s29.2.2.2.1, .I s29.t4.1, .I s29.t4.2.1, .I s29.t4.2.2.1, .I s29.t4.2.2.2.1, .I s29.t4.t4.1, v30, v32, .string s29.t4.t4.2.2.2.1, .string s29.t4.t4.t4] 37 (0, 0))]] [] 16 2 [none, none, none, none, none, none, none, none, none, none, none, none, none, none, some (0, 0), some (0, 1)] [none, none, none, none, none, none, none, none, none, none, none, none, none, none, none, none] [[none, some 10, some 10]] [.v (.agg #[.I s29.2.2.1, .I s29.2.2.2.1, .I s29.t4.1, .I s29.t4.2.1, .I s29.t4.2.2.1, .I s29.t4.2.2.2.1, .I s29.t4.t4.1, v30, v32, .string s29.t4.t4.2.2.2.1, .string s29.t4.t4.t4]), .v (v14), .v (.I s29.2.1), .t fun τ v => ∃ (b47 of48 : Nat) (vsb47 : K10), (.pointer (some ⟨b47, of48, none⟩) : Value) = v ∧ CelN τ ⟨b47, of48, none⟩ vsb47 ∧ (kP kS (kP (kI .i64) (kP (kI .i64) (kP (kI .i64) (kP (kI .i64) (kP (kI .i64) (kI .i64))))))).rep τ vsb47 q45, .v (.agg (lA q45).toArray), .v (v6), .v (.I s29.1), .v (.I (i64.wrap (s29.1 + 1))), .t fun τ v => ∃ (b52 of53 : Nat) (vsb52 : K10), (.pointer (some ⟨b52, of53, none⟩) : Value) = v ∧ CelN τ ⟨b52, of53, none⟩ vsb52 ∧ kS.rep τ vsb52 q50, .v (.string q50), .t fun τ v => ∃ (v59 v60 : Value), (.tuple #[.agg (lM r55.1 v59 v60).toArray, .I r55.2] : Value) = v ∧ Sl (kA .i64 2) τ v59 r55.1.2.2.1 ∧ Sl (kI .i64) τ v60 r55.1.2.2.2.1, .t fun τ v => ∃ (v59 v60 : Value), (.tuple #[.agg (lM r55.1 v59 v60).toArray, .I r55.2] : Value) = v ∧ Sl (kA .i64 2) τ v59 r55.1.2.2.1 ∧ Sl (kI .i64) τ v60 r55.1.2.2.2.1, .t fun τ v => ∃ (v59 v60 : Value), (.agg (lM r55.1 v59 v60).toArray : Value) = v ∧ Sl (kA .i64 2) τ v59 r55.1.2.2.1 ∧ Sl (kI .i64) τ v60 r55.1.2.2.2.1, .v (.I r55.2), .t fun _ _ => True, .t fun _ _ => True] [[fun τ u F => F = [], fun τ u F => ∃ (b64 : Nat), F = [[(b64, .cells lY.toArray 37 (0, 0))]] ∧ .Pb b64 = u, fun τ u F => ∃ (b65 : Nat) (v66 v68 : Value), F = [[(b65, .cells (lM r55.1 v66 v68).toArray 37 (0, 0))]] ∧ .Pb b65 = u ∧ Sl (kA .i64 2) τ v66 r55.1.2.2.1 ∧ Sl (kI .i64) τ v68 r55.1.2.2.2.1]] rfl z_mix rfl ⟨fun _ _ _ hl ⟨b47, of48, vsb47, hv, hc49, hrepb47⟩ => ⟨b47, of48, vsb47, hv, hc49.up hl, Kd.mono _ hl hrepb47⟩, ⟨fun _ _ _ hl ⟨b52, of53, vsb52, hv, hc54, hrepb52⟩ => ⟨b52, of53, vsb52, hv, hc54.up hl, Kd.mono _ hl hrepb52⟩, ⟨fun _ _ _ hl ⟨v59, v60, hv, hs61, hs62⟩ => ⟨v59, v60, hv, hs61.up hl, hs62.up hl⟩, ⟨fun _ _ _ hl ⟨v59, v60, hv, hs61, hs62⟩ => ⟨v59, v60, hv, hs61.up hl, hs62.up hl⟩, ⟨fun _ _ _ hl ⟨v59, v60, hv, hs61, hs62⟩ => ⟨v59, v60, hv, hs61.up hl, hs62.up hl⟩, ⟨fun _ _ _ _ _ => trivial, ⟨fun _ _ _ _ _ => trivial, trivial⟩⟩⟩⟩⟩⟩⟩ ⟨⟨fun _ _ _ _ hl h => h, ⟨fun _ _ _ _ hl h => (let ⟨b64, hF, hU⟩ := h; ⟨b64, hF, hU⟩), ⟨fun _ _ _ _ hl h => (let ⟨b65, v66, v68, hF, hU, hs67, hs69⟩ := h; ⟨b65, v66, v68, hF, hU, hs67.up hl, hs69.up hl⟩), trivial⟩⟩⟩, trivial⟩ rfl rfl ?_ (allB_cons (allB_cons (allB_cons (allB_cons (allB_cons (allB_cons (allB_cons (allB_cons (allB_cons (allB_cons (allB_cons (allB_cons (allB_cons (allB_cons (allB_cons (allB_cons allB_nil ?_) (p4 dA)) (p4 dA)) ?_) ?_) (p4 dA)) (p4 dA)) (p4 dA)) ?_) ?_) ?_) ?_) ?_) ?_) ?_) ?_) ?_
       ·exact rfl
       ·intro ρ' τ pq rs hl hd hq hw hk
        refine o_loadN (j := 1) (vs := [.I s29.2.2.1, .I s29.2.2.2.1, .I s29.t4.1, .I s29.t4.2.1, .I s29.t4.2.2.1, .I s29.t4.2.2.2.1, .I s29.t4.t4.1, v30, v32, .string s29.t4.t4.2.2.2.1, .string s29.t4.t4.t4]) rfl rfl rfl z_agg37 (oT hq 5) rfl rfl ?_
        exact hk _ _ LR rfl
       ·intro ρ' τ pq rs hl hd hq hw hk
        obtain ⟨_, e1, rfl⟩ := hd 1 rfl _ rfl
        obtain ⟨_, e2, rfl⟩ := hd 2 rfl _ rfl
        refine o_index rfl rfl rfl z_slT126 rfl e1 (hs15.up ((hl29.trans hl44).trans hl)) e2 hf46 (fun b47 of48 vsb47 hc49 hrepb47 => ?_)
        exact hk _ _ LR ⟨b47, of48, _, rfl, hc49, hrepb47⟩
       ·intro ρ' τ pq rs hl hd hq hw hk
        obtain ⟨_, e3, b47, of48, vsb47, rfl, hc49, hrepb47⟩ := hd 3 rfl _ rfl
        have hrepb47 := hrepb47
        obtain ⟨_, _, rfl, rfl, ⟨_, _, rfl, rfl, ⟨_, _, rfl, rfl, ⟨_, _, rfl, rfl, ⟨_, _, rfl, rfl, ⟨_, _, rfl, rfl, rfl⟩⟩⟩⟩⟩⟩ := hrepb47
        refine o_loadIN (vs := (lA q45)) rfl rfl rfl z_agg129 e3 rfl (celn_part 0 rfl hc49) ?_
        exact hk _ _ LR rfl
       ·intro ρ' τ pq rs hl hd hq hw hk
        obtain ⟨_, e5, rfl⟩ := hd 5 rfl _ rfl
        obtain ⟨_, e7, rfl⟩ := hd 7 rfl _ rfl
        refine o_index rfl rfl rfl z_slT67 rfl e5 (hs7.up ((((hl9.trans hl13).trans hl29).trans hl44).trans hl)) e7 hf51 (fun b52 of53 vsb52 hc54 hrepb52 => ?_)
        exact hk _ _ LR ⟨b52, of53, _, rfl, hc54, hrepb52⟩
       ·intro ρ' τ pq rs hl hd hq hw hk
        obtain ⟨_, e8, b52, of53, vsb52, rfl, hc54, hrepb52⟩ := hd 8 rfl _ rfl
        have hrepb52 := hrepb52
        obtain rfl := hrepb52
        refine o_loadI (v := .string q50) rfl rfl rfl z_sc9 e8 (hc54 0 _ rfl) ?_
        exact hk _ _ LR rfl
       ·intro ρ' τ pq rs hl hd hq hw hk
        obtain ⟨_, e0, rfl⟩ := hd 0 rfl _ rfl
        obtain ⟨_, e4, rfl⟩ := hd 4 rfl _ rfl
        obtain ⟨_, e9, rfl⟩ := hd 9 rfl _ rfl
        refine st_call (foot := []) rfl rfl rfl rfl (evs_cons e0 (evs_cons e4 (evs_cons e9 rfl))) rfl (callV_fn z_en68 (ref20_value_ok hr56 τ (hs31.up (hl44.trans hl)) (hs33.up (hl44.trans hl)))) ?_
        rintro _ τ57 _ hl58 ⟨v59, v60, rfl, rfl, hs61, hs62⟩
        exact hk _ _ hl58 ⟨v59, v60, rfl, hs61, hs62⟩
       ·intro ρ' τ pq rs hl hd hq hw hk
        obtain ⟨_, e10, v59, v60, rfl, hs61, hs62⟩ := hd 10 rfl _ rfl
        refine o_move rfl rfl rfl e10 ?_
        exact hk _ _ LR ⟨v59, v60, rfl, hs61, hs62⟩
       ·intro ρ' τ pq rs hl hd hq hw hk
        obtain ⟨_, e11, v59, v60, rfl, hs61, hs62⟩ := hd 11 rfl _ rfl
        refine o_extract rfl rfl rfl e11 rfl ?_
        exact hk _ _ LR ⟨v59, v60, rfl, hs61, hs62⟩
       ·intro ρ' τ pq rs hl hd hq hw hk
        obtain ⟨_, e11, v59, v60, rfl, hs61, hs62⟩ := hd 11 rfl _ rfl
        refine o_extract rfl rfl rfl e11 rfl ?_
        exact hk _ _ LR rfl
       ·intro ρ' τ u Fv pq rs hl hI hu hd hq hw hk
        have hI0 := hI
        obtain rfl := hI
        refine o_alloc rfl rfl rfl z_zero37 (fun b63 => ?_)
        refine st_ord [1, 1, 0, 0] _ rfl ?_
        exact hk _ _ [[(b63, .cells lY.toArray 37 (0, 0))]] LR trivial (by exact ⟨b63, rfl, rfl⟩)
       ·intro ρ' τ u Fv pq rs hl hI hu hd hq hw hk
        obtain ⟨_, e12, v59, v60, rfl, hs61, hs62⟩ := hd 12 rfl _ rfl
        obtain ⟨b64, rfl, rfl⟩ := hI
        refine o_store (j := 2) (vs := (lM r55.1 v59 v60)) (cs' := (lM r55.1 v59 v60)) rfl rfl rfl z_size37 (hu (by decide) _ rfl) e12 rfl (o4 (ones_cons rfl (ones_cons rfl (ones_cons rfl (ones_cons hs61.one' (ones_cons hs62.one' (ones_cons rfl (ones_cons rfl ones_nil)))))))) rfl rfl rfl ?_
        exact hk _ _ [[(b64, .cells (lM r55.1 v59 v60).toArray 37 (0, 0))]] LR trivial (by exact ⟨b64, v59, v60, rfl, rfl, hs61, hs62⟩)
       intro ρ' τ70 vals u Fv hl70 hI hu hv hq
       obtain ⟨b65, v66, v68, rfl, rfl, hs67, hs69⟩ := hI
       refine st_env (ρ' := [(75, .I r55.2), (2, .Pb b1), (3, .I 0), (4, v6), (5, .Pb b8), (7, v14), (8, .I s29.1), (9, .I s29.2.1), (10, .Pb b65)]) ⟨(lv4 hv 13 rfl rfl rfl), oT hq 2, oT hq 3, oT hq 4, oT hq 5, oT hq 7, oT hq 8, oT hq 9, (by exact hu _ rfl), trivial⟩ (Z 8 ?_)
       refine I2 h (fun h => ?_) (fun h => ?_)
       ·refine ZZ 7 [0] ?_
        obtain rfl := he29 _ h
        replace h := hA29
        obtain rfl := h.symm
        exact RC [.agg lY.toArray, .I r55.2] func26 ⟨cN 0 z_agg37, rfl, trivial⟩ (((((hl5.trans hl9).trans hl13).trans hl29).trans hl44).trans hl70) ⟨_, _, rfl, rfl, Sl.nil, Sl.nil⟩
       ·refine ZZ 4 [2] ?_
        refine o_store (j := 1) (vs := (lM r55.1 v66 v68)) (cs' := (lM r55.1 v66 v68)) rfl rfl rfl z_size37 rfl rfl rfl (o4 (ones_cons rfl (ones_cons rfl (ones_cons rfl (ones_cons hs67.one' (ones_cons hs69.one' (ones_cons rfl (ones_cons rfl ones_nil)))))))) rfl rfl rfl (Z 12 ?_)
        refine st_ord [0, 0] _ rfl ?_
        exact hn29 _ _ _ _ h ⟨((hl29.trans hl44).trans hl70), _, _, rfl, rfl, hs67, hs69⟩
   ·refine st_exit rfl ?_
    obtain rfl := he29 _ h
    replace h := hA29
    exact hk16 _ _ _ ⟨(s29.1, s29.2.2.1, s29.2.2.2.1, s29.t4.1, s29.t4.2.1, s29.t4.2.2.1, s29.t4.2.2.2.1, s29.t4.t4.1, s29.t4.t4.2.1, s29.t4.t4.2.2.1, s29.t4.t4.2.2.2.1, s29.t4.t4.t4), _, _, h, hl29, rfl, rfl, hs31, hs33⟩
 refine Z 4 ?_
 obtain ⟨e73, hL73, hA73⟩ := h
 refine st_ord [1, 0] _ rfl ?_
 refine st_loop hL73 (fun (s73 : Int × Int) ρ τ73 gs => τ4.Le τ73 ∧ ESub ρ [(2, .Pb b1), (3, .I 0), (4, v6), (5, .Pb b8), (6, .I s73.1)] ∧ gs = [[(b1, .cells lY.toArray 37 (0, 0))], [(b8, .cells #[.I s73.2, .I 0, .I 0, .I 0, .I 0, .I 0, .I 0, .N0, .N0, .E0, .E0] 37 (0, 0))]]) ⟨LR, rfl, rfl⟩ ?_
 rintro s73 o73 h he73 ρ73 τ73 gs73 ⟨hl73, hρ, rfl⟩ hn73
 refine st_es hρ (Z 6 ?_)
 refine I2 h (fun h => ?_) (fun h => ?_)
 ·refine Z 2 ?_
  refine cutS τ73 (fun (s74 : Int) => ref20_Parse_j5 s73 s74 o73) (fun s74 => [(2, .Pb b1), (3, .I 0), (4, v6), (5, .Pb b8), (6, .I s73.1)]) (fun s74 => [[(b1, .cells lY.toArray 37 (0, 0))], [(b8, .cells #[.I s74, .I 0, .I 0, .I 0, .I 0, .I 0, .I 0, .N0, .N0, .E0, .E0] 37 (0, 0))]]) (fun s74 τ74 h hl74 => (Z 5 ?_)) (fun hk74 => ?_)
  ·exact hn73 _ _ _ _ h ⟨(hl73.trans hl74), rfl, rfl⟩
  refine Z 2 ?_
  obtain ⟨r75, hr76, q79, hf80, h⟩ := h
  refine st_draw 6 (dl [.v (.I s73.1), .v (.string r75), .v (v6), .t fun τ v => ∃ (b81 of82 : Nat) (vsb81 : K10), (.pointer (some ⟨b81, of82, none⟩) : Value) = v ∧ CelN τ ⟨b81, of82, none⟩ vsb81 ∧ kS.rep τ vsb81 q79, .v (.string q79), .v (.bool (decide (r75 = q79)))]) (fun _ _ => []) z_mix rfl (dl_mono ⟨fun _ _ _ hl ⟨b81, of82, vsb81, hv, hc83, hrepb81⟩ => ⟨b81, of82, vsb81, hv, hc83.up hl, Kd.mono _ hl hrepb81⟩, trivial⟩) (allB_cons (allB_cons (allB_cons (allB_cons (allB_cons (allB_cons allB_nil (p1 dA)) ?_) (p1 dA)) ?_) ?_) (p1 dA)) ?_
  ·intro ρ' τ pq rs hl hd hq hk
   obtain ⟨_, e0, rfl⟩ := hd 0 rfl
   refine st_call (foot := []) rfl rfl rfl rfl (evs_cons e0 rfl) rfl (callV_fn z_en66 (ref16_Word_ok hr76 τ)) ?_
   rintro _ τ77 _ hl78 ⟨rfl, rfl⟩
   exact st_addNil (hk _ _ hl78 rfl)
  ·intro ρ' τ pq rs hl hd hq hk
   obtain ⟨_, e2, rfl⟩ := hd 2 rfl
   refine o_index rfl rfl rfl z_slT67 rfl e2 (hs7.up (hl73.trans hl)) rfl hf80 (fun b81 of82 vsb81 hc83 hrepb81 => ?_)
   exact st_addNil (hk _ _ LR ⟨b81, of82, _, rfl, hc83, hrepb81⟩)
  ·intro ρ' τ pq rs hl hd hq hk
   obtain ⟨_, e3, b81, of82, vsb81, rfl, hc83, hrepb81⟩ := hd 3 rfl
   have hrepb81 := hrepb81
   obtain rfl := hrepb81
   refine o_loadI (v := .string q79) rfl rfl rfl z_sc9 e3 (hc83 0 _ rfl) ?_
   exact st_addNil (hk _ _ LR rfl)
  intro ρ' τ84 vals hl84 hv hq
  refine st_ord [0, 0] _ rfl ?_
  refine st_env (ρ' := [(24, .bool (decide (r75 = q79))), (2, .Pb b1), (3, .I 0), (4, v6), (5, .Pb b8), (6, .I s73.1)]) ⟨(lv1 hv 5 rfl rfl), oT hq 2, oT hq 3, oT hq 4, oT hq 5, oT hq 6, trivial⟩ ?_
  refine st_end ?_
  refine I2 h (fun h => ?_) (fun h => ?_)
  ·refine ZZ 6 [1] ?_
   exact hk74 _ _ _ ⟨s73.1, h, hl84, rfl, rfl⟩
  ·refine Z 2 ?_
   exact hk74 _ _ _ ⟨s73.2, h, hl84, rfl, rfl⟩
 ·refine st_exit rfl ?_
  obtain rfl := he73 _ h
  replace h := hA73
  exact hk9 _ _ _ ⟨s73.2, h, hl73, rfl, rfl⟩
theorem ref27_Check_ok {a0 : TyZ} {v1 v2 : Value} {v3 v4 : Value} {r : Int} (h : ref27_Check a0 r) (σ : Sto) (hs5 : Sl (kA .i64 2) σ v1 a0.2.1.2.2.1) (hs6 : Sl (kI .i64) σ v2 a0.2.1.2.2.2.1) (hs7 : Sl (kI .u8) σ v3 a0.2.2.1.t4) (hs8 : Sl (kI .i64) σ v4 a0.2.2.2) :
    Does prog 13 [.agg (lS a0 v1 v2 v3 v4).toArray] σ [] (fun v τ gs => gs = [] ∧ .I r = v) := by
 refine CO func13 ntmps13 rfl (fun cs fs => Z 2 ?_)
 refine o_box (cs := (lS a0 v1 v2 v3 v4)) rfl rfl rfl rfl rfl (fun b9 => Z 4 ?_)
 refine cutS σ (fun (s10 : Bool) => ref27_Check_j1 a0 s10 r) (fun s10 => [(1, .Pb b9), (2, .I 0), (11, .bool s10)]) (fun s10 => [[(b9, .cells (lS a0 v1 v2 v3 v4).toArray 40 (0, 0))]]) (fun s10 τ10 h hl10 => ?_) (fun hk10 => ?_)
 ·refine I2 h (fun h => ?_) (fun h => ?_)
  ·refine Z 4 ?_
   obtain rfl := h.symm
   exact RT func13 rfl hl10 ⟨rfl, rfl⟩
  ·refine ZZ 8 [0] ?_
   refine I2 h (fun h => ?_) (fun h => ?_)
   ·refine ZZ 4 [0] ?_
    obtain ⟨r11, hr12, h⟩ := h
    refine SC z_en38 (ref17_Check_ok hr12 τ10 (hs5.up hl10) (hs6.up hl10)) ?_
    rintro _ τ13 _ hl14 ⟨rfl, rfl⟩
    refine Z 2 ?_
    obtain rfl := h.symm
    exact RT func13 rfl (hl10.trans hl14) ⟨rfl, rfl⟩
   ·refine Z 3 ?_
    refine cutS τ10 (fun (s15 : Bool) => ref27_Check_j2 a0 s15 r) (fun s15 => [(1, .Pb b9), (2, .I 0), (32, .bool s15)]) (fun s15 => [[(b9, .cells (lS a0 v1 v2 v3 v4).toArray 40 (0, 0))]]) (fun s15 τ15 h hl15 => ?_) (fun hk15 => ?_)
    ·refine I2 h (fun h => ?_) (fun h => ?_)
     ·refine Z 4 ?_
      obtain rfl := h.symm
      exact RT func13 rfl (hl10.trans hl15) ⟨rfl, rfl⟩
     ·refine Z 3 ?_
      refine cutS τ15 (fun (s16 : Bool) => ref27_Check_j3 a0 s16 r) (fun s16 => [(1, .Pb b9), (2, .I 0), (41, .bool s16)]) (fun s16 => [[(b9, .cells (lS a0 v1 v2 v3 v4).toArray 40 (0, 0))]]) (fun s16 τ16 h hl16 => ?_) (fun hk16 => ?_)
      ·refine I2 h (fun h => ?_) (fun h => ?_)
       ·refine Z 4 ?_
        obtain rfl := h.symm
        exact RT func13 rfl ((hl10.trans hl15).trans hl16) ⟨rfl, rfl⟩
       ·refine Z 2 ?_
        refine cutS τ16 (fun (s17 : Unit) => ref27_Check_j4 s17 r) (fun s17 => [(2, .I 0)]) (fun s17 => []) (fun s17 τ17 h hl17 => (Z 4 ?_)) (fun hk17 => ?_)
        ·obtain rfl := h.symm
         exact RT func13 rfl (((hl10.trans hl15).trans hl16).trans hl17) ⟨rfl, rfl⟩
        refine Z 4 ?_
        obtain ⟨e18, hL18, hA18⟩ := h
        refine st_loop hL18 (fun (s18 : Int) ρ τ18 gs => τ16.Le τ18 ∧ ESub ρ [(1, .Pb b9), (2, .I 0), (3, .I s18)] ∧ gs = [[(b9, .cells (lS a0 v1 v2 v3 v4).toArray 40 (0, 0))]]) ⟨LR, rfl, rfl⟩ ?_
        rintro s18 o18 h he18 ρ18 τ18 gs18 ⟨hl18, hρ, rfl⟩ hn18
        refine st_es hρ (Z 2 ?_)
        refine cutS τ18 (fun (s19 : Bool) => ref27_Check_j6 a0 s18 s19 o18) (fun s19 => [(1, .Pb b9), (2, .I 0), (3, .I s18), (51, .bool s19)]) (fun s19 => [[(b9, .cells (lS a0 v1 v2 v3 v4).toArray 40 (0, 0))]]) (fun s19 τ19 h hl19 => ?_) (fun hk19 => ?_)
        ·refine I2 h (fun h => ?_) (fun h => ?_)
         ·refine Z 4 ?_
          refine cutS τ19 (fun (s20 : Bool) => ref27_Check_j7 s18 s20 o18) (fun s20 => [(1, .Pb b9), (2, .I 0), (3, .I s18), (67, .bool s20)]) (fun s20 => [[(b9, .cells (lS a0 v1 v2 v3 v4).toArray 40 (0, 0))]]) (fun s20 τ20 h hl20 => ?_) (fun hk20 => ?_)
          ·refine I2 h (fun h => ?_) (fun h => ?_)
           ·refine Z 4 ?_
            refine st_ord [] _ rfl ?_
            obtain rfl := he18 _ h
            replace h := hA18
            obtain rfl := h.symm
            exact RT func13 rfl (((((hl10.trans hl15).trans hl16).trans hl18).trans hl19).trans hl20) ⟨rfl, rfl⟩
           ·refine Z 7 ?_
            exact hn18 _ _ _ _ h ⟨((hl18.trans hl19).trans hl20), rfl, rfl⟩
          refine ZZ 4 [0] ?_
          obtain ⟨q21, hf22, h⟩ := h
          refine o_index rfl rfl rfl z_slT24 rfl rfl (hs8.up ((((hl10.trans hl15).trans hl16).trans hl18).trans hl19)) rfl hf22 (fun b23 of24 vs hc25 hrep => ?_)
          obtain rfl := hrep
          refine o_loadI (v := .I q21) rfl rfl rfl z_sc3 rfl (hc25 0 _ rfl) ?_
          refine o_ibin (v := .bool (decide (q21 < 0))) rfl rfl rfl rfl rfl rfl ?_
          refine M2 h (fun h => ?_) (fun h => ?_)
          ·refine Z 8 ?_
           exact hk20 _ _ _ ⟨true, h, LR, rfl, rfl⟩
          ·refine ZZ 3 [0] ?_
           obtain ⟨q26, hf27, h⟩ := h
           refine o_index rfl rfl rfl z_slT24 rfl rfl (hs8.up ((((hl10.trans hl15).trans hl16).trans hl18).trans hl19)) rfl hf27 (fun b28 of29 vs hc30 hrep => ?_)
           obtain rfl := hrep
           refine o_loadI (v := .I q26) rfl rfl rfl z_sc3 rfl (hc30 0 _ rfl) (Z 3 ?_)
           exact hk20 _ _ _ ⟨(decide (1000 < q26)), h, LR, rfl, rfl⟩
         ·refine st_exit rfl ?_
          obtain rfl := he18 _ h
          replace h := hA18
          refine st_ord [] _ rfl ?_
          exact hk17 _ _ _ ⟨(), h, (hl18.trans hl19), rfl, rfl⟩
        refine ZZ 4 [0] ?_
        refine o_lenI rfl rfl rfl z_slT24 rfl (hs8.up (((hl10.trans hl15).trans hl16).trans hl18)) ?_
        refine o_ibin (v := .bool (decide (s18 < (a0.2.2.2.length : Int)))) rfl rfl rfl rfl rfl rfl ?_
        refine M2 h (fun h => ?_) (fun h => ?_)
        ·refine ZZ 5 [0] ?_
         exact hk19 _ _ _ ⟨(decide (a0.1 = 4)), h, LR, rfl, rfl⟩
        ·refine Z 5 ?_
         exact hk19 _ _ _ ⟨false, h, LR, rfl, rfl⟩
      refine ZZ 4 [0] ?_
      refine M2 h (fun h => ?_) (fun h => ?_)
      ·refine ZZ 2 [0] ?_
       refine o_lenI rfl rfl rfl z_slT24 rfl (hs8.up (hl10.trans hl15)) (Z 3 ?_)
       exact hk16 _ _ _ ⟨(decide (16 < (a0.2.2.2.length : Int))), h, LR, rfl, rfl⟩
      ·refine Z 6 ?_
       exact hk16 _ _ _ ⟨false, h, LR, rfl, rfl⟩
    refine ZZ 4 [0] ?_
    refine M2 h (fun h => ?_) (fun h => ?_)
    ·refine ZZ 4 [0] ?_
     refine M2 h (fun h => ?_) (fun h => ?_)
     ·refine Z 7 ?_
      exact hk15 _ _ _ ⟨true, h, LR, rfl, rfl⟩
     ·refine ZZ 7 [0] ?_
      exact hk15 _ _ _ ⟨(decide (4 < a0.2.2.1.1)), h, LR, rfl, rfl⟩
    ·refine Z 12 ?_
     exact hk15 _ _ _ ⟨false, h, LR, rfl, rfl⟩
 refine ZZ 4 [0] ?_
 refine M2 h (fun h => ?_) (fun h => ?_)
 ·refine Z 5 ?_
  exact hk10 _ _ _ ⟨true, h, LR, rfl, rfl⟩
 ·refine ZZ 5 [0] ?_
  exact hk10 _ _ _ ⟨(decide (6 < a0.1)), h, LR, rfl, rfl⟩
theorem ref26_digit_ok {a0 r : Int} (h : ref26_digit a0 r) (σ : Sto)  :
    Does prog 102 [.int .u8 a0] σ [] (fun v τ gs => gs = [] ∧ .int .u8 r = v) := by
 refine CO func102 ntmps102 rfl (fun cs fs => Z 10 ?_)
 refine I2 h (fun h => ?_) (fun h => ?_)
 ·refine Z 6 ?_
  obtain rfl := h.symm
  exact RT func102 rfl LR ⟨rfl, rfl⟩
 ·refine Z 7 ?_
  obtain rfl := h.symm
  exact RT func102 rfl LR ⟨rfl, rfl⟩
theorem ref26_Unhex_ok {a0 : ByteArray} {r : List Int × Int} (h : ref26_Unhex a0 r) (σ : Sto)  :
    Does prog 69 [.string a0] σ [] (fun v τ gs => ∃ (v54 : Value), gs = [] ∧ .tuple [v54, .I r.2].toArray = v ∧ Sl (kI .u8) τ v54 r.1) := by
 refine CO func69 ntmps69 rfl (fun cs fs => Z 9 ?_)
 refine o_sbin (v := .bool (decide (a0 = (bstr [45])))) rfl rfl rfl rfl (ev_str z_str33) rfl ?_
 refine st_end ?_
 refine I2 h (fun h => ?_) (fun h => ?_)
 ·refine Z 5 ?_
  obtain rfl := h.symm
  exact RT func69 rfl LR ⟨_, rfl, rfl, Sl.nil⟩
 ·refine Z 3 ?_
  refine cutS σ (fun (s1 : Bool) => ref26_Unhex_j1 a0 s1 r) (fun s1 => [(0, .string a0), (2, .N0), (3, .I 0), (17, .bool s1)]) (fun s1 => []) (fun s1 τ1 h hl1 => ?_) (fun hk1 => ?_)
  ·refine I2 h (fun h => ?_) (fun h => ?_)
   ·refine Z 5 ?_
    obtain rfl := h.symm
    exact RT func69 rfl hl1 ⟨_, rfl, rfl, Sl.nil⟩
   ·refine Z 6 ?_
    refine st_cut (fun ρ τ2 gs => ∃ (s2 : List Int) (v3 : Value) (g4 : Grp), ref26_Unhex_j2 s2 r ∧ τ1.Le τ2 ∧ ESub ρ [(2, .N0), (3, .I 0), (4, v3)] ∧ gs = [g4] ∧ Ow (kI .u8) 5 τ2 v3 s2 g4) ?_ (fun hk2 => ?_)
    ·rintro ρ2 τ2 gs2 ⟨s2, v3, g4, h, hl2, hρ, rfl, ho5⟩
     refine st_es hρ (Z 6 ?_)
     refine st_freeze (fun τ6 hl7 hg8 => ?_)
     have hs9 := ho5.freeze hl7 hg8
     obtain rfl := h.symm
     exact RT func69 rfl ((hl1.trans hl2).trans hl7) ⟨_, rfl, rfl, hs9⟩
    refine Z 4 ?_
    obtain ⟨e12, hL12, hA12⟩ := h
    refine st_addNil ?_
    refine st_loop hL12 (fun (s12 : K7) ρ τ12 gs => τ1.Le τ12 ∧ ∃ (v13 : Value) (g14 : Grp), ESub ρ [(0, .string a0), (2, .N0), (3, .I 0), (4, v13), (5, .I s12.2)] ∧ gs = [g14] ∧ Ow (kI .u8) 5 τ12 v13 s12.1 g14) ⟨LR, _, _, rfl, rfl, Ow.nil⟩ ?_
    rintro s12 o12 h he12 ρ12 τ12 gs12 ⟨hl12, v13, g14, hρ, rfl, ho15⟩ hn12
    refine st_es hρ (Z 8 ?_)
    refine I2 h (fun h => ?_) (fun h => ?_)
    ·refine Z 8 ?_
     refine st_cut (fun ρ τ16 gs => ∃ (s16 : List Int × Bool) (v17 : Value) (g18 : Grp), ref26_Unhex_j4 s12 s16 o12 ∧ τ12.Le τ16 ∧ ESub ρ [(0, .string a0), (2, .N0), (3, .I 0), (4, v17), (5, .I s12.2), (6, .bool s16.2)] ∧ gs = [g18] ∧ Ow (kI .u8) 5 τ16 v17 s16.1 g18) ?_ (fun hk16 => ?_)
     ·rintro ρ16 τ16 gs16 ⟨s16, v17, g18, h, hl16, hρ, rfl, ho19⟩
      refine st_es hρ (Z 5 ?_)
      refine I2 h (fun h => ?_) (fun h => ?_)
      ·refine Z 5 ?_
       refine st_ord [] _ rfl ?_
       obtain rfl := he12 _ h
       replace h := hA12
       obtain rfl := h.symm
       exact RT func69 rfl ((hl1.trans hl12).trans hl16) ⟨_, rfl, rfl, Sl.nil⟩
      ·refine Z 7 ?_
       exact hn12 _ _ _ _ h ⟨(hl12.trans hl16), _, _, rfl, rfl, ho19⟩
     refine Z 4 ?_
     obtain ⟨e20, hL20, hA20⟩ := h
     refine st_loop hL20 (fun (s20 : K46) ρ τ20 gs => τ12.Le τ20 ∧ ∃ (v21 : Value) (g22 : Grp), ESub ρ [(0, .string a0), (2, .N0), (3, .I 0), (4, v21), (5, .I s12.2), (6, .bool s20.2.1), (7, .I s20.2.2)] ∧ gs = [g22] ∧ Ow (kI .u8) 5 τ20 v21 s20.1 g22) ⟨LR, _, _, rfl, rfl, ho15⟩ ?_
     rintro s20 o20 h he20 ρ20 τ20 gs20 ⟨hl20, v21, g22, hρ, rfl, ho23⟩ hn20
     refine st_es hρ (Z 2 ?_)
     refine cutS τ20 (fun (s24 : Bool) => ref26_Unhex_j6 a0 s12 s20 s24 o20) (fun s24 => [(0, .string a0), (2, .N0), (3, .I 0), (4, v21), (5, .I s12.2), (6, .bool s20.2.1), (7, .I s20.2.2), (29, .bool s24)]) (fun s24 => [g22]) (fun s24 τ24 h hl24 => ?_) (fun hk24 => ?_)
     ·refine I2 h (fun h => ?_) (fun h => ?_)
      ·refine Z 2 ?_
       refine st_cut (fun ρ τ25 gs => ∃ (s25 : List Int × Bool) (v26 : Value) (g27 : Grp), ref26_Unhex_j7 s20 s25 o20 ∧ τ24.Le τ25 ∧ ESub ρ [(0, .string a0), (2, .N0), (3, .I 0), (4, v26), (5, .I s12.2), (6, .bool s25.2), (7, .I s20.2.2)] ∧ gs = [g27] ∧ Ow (kI .u8) 5 τ25 v26 s25.1 g27) ?_ (fun hk25 => ?_)
       ·rintro ρ25 τ25 gs25 ⟨s25, v26, g27, h, hl25, hρ, rfl, ho28⟩
        refine st_es hρ (Z 5 ?_)
        exact hn20 _ _ _ _ h ⟨((hl20.trans hl24).trans hl25), _, _, rfl, rfl, ho28⟩
       refine Z 2 ?_
       obtain ⟨r29, hr30, q33, hf34, r36, hr37, q40, hf41, h⟩ := h
       let cc35 : Prop := (decide (r29 = q33)) = true
       refine st_draw 19 (dl [.v (.I s20.2.2), .v (.I (i64.wrap (s20.2.2.tdiv 16))), .v (.int .u8 (u8.wrap (i64.wrap (s20.2.2.tdiv 16)))), .v (.int .u8 r29), .v (.string a0), .v (.I s12.2), .v (.int .u8 q33), .v (.bool (decide (r29 = q33))), .v (.bool (decide (r29 = q33))), .g cc35 (.I s20.2.2), .g cc35 (.I (s20.2.2.tmod 16)), .g cc35 (.int .u8 (u8.wrap (s20.2.2.tmod 16))), .g cc35 (.int .u8 r36), .g cc35 (.string a0), .g cc35 (.I s12.2), .g cc35 (.I (i64.wrap (s12.2 + 1))), .g cc35 (.int .u8 q40), .g cc35 (.bool (decide (r36 = q40))), .v (.bool ((decide (r29 = q33)) && (decide (r36 = q40))))]) (fun _ _ => []) z_mix rfl (dl_mono trivial) (allB_cons (allB_cons (allB_cons (allB_cons (allB_cons (allB_cons (allB_cons (allB_cons (allB_cons (allB_cons (allB_cons (allB_cons (allB_cons (allB_cons (allB_cons (allB_cons (allB_cons (allB_cons (allB_cons allB_nil (p1 dA)) (p1 dA)) (p1 dA)) ?_) (p1 dA)) (p1 dA)) ?_) (p1 dA)) (p1 dA)) (p1 (dG []))) (p1 (dG [9]))) (p1 (dG [10]))) ?_) (p1 (dG []))) (p1 (dG []))) (p1 (dG [14]))) ?_) (p1 (dG [12, 16]))) (p1 dK)) ?_
       ·intro ρ' τ pq rs hl hd hq hk
        obtain ⟨_, e2, rfl⟩ := hd 2 rfl
        refine st_call (foot := []) rfl rfl rfl rfl (evs_cons e2 rfl) rfl (callV_fn z_en102 (ref26_digit_ok hr30 τ)) ?_
        rintro _ τ31 _ hl32 ⟨rfl, rfl⟩
        exact st_addNil (hk _ _ hl32 rfl)
       ·intro ρ' τ pq rs hl hd hq hk
        obtain ⟨_, e4, rfl⟩ := hd 4 rfl
        obtain ⟨_, e5, rfl⟩ := hd 5 rfl
        refine o_indexS rfl rfl rfl underlying9 e4 e5 hf34 ?_
        exact st_addNil (hk _ _ LR rfl)
       ·intro ρ' τ pq rs hl hd hq hk
        obtain ⟨_, e8, rfl⟩ := hd 8 rfl
        obtain ⟨w11, e11, t11⟩ := hd 11 rfl
        by_cases hG : (decide (r29 = q33)) = true
        ·have hC := hG
         replace hr37 := hr37 hC
         obtain ⟨rfl⟩ := t11.1 hC
         refine st_call (foot := []) rfl (wants_of rfl e8 hG) rfl rfl (evs_cons e11 rfl) rfl (callV_fn z_en102 (ref26_digit_ok hr37 τ)) ?_
         rintro _ τ38 _ hl39 ⟨rfl, rfl⟩
         exact st_addNil (hk _ _ hl39 ⟨fun _ => rfl, fun hn => absurd hC hn⟩)
        ·refine st_pass rfl rfl rfl e8 (beq_off hG) rfl ?_
         exact st_addNil (hk _ _ LR ⟨fun h => absurd h hG, fun _ => rfl⟩)
       ·intro ρ' τ pq rs hl hd hq hk
        obtain ⟨_, e8, rfl⟩ := hd 8 rfl
        obtain ⟨w13, e13, t13⟩ := hd 13 rfl
        obtain ⟨w15, e15, t15⟩ := hd 15 rfl
        by_cases hG : (decide (r29 = q33)) = true
        ·have hC := hG
         replace hf41 := hf41 hC
         obtain ⟨rfl⟩ := t13.1 hC
         obtain ⟨rfl⟩ := t15.1 hC
         refine o_indexS rfl (wants_of rfl e8 hG) rfl underlying9 e13 e15 hf41 ?_
         exact st_addNil (hk _ _ LR ⟨fun _ => rfl, fun hn => absurd hC hn⟩)
        ·refine st_pass rfl rfl rfl e8 (beq_off hG) rfl ?_
         exact st_addNil (hk _ _ LR ⟨fun h => absurd h hG, fun _ => rfl⟩)
       intro ρ' τ42 vals hl42 hv hq
       refine st_ord [0] _ rfl ?_
       refine st_env (ρ' := [(50, .bool ((decide (r29 = q33)) && (decide (r36 = q40)))), (0, .string a0), (2, .N0), (3, .I 0), (4, v21), (5, .I s12.2), (6, .bool s20.2.1), (7, .I s20.2.2)]) ⟨(lv1 hv 18 rfl rfl), oT hq 0, oT hq 2, oT hq 3, oT hq 4, oT hq 5, oT hq 6, oT hq 7, trivial⟩ ?_
       refine st_end ?_
       refine I2 h (fun h => ?_) (fun h => ?_)
       ·refine Z 5 ?_
        refine o_litE (eI .u8) [(u8.wrap s20.2.2)] rfl rfl rfl z_slT27 z_zero5 ⟨rfl, ⟨_, rfl, rfl⟩, trivial⟩ rfl rfl rfl rfl (fun v43 g44 ho45 => ?_)
        obtain ⟨hf49, hf50, h⟩ := h
        refine st_ord [1, 0] _ rfl ?_
        refine o_append (dk := (kI .u8)) (xs := s20.1) (ys := [(u8.wrap s20.2.2)]) rfl rfl rfl rfl z_slT27 rfl (ho23.up (hl24.trans hl42)) rfl (Ow.src (j := 1) ho45 rfl) hf49 hf50 (fun v46 g47 ho48 => Z 6 ?_)
        refine st_ord [0] _ rfl ?_
        exact hk25 _ _ _ ⟨((s20.1 ++ [(u8.wrap s20.2.2)]), true), _, _, h, hl42, rfl, rfl, ho48⟩
       ·refine Z 2 ?_
        exact hk25 _ _ _ ⟨(s20.1, s20.2.1), _, _, h, hl42, rfl, rfl, (ho23.up (hl24.trans hl42))⟩
      ·refine st_exit rfl ?_
       obtain rfl := he20 _ h
       replace h := hA20
       exact hk16 _ _ _ ⟨(s20.1, s20.2.1), _, _, h, (hl20.trans hl24), rfl, rfl, (ho23.up hl24)⟩
     refine Z 3 ?_
     refine M2 h (fun h => ?_) (fun h => ?_)
     ·refine Z 4 ?_
      exact hk24 _ _ _ ⟨(!s20.2.1), h, LR, rfl, rfl⟩
     ·refine Z 4 ?_
      exact hk24 _ _ _ ⟨false, h, LR, rfl, rfl⟩
    ·refine st_exit rfl ?_
     obtain rfl := he12 _ h
     replace h := hA12
     exact hk2 _ _ _ ⟨s12.1, _, _, h, hl12, rfl, rfl, ho15⟩
  refine Z 2 ?_
  refine o_sbin (v := .bool (decide (a0 = (bstr [])))) rfl rfl rfl rfl (ev_str z_str1) rfl ?_
  refine M2 h (fun h => ?_) (fun h => ?_)
  ·refine Z 6 ?_
   exact hk1 _ _ _ ⟨true, h, LR, rfl, rfl⟩
  ·refine Z 6 ?_
   exact hk1 _ _ _ ⟨(decide (((a0.size : Int).tmod 2) = 1)), h, LR, rfl, rfl⟩
theorem ref26_Parse_ok {a0 : ByteArray} {r : (TyI) × Int} (h : ref26_Parse a0 r) (σ : Sto)  :
    Does prog 28 [.string a0] σ [] (fun v τ gs => ∃ (v43 : Value), gs = [] ∧ .tuple [.agg (lI r.1 v43).toArray, .I r.2].toArray = v ∧ Sl (kI .u8) τ v43 r.1.t4) := by
 refine CO func28 ntmps28 rfl (fun cs fs => Z 2 ?_)
 refine o_alloc rfl rfl rfl z_zero38 (fun b1 => Z 5 ?_)
 obtain ⟨r2, hr3, h⟩ := h
 refine SC z_en20 (ref20_Split_ok hr3 σ) ?_
 rintro _ τ4 _ hl5 ⟨v6, rfl, rfl, hs7⟩
 refine ZZ 9 [] ?_
 refine o_alloc rfl rfl rfl z_zero38 (fun b8 => ZZ 3 [0] ?_)
 refine cutS τ4 (fun (s9 : Int × Int) => ref26_Parse_j1 r2 s9 r) (fun s9 => [(2, .Pb b1), (3, .I 0), (4, v6), (5, .I s9.1), (6, .Pb b8)]) (fun s9 => [[(b1, .cells #[.I 0, .I 0, .I 0, .I 0, .N0] 38 (0, 0))], [(b8, .cells #[.I s9.2, .I 0, .I 0, .I 0, .N0] 38 (0, 0))]]) (fun s9 τ9 h hl9 => (Z 4 ?_)) (fun hk9 => ?_)
 ·refine o_lenI rfl rfl rfl z_slT67 rfl (hs7.up hl9) (Z 4 ?_)
  refine I2 h (fun h => ?_) (fun h => ?_)
  ·refine ZZ 6 [0] ?_
   obtain rfl := h.symm
   exact RC [.agg #[.I 0, .I 0, .I 0, .I 0, .N0], .I 3] func28 ⟨cN 0 z_agg38, rfl, trivial⟩ (hl5.trans hl9) ⟨_, rfl, rfl, Sl.nil⟩
  ·refine ZZ 8 [1] ?_
   refine I2 h (fun h => ?_) (fun h => ?_)
   ·refine Z 3 ?_
    obtain ⟨q10, hf11, h⟩ := h
    refine o_index rfl rfl rfl z_slT67 rfl rfl (hs7.up hl9) rfl hf11 (fun b12 of13 vs hc14 hrep => ?_)
    obtain rfl := hrep
    refine o_loadI (v := .string q10) rfl rfl rfl z_sc9 rfl (hc14 0 _ rfl) ?_
    obtain ⟨r15, hr16, h⟩ := h
    refine SC z_en69 (ref26_Unhex_ok hr16 τ9) ?_
    rintro _ τ17 _ hl18 ⟨v19, rfl, rfl, hs20⟩
    refine Z 12 ?_
    refine I2 h (fun h => ?_) (fun h => ?_)
    ·refine ZZ 7 [0] ?_
     obtain rfl := h.symm
     exact RC [.agg #[.I 0, .I 0, .I 0, .I 0, .N0], .I r15.2] func28 ⟨cN 0 z_agg38, rfl, trivial⟩ ((hl5.trans hl9).trans hl18) ⟨_, rfl, rfl, Sl.nil⟩
    ·refine Z 5 ?_
     refine o_store (j := 1) (vs := [v19]) (cs' := [.I s9.2, .I 0, .I 0, .I 0, v19]) rfl rfl rfl z_size27 rfl rfl (oneL_sl hs20) (ones_cons hs20.one' ones_nil) rfl rfl rfl (ZZ 4 [1] ?_)
     refine o_store (j := 0) (vs := [.I s9.2, .I 0, .I 0, .I 0, v19]) (cs' := [.I s9.2, .I 0, .I 0, .I 0, v19]) rfl rfl rfl z_size38 rfl rfl rfl (o4 (ones_cons hs20.one' ones_nil)) rfl rfl rfl (Z 2 ?_)
     obtain rfl := h.symm
     exact RC [.agg #[.I s9.2, .I 0, .I 0, .I 0, v19], .I 0] func28 ⟨cN 0 z_agg38, rfl, trivial⟩ ((hl5.trans hl9).trans hl18) ⟨_, rfl, rfl, hs20⟩
   ·refine Z 3 ?_
    refine o_alloc rfl rfl rfl z_zero133 (fun b21 => Z 2 ?_)
    refine cutS τ9 (fun (s22 : K20) => ref26_Parse_j2 s9 s22 r) (fun s22 => [(2, .Pb b1), (3, .I 0), (6, .Pb b8), (9, .Pb b21)]) (fun s22 => [[(b1, .cells #[.I 0, .I 0, .I 0, .I 0, .N0] 38 (0, 0))], [(b8, .cells #[.I s9.2, .I 0, .I 0, .I 0, .N0] 38 (0, 0))], [(b21, .cells #[.I s22.1, .I s22.2.1, .I s22.2.2] 133 (0, 0))]]) (fun s22 τ22 h hl22 => ?_) (fun hk22 => ?_)
    ·refine st_seq ?_
     refine st_ord [0, 1, 0] _ rfl ?_
     refine st_d41 [[(b1, .cells #[.I 0, .I 0, .I 0, .I 0, .N0] 38 (0, 0))], [(b21, .cells #[.I s22.1, .I s22.2.1, .I s22.2.2] 133 (0, 0))]] [[(b8, .cells #[.I s9.2, .I 0, .I 0, .I 0, .N0] 38 (0, 0))]] 10 2 [none, none, none, none, none, none, none, some (0, 0), none, some (0, 1)] [none, none, none, none, none, none, none, none, none, none] [[none, none, none]] [.v (.Pb b21), .v (.I s22.1), .v (.pointer (some ⟨b21, 1, none⟩)), .v (.I s22.2.1), .v (.pointer (some ⟨b21, 2, none⟩)), .v (.I s22.2.2), .v (.pointer (some ⟨b8, 1, none⟩)), .t fun _ _ => True, .v (.pointer (some ⟨b8, 2, none⟩)), .t fun _ _ => True] [[fun τ u F => F = [[(b8, .cells #[.I s9.2, .I 0, .I 0, .I 0, .N0] 38 (0, 0))]], fun τ u F => F = [[(b8, .cells #[.I s9.2, .I s22.1, .I 0, .I 0, .N0] 38 (0, 0))]], fun τ u F => F = [[(b8, .cells #[.I s9.2, .I s22.1, .I s22.2.1, .I 0, .N0] 38 (0, 0))]]]] rfl z_mix rfl ⟨fun _ _ _ _ _ => trivial, ⟨fun _ _ _ _ _ => trivial, trivial⟩⟩ ⟨⟨fun _ _ _ _ hl h => h, ⟨fun _ _ _ _ hl h => h, ⟨fun _ _ _ _ hl h => h, trivial⟩⟩⟩, trivial⟩ rfl rfl ?_ (allB_cons (allB_cons (allB_cons (allB_cons (allB_cons (allB_cons (allB_cons (allB_cons (allB_cons (allB_cons allB_nil ?_) ?_) ?_) ?_) ?_) ?_) (p4 dA)) ?_) (p4 dA)) ?_) ?_
     ·exact rfl
     ·intro ρ' τ pq rs hl hd hq hw hk
      refine o_indexA rfl rfl rfl z_arr133 (oT hq 9) rfl (by decide) (by decide) ?_
      exact hk _ _ LR rfl
     ·intro ρ' τ pq rs hl hd hq hw hk
      obtain ⟨_, e0, rfl⟩ := hd 0 rfl _ rfl
      refine o_load (j := 1) (v := .I s22.1) rfl rfl rfl z_sc3 e0 rfl rfl ?_
      exact hk _ _ LR rfl
     ·intro ρ' τ pq rs hl hd hq hw hk
      refine o_indexA rfl rfl rfl z_arr133 (oT hq 9) rfl (by decide) (by decide) ?_
      exact hk _ _ LR rfl
     ·intro ρ' τ pq rs hl hd hq hw hk
      obtain ⟨_, e2, rfl⟩ := hd 2 rfl _ rfl
      refine o_load (j := 1) (v := .I s22.2.1) rfl rfl rfl z_sc3 e2 rfl rfl ?_
      exact hk _ _ LR rfl
     ·intro ρ' τ pq rs hl hd hq hw hk
      refine o_indexA rfl rfl rfl z_arr133 (oT hq 9) rfl (by decide) (by decide) ?_
      exact hk _ _ LR rfl
     ·intro ρ' τ pq rs hl hd hq hw hk
      obtain ⟨_, e4, rfl⟩ := hd 4 rfl _ rfl
      refine o_load (j := 1) (v := .I s22.2.2) rfl rfl rfl z_sc3 e4 rfl rfl ?_
      exact hk _ _ LR rfl
     ·intro ρ' τ u Fv pq rs hl hI hu hd hq hw hk
      obtain ⟨_, e1, rfl⟩ := hd 1 rfl _ rfl
      obtain ⟨_, e6, rfl⟩ := hd 6 rfl _ rfl
      have hI0 := hI
      obtain rfl := hI
      refine o_store (j := 2) (vs := [.I s22.1]) (cs' := [.I s9.2, .I s22.1, .I 0, .I 0, .N0]) rfl rfl rfl z_size3 e6 e1 rfl (ones_cons rfl ones_nil) rfl rfl rfl ?_
      exact hk _ _ [[(b8, .cells #[.I s9.2, .I s22.1, .I 0, .I 0, .N0] 38 (0, 0))]] LR trivial (by exact rfl)
     ·intro ρ' τ u Fv pq rs hl hI hu hd hq hw hk
      obtain ⟨_, e3, rfl⟩ := hd 3 rfl _ rfl
      obtain ⟨_, e8, rfl⟩ := hd 8 rfl _ rfl
      have hI0 := hI
      obtain rfl := hI
      refine o_store (j := 2) (vs := [.I s22.2.1]) (cs' := [.I s9.2, .I s22.1, .I s22.2.1, .I 0, .N0]) rfl rfl rfl z_size3 e8 e3 rfl (ones_cons rfl ones_nil) rfl rfl rfl ?_
      exact hk _ _ [[(b8, .cells #[.I s9.2, .I s22.1, .I s22.2.1, .I 0, .N0] 38 (0, 0))]] LR trivial (by exact rfl)
     intro ρ' τ23 vals u Fv hl23 hI hu hv hq
     obtain rfl := hI
     refine st_env (ρ' := [(81, .I s22.2.2), (2, .Pb b1), (3, .I 0), (6, .Pb b8)]) ⟨(lv4 hv 5 rfl rfl rfl), oT hq 2, oT hq 3, oT hq 6, trivial⟩ (ZZ 9 [2, 2, 0] ?_)
     obtain rfl := h.symm
     exact RC [.agg #[.I s9.2, .I s22.1, .I s22.2.1, .I s22.2.2, .N0], .I 0] func28 ⟨cN 0 z_agg38, rfl, trivial⟩ (((hl5.trans hl9).trans hl22).trans hl23) ⟨_, rfl, rfl, Sl.nil⟩
    refine Z 4 ?_
    obtain ⟨e24, hL24, hA24⟩ := h
    refine st_ord [1, 1, 0] _ rfl ?_
    refine st_loop hL24 (fun (s24 : K45) ρ τ24 gs => τ9.Le τ24 ∧ ESub ρ [(2, .Pb b1), (3, .I 0), (4, v6), (5, .I s9.1), (6, .Pb b8), (9, .Pb b21), (10, .I s24.1)] ∧ gs = [[(b1, .cells #[.I 0, .I 0, .I 0, .I 0, .N0] 38 (0, 0))], [(b8, .cells #[.I s9.2, .I 0, .I 0, .I 0, .N0] 38 (0, 0))], [(b21, .cells #[.I s24.2.1, .I s24.2.2.1, .I s24.2.2.2] 133 (0, 0))]]) ⟨LR, rfl, rfl⟩ ?_
    rintro s24 o24 h he24 ρ24 τ24 gs24 ⟨hl24, hρ, rfl⟩ hn24
    refine st_es hρ (Z 7 ?_)
    refine I2 h (fun h => ?_) (fun h => ?_)
    ·refine Z 8 ?_
     obtain ⟨q25, hf26, h⟩ := h
     refine o_index rfl rfl rfl z_slT67 rfl rfl (hs7.up (hl9.trans hl24)) rfl hf26 (fun b27 of28 vs hc29 hrep => ?_)
     obtain rfl := hrep
     refine o_loadI (v := .string q25) rfl rfl rfl z_sc9 rfl (hc29 0 _ rfl) ?_
     obtain ⟨r30, hr31, h⟩ := h
     refine SC z_en27 (ref20_Read_ok hr31 τ24) ?_
     rintro _ τ32 _ hl33 ⟨rfl, rfl⟩
     refine Z 12 ?_
     refine I2 h (fun h => ?_) (fun h => ?_)
     ·refine ZZ 7 [0] ?_
      obtain rfl := he24 _ h
      replace h := hA24
      obtain rfl := h.symm
      exact RC [.agg #[.I 0, .I 0, .I 0, .I 0, .N0], .I r30.2] func28 ⟨cN 0 z_agg38, rfl, trivial⟩ (((hl5.trans hl9).trans hl24).trans hl33) ⟨_, rfl, rfl, Sl.nil⟩
     ·refine Z 4 ?_
      obtain ⟨hf34, hf35, h⟩ := h
      refine o_indexA rfl rfl rfl z_arr133 rfl rfl hf34 hf35 ?_
      refine o_storeV (j := 2) (s24.1.toNat) (f := (Value.int .i64)) (zz := 0) (a := r30.1) (l := 3) (xs := [s24.2.1, s24.2.2.1, s24.2.2.2]) [] [] rfl rfl rfl z_size3 rfl rfl rfl rfl rfl (by simp only [List.length_cons, List.length_nil] <;> omega) (by omega) (Z 7 ?_)
      exact hn24 _ _ _ _ h ⟨(hl24.trans hl33), rfl, rfl⟩
    ·refine st_exit rfl ?_
     obtain rfl := he24 _ h
     replace h := hA24
     exact hk22 _ _ _ ⟨(s24.2.1, s24.2.2.1, s24.2.2.2), h, hl24, rfl, rfl⟩
 refine Z 3 ?_
 obtain ⟨q38, hf39, h⟩ := h
 refine o_index rfl rfl rfl z_slT67 rfl rfl hs7 rfl hf39 (fun b40 of41 vs hc42 hrep => ?_)
 obtain rfl := hrep
 refine o_loadI (v := .string q38) rfl rfl rfl z_sc9 rfl (hc42 0 _ rfl) (Z 4 ?_)
 refine o_sbin (v := .bool (decide (q38 = (bstr [119, 104, 111, 108, 101])))) rfl rfl rfl rfl (ev_str z_str37) rfl (Z 2 ?_)
 refine I2 h (fun h => ?_) (fun h => ?_)
 ·refine ZZ 6 [0] ?_
  refine st_ord [1, 0] _ rfl ?_
  exact hk9 _ _ _ ⟨(1, 1), h, LR, rfl, rfl⟩
 ·refine Z 2 ?_
  refine o_sbin (v := .bool (decide (q38 = (bstr [99, 117, 116])))) rfl rfl rfl rfl (ev_str z_str38) rfl (Z 2 ?_)
  refine I2 h (fun h => ?_) (fun h => ?_)
  ·refine ZZ 6 [0] ?_
   refine st_ord [1, 0] _ rfl ?_
   exact hk9 _ _ _ ⟨(3, 2), h, LR, rfl, rfl⟩
  ·refine Z 2 ?_
   refine o_sbin (v := .bool (decide (q38 = (bstr [116, 117, 114, 110])))) rfl rfl rfl rfl (ev_str z_str39) rfl (Z 2 ?_)
   refine I2 h (fun h => ?_) (fun h => ?_)
   ·refine ZZ 6 [0] ?_
    refine st_ord [1, 0] _ rfl ?_
    exact hk9 _ _ _ ⟨(3, 3), h, LR, rfl, rfl⟩
   ·refine Z 2 ?_
    refine o_sbin (v := .bool (decide (q38 = (bstr [106, 117, 110, 107])))) rfl rfl rfl rfl (ev_str z_str40) rfl (Z 2 ?_)
    refine I2 h (fun h => ?_) (fun h => ?_)
    ·refine ZZ 6 [0] ?_
     refine st_ord [1, 0] _ rfl ?_
     exact hk9 _ _ _ ⟨(1, 4), h, LR, rfl, rfl⟩
    ·refine ZZ 6 [1] ?_
     obtain rfl := h.symm
     exact RC [.agg #[.I 0, .I 0, .I 0, .I 0, .N0], .I 9] func28 ⟨cN 1 z_agg38, rfl, trivial⟩ hl5 ⟨_, rfl, rfl, Sl.nil⟩
end Go.Rel
