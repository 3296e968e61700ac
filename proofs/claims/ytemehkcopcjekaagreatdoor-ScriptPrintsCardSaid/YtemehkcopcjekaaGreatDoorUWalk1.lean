import Derived.Test.YtemehkcopcjekaaGreatDoorURel
import Derived.Test.YtemehkcopcjekaaGreatDoorUFacts
import Derived.Test.YtemehkcopcjekaaGreatDoorUWalk0
/-! The walks. -/
set_option linter.unusedVariables false
set_option linter.unusedSimpArgs false
set_option maxRecDepth 4000
set_option maxHeartbeats 4000000
namespace Go.Rel
open Go Go.Eng Go.Proofs
theorem script_parse_ok {a0 : ByteArray} {r : (TyS) × Int} (h : script_parse a0 r) (σ : Sto) (hT : Tab Tryz.prog σ) (hE : Errs Tryz.prog σ) :
    Does Tryz.prog 25 [.string a0] σ [] (fun v τ gs => ∃ (v91 : Value) (v92 : Value) (v93 : Value) (v94 : Value), gs = [] ∧ .tuple [.agg (lS r.1 v91 v92 v93 v94).toArray, .I r.2].toArray = v ∧ Sl (kP (kI .i64) (kI .i64)) τ v91 r.1.2.1.2.2.1 ∧ Sl (kI .i64) τ v92 r.1.2.1.2.2.2.1 ∧ Sl (kI .u8) τ v93 r.1.2.2.1.t4 ∧ Sl (kI .i64) τ v94 r.1.2.2.2) := by
 refine call_of Tryz.func25 Tryz.ntmps25 rfl rfl (fun cs fs => ?_)
 refine Z 2 rfl ?_
 refine o_alloc rfl rfl rfl z_zero31 (fun b1 => ?_)
 refine Z 4 rfl ?_
 refine o_alloc rfl rfl rfl z_zero67 (fun b2 => ?_)
 refine Z 5 rfl ?_
 obtain ⟨r3, hr4, h⟩ := h
 refine st_call (foot := []) rfl rfl rfl rfl rfl rfl (callV_fn z_en61 (say_Words_ok hr4 σ)) ?_
 rintro vτ5 τ5 gsτ5 hl6 ⟨f7, q8, rfl, rfl, hit9⟩
 refine Z 2 rfl ?_
 obtain ⟨t10, w10, hR10, hA10⟩ := h
 refine st_env (ρ' := [(0, .string a0), (2, .Pb b1), (3, .I 0), (4, .Pb b2), (13, .func (.func f7) #[] q8)]) ⟨rfl, rfl, rfl, rfl, rfl, trivial⟩ ?_
 refine st_addNil ?_
 refine st_ord [2, 1, 0] _ rfl ?_
 refine st_addNil ?_
 refine st_range (B := script_parse_l1) (s0 := []) ranges_fctx rfl hit9 (Sto.Le.refl _) hR10 rfl (fun _ _ _ h => by cases h; rfl) (fun (s10 : List ByteArray) τ10 gs => τ5.Le τ10 ∧ ∃ (v11 : Value) (g12 : Grp), gs = [[(b1, .cells lZ.toArray 31 (0, 0))], [(b2, .cells #[v11] 67 (0, 0))], g12] ∧ Ow kS 9 τ10 v11 s10 g12) (fun _ _ _ _ => False) (fun _ _ _ _ hl ⟨hb, v11, g12, hg, ho13⟩ => ⟨hb.trans hl, v11, g12, hg, ho13.up hl⟩) (fun _ _ _ _ _ _ h => h.elim) ⟨Sto.Le.refl _, _, _, rfl, Ow.nil⟩ ?_ ?_ ?_
 ·rintro x10 s10 o10 τ10 gs10 vx10 hl10 h rfl ⟨hb10, v11, g12, rfl, ho13⟩ l10 rc10 caller10 cs10 fs10
  refine Z 3 rfl ?_
  refine st_begin ?_
  refine ZZ 4 [1] rfl rfl ?_
  refine o_litE eS [x10.2] rfl rfl rfl z_slT67 z_zero9 ⟨rfl, ⟨_, rfl, rfl⟩, trivial⟩ rfl rfl rfl rfl (fun v14 g15 ho16 => ?_)
  obtain ⟨hf20, hf21, h⟩ := h
  refine st_ord [3, 0, 0, 0] _ rfl ?_
  refine o_append (dk := kS) (xs := s10) (ys := [x10.2]) rfl rfl rfl rfl z_slT67 rfl ho13 rfl (Ow.src (j := 1) ho16 rfl) hf20 hf21 (fun v17 g18 ho19 => ?_)
  refine o_store (j := 3) (vs := [v17]) (cs' := [v17]) rfl rfl rfl z_size67 rfl rfl (oneL_ow ho19) (ones_cons ho19.one' ones_nil) rfl rfl rfl ?_
  refine Z 2 rfl ?_
  refine st_ord [2, 2, 0] _ rfl ?_
  exact st_rend (List.Sublist.refl _) (Sto.Le.refl _) ⟨_, h, hl10, _, _, rfl, ho19⟩
 ·rintro p22 τ23 gs10 f10 ht hl24 ⟨hb, v25, g26, rfl, ho27⟩ rfl
  subst ht
  replace h := hA10
  refine st_ord [1, 1, 1] _ rfl ?_
  refine Z 2 rfl ?_
  refine st_cut (fun ρ τ28 gs => ∃ (s28 : Int), script_parse_j2 a0 p22 s28 r ∧ τ23.Le τ28 ∧ ESub ρ [(0, .string a0), (2, .Pb b1), (3, .I 0), (4, .Pb b2)] ∧ gs = [[(b1, .cells #[.I s28, .I 0, .I 0, .I 0, .I 0, .I 0, .I 0, .I 0, .N0, .N0, .E0, .E0, .I 0, .I 0, .I 0, .I 0, .N0, .N0] 31 (0, 0))], [(b2, .cells #[v25] 67 (0, 0))], g26]) ?_ (fun hk28 => ?_)
  ·rintro ρ28 τ28 gs28 ⟨s28, h, hl28, hρ, rfl⟩
   refine st_es hρ ?_
   refine st_seq ?_
   refine st_cut (fun ρ τ29 gs => ∃ (s29 : Int × Int × Int × Int × Int × Int × Int × Int × Int × (List (Int × Int)) × List Int × ByteArray × ByteArray × TyI) (v30 : Value) (v32 : Value) (v34 : Value), script_parse_j3 s29 r ∧ τ28.Le τ29 ∧ ESub ρ [(2, .Pb b1), (3, .I s29.1)] ∧ gs = [[(b1, .cells #[.I s29.2.1, .I s29.2.2.1, .I s29.2.2.2.1, .I s29.t4.1, .I s29.t4.2.1, .I s29.t4.2.2.1, .I s29.t4.2.2.2.1, .I s29.t4.t4.1, v30, v32, .string s29.t4.t4.2.2.2.1, .string s29.t4.t4.t4.1, .I s29.t4.t4.t4.2.1, .I s29.t4.t4.t4.2.2.1, .I s29.t4.t4.t4.2.2.2.1, .I s29.t4.t4.t4.t4.1, v34, .N0] 31 (0, 0))]] ∧ Sl (kP (kI .i64) (kI .i64)) τ29 v30 s29.t4.t4.2.1 ∧ Sl (kI .i64) τ29 v32 s29.t4.t4.2.2.1 ∧ Sl (kI .u8) τ29 v34 s29.t4.t4.t4.t4.2) ?_ (fun hk29 => ?_)
   ·rintro ρ29 τ29 gs29 ⟨s29, v30, v32, v34, h, hl29, hρ, rfl, hs31, hs33, hs35⟩
    refine st_es hρ ?_
    refine ZZ 4 [0] rfl rfl ?_
    refine o_store (j := 0) (vs := [.I s29.2.1, .I s29.2.2.1, .I s29.2.2.2.1, .I s29.t4.1, .I s29.t4.2.1, .I s29.t4.2.2.1, .I s29.t4.2.2.2.1, .I s29.t4.t4.1, v30, v32, .string s29.t4.t4.2.2.2.1, .string s29.t4.t4.t4.1, .I s29.t4.t4.t4.2.1, .I s29.t4.t4.t4.2.2.1, .I s29.t4.t4.t4.2.2.2.1, .I s29.t4.t4.t4.t4.1, v34, .N0]) (cs' := [.I s29.2.1, .I s29.2.2.1, .I s29.2.2.2.1, .I s29.t4.1, .I s29.t4.2.1, .I s29.t4.2.2.1, .I s29.t4.2.2.2.1, .I s29.t4.t4.1, v30, v32, .string s29.t4.t4.2.2.2.1, .string s29.t4.t4.t4.1, .I s29.t4.t4.t4.2.1, .I s29.t4.t4.t4.2.2.1, .I s29.t4.t4.t4.2.2.2.1, .I s29.t4.t4.t4.t4.1, v34, .N0]) rfl rfl rfl z_size31 rfl rfl rfl (ones_cons rfl (ones_cons rfl (ones_cons rfl (ones_cons rfl (ones_cons rfl (ones_cons rfl (ones_cons rfl (ones_cons rfl (ones_cons hs31.one' (ones_cons hs33.one' (ones_cons rfl (ones_cons rfl (ones_cons rfl (ones_cons rfl (ones_cons rfl (ones_cons rfl (ones_cons hs35.one' (ones_cons rfl ones_nil)))))))))))))))))) rfl rfl rfl ?_
    refine Z 2 rfl ?_
    obtain rfl := Eq.symm h
    exact st_retC (gs' := []) [.agg #[.I s29.2.1, .I s29.2.2.1, .I s29.2.2.2.1, .I s29.t4.1, .I s29.t4.2.1, .I s29.t4.2.2.1, .I s29.t4.2.2.2.1, .I s29.t4.t4.1, v30, v32, .string s29.t4.t4.2.2.2.1, .string s29.t4.t4.t4.1, .I s29.t4.t4.t4.2.1, .I s29.t4.t4.t4.2.2.1, .I s29.t4.t4.t4.2.2.2.1, .I s29.t4.t4.t4.t4.1, v34, .N0], .I s29.1] Tryz.func25 ⟨⟨_, _, _, _, rfl, mem_flat 0 rfl, fun w hw => cellOfN (vs := [.I s29.2.1, .I s29.2.2.1, .I s29.2.2.2.1, .I s29.t4.1, .I s29.t4.2.1, .I s29.t4.2.2.1, .I s29.t4.2.2.2.1, .I s29.t4.t4.1, v30, v32, .string s29.t4.t4.2.2.2.1, .string s29.t4.t4.t4.1, .I s29.t4.t4.t4.2.1, .I s29.t4.t4.t4.2.2.1, .I s29.t4.t4.t4.2.2.2.1, .I s29.t4.t4.t4.t4.1, v34, .N0]) z_agg31 rfl w hw⟩, rfl, trivial⟩ (by simp) (((hl6.trans hl24).trans hl28).trans hl29) ⟨_, _, _, _, rfl, rfl, hs31, hs33, hs35, Sl.nil⟩
   refine ZZ 11 [0] rfl rfl ?_
   refine st_if rfl h (fun h => ?_) (fun h => ?_)
   ·refine Z 3 rfl ?_
    obtain ⟨r36, hr37, h⟩ := h
    refine st_call (foot := []) rfl rfl rfl rfl (evs_cons rfl (evs_cons (ev_str z_str0) rfl)) rfl (callV_fn z_en62 (strings_Cut_ok hr37 τ28)) ?_
    rintro vτ38 τ38 gsτ38 hl39 ⟨rfl, rfl⟩
    refine Z 10 rfl ?_
    obtain ⟨r40, hr41, h⟩ := h
    refine st_call (foot := []) rfl rfl rfl rfl rfl rfl (callV_fn z_en63 (say_Parse_ok hr41 τ38 (hE.up (((hl6.trans hl24).trans hl28).trans hl39)))) ?_
    rintro vτ42 τ42 gsτ42 hl43 ⟨v44, v45, rfl, rfl, hs46, hs47⟩
    refine Z 4 rfl ?_
    refine o_store (j := 0) (vs := (lM r40.1 v44 v45)) (cs' := [.I s28, .I r40.1.1, .I (r40.1.2.1.getD 0 0), .I (r40.1.2.1.getD 1 0), .I (r40.1.2.1.getD 2 0), .I (r40.1.2.1.getD 3 0), .I (r40.1.2.1.getD 4 0), .I (r40.1.2.1.getD 5 0), v44, v45, .string r40.1.t4.1, .string r40.1.t4.2, .I 0, .I 0, .I 0, .I 0, .N0, .N0]) rfl rfl rfl z_size26 rfl rfl rfl (ones_cons rfl (ones_cons rfl (ones_cons rfl (ones_cons rfl (ones_cons rfl (ones_cons rfl (ones_cons rfl (ones_cons hs46.one' (ones_cons hs47.one' (ones_cons rfl (ones_cons rfl ones_nil))))))))))) rfl rfl rfl ?_
    refine Z 3 rfl ?_
    refine st_ord [0] _ rfl ?_
    exact hk29 _ _ _ ⟨(r40.2, s28, r40.1.1, (r40.1.2.1.getD 0 0), (r40.1.2.1.getD 1 0), (r40.1.2.1.getD 2 0), (r40.1.2.1.getD 3 0), (r40.1.2.1.getD 4 0), (r40.1.2.1.getD 5 0), r40.1.2.2.1, r40.1.2.2.2.1, r40.1.t4.1, r40.1.t4.2, 0, 0, 0, 0, []), _, _, _, h, (hl39.trans hl43), rfl, rfl, hs46, hs47, Sl.nil⟩
   ·refine Z 5 rfl ?_
    refine st_if rfl h (fun h => ?_) (fun h => ?_)
    ·refine ZZ 3 [1] rfl rfl ?_
     obtain ⟨hf53, hf54, h⟩ := h
     refine st_ord [2, 0, 0] _ rfl ?_
     refine st_freeze (fun τ48 hl49 hg50 => ?_)
     have hs51 := ho27.freeze (hl28.trans hl49) hg50
     refine o_slice (L := 1) (H := (p22.length : Int)) rfl rfl rfl z_slT67 rfl rfl hs51 ⟨_, rfl⟩ rfl (by decide) hf53 hf54 trivial (by simp) (fun v55 hs56 => ?_)
     obtain ⟨r57, hr58, h⟩ := h
     refine st_call (foot := []) rfl rfl rfl rfl rfl rfl (callV_fn z_en64 (script_chunk_ok hr58 τ48 hs56 (hT.up (((hl6.trans hl24).trans hl28).trans hl49)) (hE.up (((hl6.trans hl24).trans hl28).trans hl49)))) ?_
     rintro vτ59 τ59 gsτ59 hl60 ⟨v61, v62, v63, v64, rfl, rfl, hs65, hs66, hs67, hs68⟩
     refine Z 2 rfl ?_
     refine o_store (j := 0) (vs := (lS r57.1 v61 v62 v63 v64)) (cs' := (lS r57.1 v61 v62 v63 v64)) rfl rfl rfl z_size31 rfl rfl rfl (ones_cons rfl (ones_cons rfl (ones_cons rfl (ones_cons rfl (ones_cons rfl (ones_cons rfl (ones_cons rfl (ones_cons rfl (ones_cons hs65.one' (ones_cons hs66.one' (ones_cons rfl (ones_cons rfl (ones_cons rfl (ones_cons rfl (ones_cons rfl (ones_cons rfl (ones_cons hs67.one' (ones_cons hs68.one' ones_nil)))))))))))))))))) rfl rfl rfl ?_
     refine Z 2 rfl ?_
     obtain rfl := Eq.symm h
     exact st_retC (gs' := []) [.agg (lS r57.1 v61 v62 v63 v64).toArray, .I r57.2] Tryz.func25 ⟨⟨_, _, _, _, rfl, mem_flat 0 rfl, fun w hw => cellOfN (vs := (lS r57.1 v61 v62 v63 v64)) z_agg31 rfl w hw⟩, rfl, trivial⟩ (by simp) ((((hl6.trans hl24).trans hl28).trans hl49).trans hl60) ⟨_, _, _, _, rfl, rfl, hs65, hs66, hs67, hs68⟩
    ·refine st_seq ?_
     refine st_cut (fun ρ τ69 gs => ∃ (s69 : Bool), script_parse_j4 a0 p22 s28 s69 r ∧ τ28.Le τ69 ∧ ESub ρ [(0, .string a0), (2, .Pb b1), (3, .I 0), (4, .Pb b2), (67, .bool s69)] ∧ gs = [[(b1, .cells #[.I s28, .I 0, .I 0, .I 0, .I 0, .I 0, .I 0, .I 0, .N0, .N0, .E0, .E0, .I 0, .I 0, .I 0, .I 0, .N0, .N0] 31 (0, 0))], [(b2, .cells #[v25] 67 (0, 0))], g26]) ?_ (fun hk69 => ?_)
     ·rintro ρ69 τ69 gs69 ⟨s69, h, hl69, hρ, rfl⟩
      refine st_es hρ ?_
      refine st_if rfl h (fun h => ?_) (fun h => ?_)
      ·refine ZZ 3 [1] rfl rfl ?_
       refine o_lenO rfl rfl rfl z_slT67 rfl (ho27.up (hl28.trans hl69)) ?_
       refine Z 2 rfl ?_
       refine st_if rfl h (fun h => ?_) (fun h => ?_)
       ·refine Z 4 rfl ?_
        refine st_ord [0] _ rfl ?_
        exact hk29 _ _ _ ⟨(3, s28, 0, 0, 0, 0, 0, 0, 0, [], [], (bstr []), (bstr []), 0, 0, 0, 0, []), _, _, _, h, hl69, rfl, rfl, Sl.nil, Sl.nil, Sl.nil⟩
       ·refine Z 2 rfl ?_
        refine st_ord [0] _ rfl ?_
        exact hk29 _ _ _ ⟨(0, s28, 0, 0, 0, 0, 0, 0, 0, [], [], (bstr []), (bstr []), 0, 0, 0, 0, []), _, _, _, h, hl69, rfl, rfl, Sl.nil, Sl.nil, Sl.nil⟩
      ·refine ZZ 7 [0] rfl rfl ?_
       obtain ⟨r70, hr71, h⟩ := h
       refine st_call (foot := []) rfl rfl rfl rfl rfl rfl (callV_fn z_en65 (noise_Parse_ok hr71 τ69 (hE.up (((hl6.trans hl24).trans hl28).trans hl69)))) ?_
       rintro vτ72 τ72 gsτ72 hl73 ⟨v74, rfl, rfl, hs75⟩
       refine Z 4 rfl ?_
       refine o_store (j := 0) (vs := (lI r70.1 v74)) (cs' := [.I 2, .I 0, .I 0, .I 0, .I 0, .I 0, .I 0, .I 0, .N0, .N0, .E0, .E0, .I r70.1.1, .I r70.1.2.1, .I r70.1.2.2.1, .I r70.1.2.2.2.1, v74, .N0]) rfl rfl rfl z_size29 rfl rfl rfl (ones_cons rfl (ones_cons rfl (ones_cons rfl (ones_cons rfl (ones_cons hs75.one' ones_nil))))) rfl rfl rfl ?_
       refine Z 3 rfl ?_
       refine st_ord [0] _ rfl ?_
       exact hk29 _ _ _ ⟨(r70.2, 2, 0, 0, 0, 0, 0, 0, 0, [], [], (bstr []), (bstr []), r70.1.1, r70.1.2.1, r70.1.2.2.1, r70.1.2.2.2.1, r70.1.t4), _, _, _, h, (hl69.trans hl73), rfl, rfl, Sl.nil, Sl.nil, hs75⟩
     refine Z 5 rfl ?_
     refine st_if rfl h (fun h => ?_) (fun h => ?_)
     ·refine st_skip ?_
      exact hk69 _ _ _ ⟨(decide (s28 = 3)), h, (Sto.Le.refl _), rfl, rfl⟩
     ·refine Z 5 rfl ?_
      refine st_if rfl h (fun h => ?_) (fun h => ?_)
      ·refine st_skip ?_
       exact hk69 _ _ _ ⟨(decide (s28 = 5)), h, (Sto.Le.refl _), rfl, rfl⟩
      ·refine Z 4 rfl ?_
       exact hk69 _ _ _ ⟨(decide (s28 = 6)), h, (Sto.Le.refl _), rfl, rfl⟩
  refine Z 4 rfl ?_
  obtain ⟨e76, hL76, hA76⟩ := h
  refine st_loop hL76 (fun (s76 : Int × Int) ρ τ76 gs => τ23.Le τ76 ∧ ESub ρ [(0, .string a0), (2, .Pb b1), (3, .I 0), (4, .Pb b2), (7, .I s76.1)] ∧ gs = [[(b1, .cells #[.I s76.2, .I 0, .I 0, .I 0, .I 0, .I 0, .I 0, .I 0, .N0, .N0, .E0, .E0, .I 0, .I 0, .I 0, .I 0, .N0, .N0] 31 (0, 0))], [(b2, .cells #[v25] 67 (0, 0))], g26]) ⟨Sto.Le.refl _, rfl, rfl⟩ ?_
  rintro s76 o76 h he76 ρ76 τ76 gs76 ⟨hl76, hρ, rfl⟩ hn76
  refine st_es hρ ?_
  refine Z 6 rfl ?_
  refine st_if rfl h (fun h => ?_) (fun h => ?_)
  ·refine Z 2 rfl ?_
   refine st_cut (fun ρ τ77 gs => ∃ (s77 : Int), script_parse_j6 s76 s77 o76 ∧ τ76.Le τ77 ∧ ESub ρ [(0, .string a0), (2, .Pb b1), (3, .I 0), (4, .Pb b2), (7, .I s76.1)] ∧ gs = [[(b1, .cells #[.I s77, .I 0, .I 0, .I 0, .I 0, .I 0, .I 0, .I 0, .N0, .N0, .E0, .E0, .I 0, .I 0, .I 0, .I 0, .N0, .N0] 31 (0, 0))], [(b2, .cells #[v25] 67 (0, 0))], g26]) ?_ (fun hk77 => ?_)
   ·rintro ρ77 τ77 gs77 ⟨s77, h, hl77, hρ, rfl⟩
    refine st_es hρ ?_
    refine Z 5 rfl ?_
    exact hn76 _ _ _ _ h ⟨(hl76.trans hl77), rfl, rfl⟩
   refine Z 4 rfl ?_
   obtain ⟨r78, hr79, h⟩ := h
   refine st_call (foot := []) rfl rfl rfl rfl rfl rfl (callV_fn z_en35 (script_word_ok hr79 τ76)) ?_
   rintro vτ80 τ80 gsτ80 hl81 ⟨rfl, rfl⟩
   refine Z 3 rfl ?_
   refine st_cut (fun ρ τ82 gs => ∃ (s82 : Bool), script_parse_j7 s76 s82 o76 ∧ τ80.Le τ82 ∧ ESub ρ [(0, .string a0), (2, .Pb b1), (3, .I 0), (4, .Pb b2), (7, .I s76.1), (34, .bool s82)] ∧ gs = [[(b1, .cells #[.I s76.2, .I 0, .I 0, .I 0, .I 0, .I 0, .I 0, .I 0, .N0, .N0, .E0, .E0, .I 0, .I 0, .I 0, .I 0, .N0, .N0] 31 (0, 0))], [(b2, .cells #[v25] 67 (0, 0))], g26]) ?_ (fun hk82 => ?_)
   ·rintro ρ82 τ82 gs82 ⟨s82, h, hl82, hρ, rfl⟩
    refine st_es hρ ?_
    refine st_if rfl h (fun h => ?_) (fun h => ?_)
    ·refine ZZ 6 [0] rfl rfl ?_
     exact hk77 _ _ _ ⟨s76.1, h, (hl81.trans hl82), rfl, rfl⟩
    ·refine Z 2 rfl ?_
     exact hk77 _ _ _ ⟨s76.2, h, (hl81.trans hl82), rfl, rfl⟩
   refine Z 2 rfl ?_
   refine o_sbin (v := .bool (!(decide (r78 = (bstr []))))) rfl rfl rfl rfl (ev_str z_str1) rfl ?_
   refine o_mif rfl rfl rfl rfl h (fun h => ?_) (fun h => ?_)
   ·refine ZZ 2 [1] rfl rfl ?_
    obtain ⟨q83, hf84, h⟩ := h
    refine o_indexOw rfl rfl rfl z_slT67 rfl rfl (ho27.up (hl76.trans hl81)) rfl hf84 (fun b85 hb86 => ?_)
    obtain ⟨vs87, hrep88, hat89⟩ := Ow.at (ho27.up (hl76.trans hl81)) hb86 hf84
    obtain rfl := hrep88
    refine o_loadOw (off := 0) (j := 2) (v := .string q83) rfl rfl rfl z_sc9 rfl hat89 rfl rfl ?_
    refine Z 3 rfl ?_
    exact hk82 _ _ _ ⟨(decide (r78 = q83)), h, (Sto.Le.refl _), rfl, rfl⟩
   ·refine Z 7 rfl ?_
    exact hk82 _ _ _ ⟨false, h, (Sto.Le.refl _), rfl, rfl⟩
  ·refine st_exit rfl ?_
   obtain rfl := he76 _ h
   replace h := hA76
   exact hk28 _ _ _ ⟨s76.2, h, hl76, rfl, rfl⟩
 ·exact fun _ _ _ _ _ _ _ h => h.elim
theorem script_Parse_ok {a0 : ByteArray} {r : (TyS) × Int} (h : script_Parse a0 r) (σ : Sto) (hT : Tab Tryz.prog σ) (hE : Errs Tryz.prog σ) :
    Does Tryz.prog 7 [.string a0] σ [] (fun v τ gs => ∃ (v15 : Value) (v16 : Value) (v17 : Value) (v18 : Value), gs = [] ∧ .tuple [.agg (lS r.1 v15 v16 v17 v18).toArray, .I r.2].toArray = v ∧ Sl (kP (kI .i64) (kI .i64)) τ v15 r.1.2.1.2.2.1 ∧ Sl (kI .i64) τ v16 r.1.2.1.2.2.2.1 ∧ Sl (kI .u8) τ v17 r.1.2.2.1.t4 ∧ Sl (kI .i64) τ v18 r.1.2.2.2) := by
 refine call_of Tryz.func7 Tryz.ntmps7 rfl rfl (fun cs fs => ?_)
 refine Z 2 rfl ?_
 refine o_alloc rfl rfl rfl z_zero31 (fun b1 => ?_)
 refine Z 5 rfl ?_
 obtain ⟨r2, hr3, h⟩ := h
 refine st_call (foot := []) rfl rfl rfl rfl rfl rfl (callV_fn z_en25 (script_parse_ok hr3 σ hT hE)) ?_
 rintro vτ4 τ4 gsτ4 hl5 ⟨v6, v7, v8, v9, rfl, rfl, hs10, hs11, hs12, hs13⟩
 refine Z 3 rfl ?_
 refine o_alloc rfl rfl rfl z_zero31 (fun b14 => ?_)
 refine o_store (j := 0) (vs := (lS r2.1 v6 v7 v8 v9)) (cs' := (lS r2.1 v6 v7 v8 v9)) rfl rfl rfl z_size31 rfl rfl rfl (ones_cons rfl (ones_cons rfl (ones_cons rfl (ones_cons rfl (ones_cons rfl (ones_cons rfl (ones_cons rfl (ones_cons rfl (ones_cons hs10.one' (ones_cons hs11.one' (ones_cons rfl (ones_cons rfl (ones_cons rfl (ones_cons rfl (ones_cons rfl (ones_cons rfl (ones_cons hs12.one' (ones_cons hs13.one' ones_nil)))))))))))))))))) rfl rfl rfl ?_
 refine Z 8 rfl ?_
 refine st_if rfl h (fun h => ?_) (fun h => ?_)
 ·refine ZZ 7 [1] rfl rfl ?_
  obtain rfl := Eq.symm h
  exact st_retC (gs' := []) [.agg lZ.toArray, .I r2.2] Tryz.func7 ⟨⟨_, _, _, _, rfl, mem_flat 1 rfl, fun w hw => cellOfN (vs := lZ) z_agg31 rfl w hw⟩, rfl, trivial⟩ (by simp) hl5 ⟨_, _, _, _, rfl, rfl, Sl.nil, Sl.nil, Sl.nil, Sl.nil⟩
 ·refine ZZ 4 [0] rfl rfl ?_
  refine o_store (j := 1) (vs := (lS r2.1 v6 v7 v8 v9)) (cs' := (lS r2.1 v6 v7 v8 v9)) rfl rfl rfl z_size31 rfl rfl rfl (ones_cons rfl (ones_cons rfl (ones_cons rfl (ones_cons rfl (ones_cons rfl (ones_cons rfl (ones_cons rfl (ones_cons rfl (ones_cons hs10.one' (ones_cons hs11.one' (ones_cons rfl (ones_cons rfl (ones_cons rfl (ones_cons rfl (ones_cons rfl (ones_cons rfl (ones_cons hs12.one' (ones_cons hs13.one' ones_nil)))))))))))))))))) rfl rfl rfl ?_
  refine Z 2 rfl ?_
  obtain rfl := Eq.symm h
  exact st_retC (gs' := []) [.agg (lS r2.1 v6 v7 v8 v9).toArray, .I 0] Tryz.func7 ⟨⟨_, _, _, _, rfl, mem_flat 1 rfl, fun w hw => cellOfN (vs := (lS r2.1 v6 v7 v8 v9)) z_agg31 rfl w hw⟩, rfl, trivial⟩ (by simp) hl5 ⟨_, _, _, _, rfl, rfl, hs10, hs11, hs12, hs13⟩
theorem ref16_Word_ok {a0 : Int} {r : ByteArray} (h : ref16_Word a0 r) (σ : Sto)  :
    Does Tryz.prog 66 [.I a0] σ [] (fun v τ gs => gs = [] ∧ .string r = v) := by
 refine call_of Tryz.func66 Tryz.ntmps66 rfl rfl (fun cs fs => ?_)
 refine Z 2 rfl ?_
 refine o_assign rfl rfl rfl (ev_str z_str1) ?_
 refine Z 3 rfl ?_
 refine st_cut (fun ρ τ1 gs => ∃ (s1 : Bool), ref16_Word_j1 a0 s1 r ∧ σ.Le τ1 ∧ ESub ρ [(0, .I a0), (2, .E0), (8, .bool s1)] ∧ gs = []) ?_ (fun hk1 => ?_)
 ·rintro ρ1 τ1 gs1 ⟨s1, h, hl1, hρ, rfl⟩
  refine st_es hρ ?_
  refine st_if rfl h (fun h => ?_) (fun h => ?_)
  ·refine Z 2 rfl ?_
   refine o_assign rfl rfl rfl (ev_str z_str1) ?_
   refine st_end ?_
   obtain rfl := Eq.symm h
   exact st_ret (gs' := []) Tryz.func66 rfl (List.Sublist.refl _) hl1 ⟨rfl, rfl⟩
  ·refine Z 3 rfl ?_
   refine o_litE eS [(bstr [109, 111, 118, 101]), (bstr [104, 111, 108, 100]), (bstr [103, 114, 97, 110, 116]), (bstr [112, 111, 115, 101]), (bstr [102, 97, 117, 108, 116])] rfl rfl rfl z_slT67 z_zero9 ⟨rfl, ⟨_, (ev_str z_str7), rfl⟩, ⟨rfl, ⟨_, (ev_str z_str8), rfl⟩, ⟨rfl, ⟨_, (ev_str z_str9), rfl⟩, ⟨rfl, ⟨_, (ev_str z_str10), rfl⟩, ⟨rfl, ⟨_, (ev_str z_str11), rfl⟩, trivial⟩⟩⟩⟩⟩ rfl rfl rfl rfl (fun v2 g3 ho4 => ?_)
   refine Z 2 rfl ?_
   obtain ⟨q5, hf6, h⟩ := h
   refine o_indexOw rfl rfl rfl z_slT67 rfl rfl ho4 rfl hf6 (fun b7 hb8 => ?_)
   obtain ⟨vs9, hrep10, hat11⟩ := Ow.at ho4 hb8 hf6
   obtain rfl := hrep10
   refine o_loadOw (off := 0) (j := 0) (v := .string q5) rfl rfl rfl z_sc9 rfl hat11 rfl rfl ?_
   refine Z 2 rfl ?_
   refine st_ord [] _ rfl ?_
   obtain rfl := Eq.symm h
   exact st_ret (gs' := []) Tryz.func66 rfl (List.Sublist.refl _) hl1 ⟨rfl, rfl⟩
 refine Z 3 rfl ?_
 refine o_mif rfl rfl rfl rfl h (fun h => ?_) (fun h => ?_)
 ·refine Z 4 rfl ?_
  exact hk1 _ _ _ ⟨true, h, (Sto.Le.refl _), rfl, rfl⟩
 ·refine Z 4 rfl ?_
  exact hk1 _ _ _ ⟨(decide (5 < a0)), h, (Sto.Le.refl _), rfl, rfl⟩
theorem ref16_All_ok {a0 : Int} {r : (List (TyA))} (h : ref16_All a0 r) (σ : Sto)  :
    Does Tryz.prog 67 [.I a0] σ [] (fun v τ gs => ∃ (v55 : Value), gs = [] ∧ v55 = v ∧ Sl (kP kS (kP (kI .i64) (kP (kI .i64) (kP (kI .i64) (kP (kI .i64) (kP (kI .i64) (kI .i64))))))) τ v55 r) := by
 refine call_of Tryz.func67 Tryz.ntmps67 rfl rfl (fun cs fs => ?_)
 refine Z 14 rfl ?_
 refine o_lit (dk := (kP kS (kP (kI .i64) (kP (kI .i64) (kP (kI .i64) (kP (kI .i64) (kP (kI .i64) (kI .i64)))))))) (xs := ([] : List (TyA))) (ps := []) (cs := []) rfl rfl rfl z_slT126 z_zero129 trivial rfl rfl rfl rfl Kd.Many.nil (fun v1 g2 ho3 => ?_)
 refine Z 3 rfl ?_
 refine st_cut (fun ρ τ4 gs => ∃ (s4 : (List (TyA))) (v5 : Value) (g6 : Grp), ref16_All_j1 s4 r ∧ σ.Le τ4 ∧ ESub ρ [(2, .N0), (3, .N0), (4, .I 0), (5, v5)] ∧ gs = [g6] ∧ Ow (kP kS (kP (kI .i64) (kP (kI .i64) (kP (kI .i64) (kP (kI .i64) (kP (kI .i64) (kI .i64))))))) 129 τ4 v5 s4 g6) ?_ (fun hk4 => ?_)
 ·rintro ρ4 τ4 gs4 ⟨s4, v5, g6, h, hl4, hρ, rfl, ho7⟩
  refine st_es hρ ?_
  refine st_seq ?_
  refine st_cut (fun ρ τ8 gs => ∃ (s8 : (List (TyA))) (v9 : Value) (g10 : Grp), ref16_All_j2 s8 r ∧ τ4.Le τ8 ∧ ESub ρ [(2, .N0), (3, v9)] ∧ gs = [g10] ∧ Ow (kP kS (kP (kI .i64) (kP (kI .i64) (kP (kI .i64) (kP (kI .i64) (kP (kI .i64) (kI .i64))))))) 129 τ8 v9 s8 g10) ?_ (fun hk8 => ?_)
  ·rintro ρ8 τ8 gs8 ⟨s8, v9, g10, h, hl8, hρ, rfl, ho11⟩
   refine st_es hρ ?_
   refine Z 5 rfl ?_
   refine st_freeze (fun τ12 hl13 hg14 => ?_)
   have hs15 := ho11.freeze hl13 hg14
   obtain rfl := Eq.symm h
   exact st_ret (gs' := []) Tryz.func67 rfl (List.Sublist.refl _) ((hl4.trans hl8).trans hl13) ⟨_, rfl, rfl, hs15⟩
  refine Z 4 rfl ?_
  obtain ⟨e18, hL18, hA18⟩ := h
  refine st_addNil ?_
  refine st_ord [1, 0] _ rfl ?_
  refine st_loop hL18 (fun (s18 : (List (TyA)) × Int × Int) ρ τ18 gs => τ4.Le τ18 ∧ ∃ (v19 : Value) (g20 : Grp), ESub ρ [(2, .N0), (3, v19), (4, .I s18.2.1), (5, v5), (6, .I s18.2.2)] ∧ gs = [g6, g20] ∧ Ow (kP kS (kP (kI .i64) (kP (kI .i64) (kP (kI .i64) (kP (kI .i64) (kP (kI .i64) (kI .i64))))))) 129 τ18 v19 s18.1 g20) ⟨Sto.Le.refl _, _, _, rfl, rfl, Ow.nil⟩ ?_
  rintro s18 o18 h he18 ρ18 τ18 gs18 ⟨hl18, v19, g20, hρ, rfl, ho21⟩ hn18
  refine st_es hρ ?_
  refine Z 5 rfl ?_
  refine o_lenO rfl rfl rfl z_slT126 rfl (ho7.up hl18) ?_
  refine Z 2 rfl ?_
  refine st_if rfl h (fun h => ?_) (fun h => ?_)
  ·refine Z 7 rfl ?_
   obtain ⟨q22, hf23, h⟩ := h
   refine o_indexOw rfl rfl rfl z_slT126 rfl rfl (ho7.up hl18) rfl hf23 (fun b24 hb25 => ?_)
   obtain ⟨vs26, hrep27, hat28⟩ := Ow.at (ho7.up hl18) hb25 hf23
   obtain ⟨_, _, rfl, rfl, ⟨_, _, rfl, rfl, ⟨_, _, rfl, rfl, ⟨_, _, rfl, rfl, ⟨_, _, rfl, rfl, ⟨_, _, rfl, rfl, rfl⟩⟩⟩⟩⟩⟩ := hrep27
   refine o_loadOwN (j := 0) (off := 0) (us := (lA q22)) rfl rfl rfl z_agg129 rfl hat28 rfl (by exact rfl) ?_
   refine o_alloc rfl rfl rfl z_zero129 (fun b29 => ?_)
   refine ZZ 8 [0, 0] rfl rfl ?_
   refine st_cut (fun ρ τ30 gs => ∃ (s30 : Int × Int), ref16_All_j4 s18 q22 s30 o18 ∧ τ18.Le τ30 ∧ ESub ρ [(2, .N0), (3, v19), (4, .I s30.1), (5, v5), (6, .I s18.2.2), (7, .Pb b29)] ∧ gs = [[(b29, .cells #[.string q22.1, .I q22.2.1, .I s30.2, .I q22.2.2.2.1, .I q22.t4.1, .I q22.t4.2.1, .I q22.t4.2.2] 129 (0, 0))], g20, g6]) ?_ (fun hk30 => ?_)
   ·rintro ρ30 τ30 gs30 ⟨s30, h, hl30, hρ, rfl⟩
    refine st_es hρ ?_
    refine ZZ 3 [0] rfl rfl ?_
    refine o_litE (eP eS (eP (eI .i64) (eP (eI .i64) (eP (eI .i64) (eP (eI .i64) (eP (eI .i64) (eI .i64))))))) [(q22.1, q22.2.1, s30.2, q22.2.2.2.1, q22.t4.1, q22.t4.2.1, q22.t4.2.2)] rfl rfl rfl z_slT126 z_zero129 ⟨rfl, ⟨_, rfl, rfl⟩, trivial⟩ rfl rfl rfl rfl (fun v31 g32 ho33 => ?_)
    obtain ⟨hf37, hf38, h⟩ := h
    refine st_ord [2, 0, 0, 0] _ rfl ?_
    refine o_append (dk := (kP kS (kP (kI .i64) (kP (kI .i64) (kP (kI .i64) (kP (kI .i64) (kP (kI .i64) (kI .i64)))))))) (xs := s18.1) (ys := [(q22.1, q22.2.1, s30.2, q22.2.2.2.1, q22.t4.1, q22.t4.2.1, q22.t4.2.2)]) rfl rfl rfl rfl z_slT126 rfl (ho21.up hl30) rfl (Ow.src (j := 1) ho33 rfl) hf37 hf38 (fun v34 g35 ho36 => ?_)
    refine Z 8 rfl ?_
    refine st_ord [3, 0] _ rfl ?_
    exact hn18 _ _ _ _ h ⟨(hl18.trans hl30), _, _, rfl, rfl, ho36⟩
   refine ZZ 6 [0] rfl rfl ?_
   refine st_if rfl h (fun h => ?_) (fun h => ?_)
   ·refine ZZ 11 [0] rfl rfl ?_
    refine st_ord [0, 1, 0] _ rfl ?_
    exact hk30 _ _ _ ⟨((IntKind.i64.wrap (s18.2.1 + 1)), s18.2.1), h, (Sto.Le.refl _), rfl, rfl⟩
   ·refine st_skip ?_
    refine st_ord [0, 1, 0] _ rfl ?_
    exact hk30 _ _ _ ⟨(s18.2.1, (-1)), h, (Sto.Le.refl _), rfl, rfl⟩
  ·refine st_exit rfl ?_
   obtain rfl := he18 _ h
   replace h := hA18
   refine st_ord [1] _ rfl ?_
   exact hk8 _ _ _ ⟨s18.1, _, _, h, hl18, rfl, rfl, ho21⟩
 refine Z 10 rfl ?_
 refine st_if rfl h (fun h => ?_) (fun h => ?_)
 ·refine st_region ?_
  refine o_build (ps := [(0, [.string (bstr [114, 111, 98, 111, 116])]), (1, [.I 1]), (2, [.I 0]), (3, [.I 0]), (4, [.I 65535]), (5, [.I 1]), (6, [.I 0])]) (cs := [.string (bstr [114, 111, 98, 111, 116]), .I 1, .I 0, .I 0, .I 65535, .I 1, .I 0]) rfl rfl rfl z_struct129 ⟨rfl, ⟨_, (ev_str z_str12), rfl⟩, ⟨rfl, ⟨_, rfl, rfl⟩, ⟨rfl, ⟨_, rfl, rfl⟩, ⟨rfl, ⟨_, rfl, rfl⟩, ⟨rfl, ⟨_, rfl, rfl⟩, ⟨rfl, ⟨_, rfl, rfl⟩, ⟨rfl, ⟨_, rfl, rfl⟩, trivial⟩⟩⟩⟩⟩⟩⟩ rfl ?_
  refine o_build (ps := [(0, [.string (bstr [115, 112, 101, 101, 100])]), (1, [.I 1]), (2, [.I 0]), (3, [.I 1]), (4, [.I 5000]), (5, [.I 1]), (6, [.I 0])]) (cs := [.string (bstr [115, 112, 101, 101, 100]), .I 1, .I 0, .I 1, .I 5000, .I 1, .I 0]) rfl rfl rfl z_struct129 ⟨rfl, ⟨_, (ev_str z_str13), rfl⟩, ⟨rfl, ⟨_, rfl, rfl⟩, ⟨rfl, ⟨_, rfl, rfl⟩, ⟨rfl, ⟨_, rfl, rfl⟩, ⟨rfl, ⟨_, rfl, rfl⟩, ⟨rfl, ⟨_, rfl, rfl⟩, ⟨rfl, ⟨_, rfl, rfl⟩, trivial⟩⟩⟩⟩⟩⟩⟩ rfl ?_
  refine o_build (ps := [(0, [.string (bstr [97, 99, 99, 101, 108])]), (1, [.I 1]), (2, [.I 0]), (3, [.I 1]), (4, [.I 10000]), (5, [.I 2]), (6, [.I 500])]) (cs := [.string (bstr [97, 99, 99, 101, 108]), .I 1, .I 0, .I 1, .I 10000, .I 2, .I 500]) rfl rfl rfl z_struct129 ⟨rfl, ⟨_, (ev_str z_str14), rfl⟩, ⟨rfl, ⟨_, rfl, rfl⟩, ⟨rfl, ⟨_, rfl, rfl⟩, ⟨rfl, ⟨_, rfl, rfl⟩, ⟨rfl, ⟨_, rfl, rfl⟩, ⟨rfl, ⟨_, rfl, rfl⟩, ⟨rfl, ⟨_, rfl, rfl⟩, trivial⟩⟩⟩⟩⟩⟩⟩ rfl ?_
  refine o_build (ps := [(0, [.string (bstr [112, 97, 116, 104])]), (1, [.I 3]), (2, [.I 0]), (3, [.I 1]), (4, [.I 16]), (5, [.I 1]), (6, [.I 0])]) (cs := [.string (bstr [112, 97, 116, 104]), .I 3, .I 0, .I 1, .I 16, .I 1, .I 0]) rfl rfl rfl z_struct129 ⟨rfl, ⟨_, (ev_str z_str15), rfl⟩, ⟨rfl, ⟨_, rfl, rfl⟩, ⟨rfl, ⟨_, rfl, rfl⟩, ⟨rfl, ⟨_, rfl, rfl⟩, ⟨rfl, ⟨_, rfl, rfl⟩, ⟨rfl, ⟨_, rfl, rfl⟩, ⟨rfl, ⟨_, rfl, rfl⟩, trivial⟩⟩⟩⟩⟩⟩⟩ rfl ?_
  refine o_build (ps := [(0, [.string (bstr [116, 97, 103])]), (1, [.I 6]), (2, [.I 0]), (3, [.I 0]), (4, [.I 16]), (5, [.I 2]), (6, [.I 0])]) (cs := [.string (bstr [116, 97, 103]), .I 6, .I 0, .I 0, .I 16, .I 2, .I 0]) rfl rfl rfl z_struct129 ⟨rfl, ⟨_, (ev_str z_str16), rfl⟩, ⟨rfl, ⟨_, rfl, rfl⟩, ⟨rfl, ⟨_, rfl, rfl⟩, ⟨rfl, ⟨_, rfl, rfl⟩, ⟨rfl, ⟨_, rfl, rfl⟩, ⟨rfl, ⟨_, rfl, rfl⟩, ⟨rfl, ⟨_, rfl, rfl⟩, trivial⟩⟩⟩⟩⟩⟩⟩ rfl ?_
  refine o_litE (eP eS (eP (eI .i64) (eP (eI .i64) (eP (eI .i64) (eP (eI .i64) (eP (eI .i64) (eI .i64))))))) [((bstr [114, 111, 98, 111, 116]), 1, 0, 0, 65535, 1, 0), ((bstr [115, 112, 101, 101, 100]), 1, 0, 1, 5000, 1, 0), ((bstr [97, 99, 99, 101, 108]), 1, 0, 1, 10000, 2, 500), ((bstr [112, 97, 116, 104]), 3, 0, 1, 16, 1, 0), ((bstr [116, 97, 103]), 6, 0, 0, 16, 2, 0)] rfl rfl rfl z_slT126 z_zero129 ⟨rfl, ⟨_, rfl, rfl⟩, ⟨rfl, ⟨_, rfl, rfl⟩, ⟨rfl, ⟨_, rfl, rfl⟩, ⟨rfl, ⟨_, rfl, rfl⟩, ⟨rfl, ⟨_, rfl, rfl⟩, trivial⟩⟩⟩⟩⟩ rfl rfl rfl rfl (fun v40 g41 ho42 => ?_)
  refine Z 3 rfl ?_
  refine st_ord [0] _ rfl ?_
  exact hk4 _ _ _ ⟨[((bstr [114, 111, 98, 111, 116]), 1, 0, 0, 65535, 1, 0), ((bstr [115, 112, 101, 101, 100]), 1, 0, 1, 5000, 1, 0), ((bstr [97, 99, 99, 101, 108]), 1, 0, 1, 10000, 2, 500), ((bstr [112, 97, 116, 104]), 3, 0, 1, 16, 1, 0), ((bstr [116, 97, 103]), 6, 0, 0, 16, 2, 0)], _, _, h, (Sto.Le.refl _), rfl, rfl, ho42⟩
 ·refine Z 5 rfl ?_
  refine st_if rfl h (fun h => ?_) (fun h => ?_)
  ·refine st_region ?_
   refine o_build (ps := [(0, [.string (bstr [114, 111, 98, 111, 116])]), (1, [.I 1]), (2, [.I 0]), (3, [.I 0]), (4, [.I 65535]), (5, [.I 1]), (6, [.I 0])]) (cs := [.string (bstr [114, 111, 98, 111, 116]), .I 1, .I 0, .I 0, .I 65535, .I 1, .I 0]) rfl rfl rfl z_struct129 ⟨rfl, ⟨_, (ev_str z_str12), rfl⟩, ⟨rfl, ⟨_, rfl, rfl⟩, ⟨rfl, ⟨_, rfl, rfl⟩, ⟨rfl, ⟨_, rfl, rfl⟩, ⟨rfl, ⟨_, rfl, rfl⟩, ⟨rfl, ⟨_, rfl, rfl⟩, ⟨rfl, ⟨_, rfl, rfl⟩, trivial⟩⟩⟩⟩⟩⟩⟩ rfl ?_
   refine o_build (ps := [(0, [.string (bstr [114, 101, 97, 115, 111, 110])]), (1, [.I 1]), (2, [.I 0]), (3, [.I 0]), (4, [.I 15]), (5, [.I 1]), (6, [.I 0])]) (cs := [.string (bstr [114, 101, 97, 115, 111, 110]), .I 1, .I 0, .I 0, .I 15, .I 1, .I 0]) rfl rfl rfl z_struct129 ⟨rfl, ⟨_, (ev_str z_str17), rfl⟩, ⟨rfl, ⟨_, rfl, rfl⟩, ⟨rfl, ⟨_, rfl, rfl⟩, ⟨rfl, ⟨_, rfl, rfl⟩, ⟨rfl, ⟨_, rfl, rfl⟩, ⟨rfl, ⟨_, rfl, rfl⟩, ⟨rfl, ⟨_, rfl, rfl⟩, trivial⟩⟩⟩⟩⟩⟩⟩ rfl ?_
   refine o_build (ps := [(0, [.string (bstr [122, 111, 110, 101])]), (1, [.I 1]), (2, [.I 0]), (3, [.I 0]), (4, [.I 4095]), (5, [.I 2]), (6, [.I 0])]) (cs := [.string (bstr [122, 111, 110, 101]), .I 1, .I 0, .I 0, .I 4095, .I 2, .I 0]) rfl rfl rfl z_struct129 ⟨rfl, ⟨_, (ev_str z_str18), rfl⟩, ⟨rfl, ⟨_, rfl, rfl⟩, ⟨rfl, ⟨_, rfl, rfl⟩, ⟨rfl, ⟨_, rfl, rfl⟩, ⟨rfl, ⟨_, rfl, rfl⟩, ⟨rfl, ⟨_, rfl, rfl⟩, ⟨rfl, ⟨_, rfl, rfl⟩, trivial⟩⟩⟩⟩⟩⟩⟩ rfl ?_
   refine o_litE (eP eS (eP (eI .i64) (eP (eI .i64) (eP (eI .i64) (eP (eI .i64) (eP (eI .i64) (eI .i64))))))) [((bstr [114, 111, 98, 111, 116]), 1, 0, 0, 65535, 1, 0), ((bstr [114, 101, 97, 115, 111, 110]), 1, 0, 0, 15, 1, 0), ((bstr [122, 111, 110, 101]), 1, 0, 0, 4095, 2, 0)] rfl rfl rfl z_slT126 z_zero129 ⟨rfl, ⟨_, rfl, rfl⟩, ⟨rfl, ⟨_, rfl, rfl⟩, ⟨rfl, ⟨_, rfl, rfl⟩, trivial⟩⟩⟩ rfl rfl rfl rfl (fun v43 g44 ho45 => ?_)
   refine Z 3 rfl ?_
   refine st_ord [0] _ rfl ?_
   exact hk4 _ _ _ ⟨[((bstr [114, 111, 98, 111, 116]), 1, 0, 0, 65535, 1, 0), ((bstr [114, 101, 97, 115, 111, 110]), 1, 0, 0, 15, 1, 0), ((bstr [122, 111, 110, 101]), 1, 0, 0, 4095, 2, 0)], _, _, h, (Sto.Le.refl _), rfl, rfl, ho45⟩
  ·refine Z 5 rfl ?_
   refine st_if rfl h (fun h => ?_) (fun h => ?_)
   ·refine st_region ?_
    refine o_build (ps := [(0, [.string (bstr [114, 111, 98, 111, 116])]), (1, [.I 1]), (2, [.I 0]), (3, [.I 0]), (4, [.I 65535]), (5, [.I 1]), (6, [.I 0])]) (cs := [.string (bstr [114, 111, 98, 111, 116]), .I 1, .I 0, .I 0, .I 65535, .I 1, .I 0]) rfl rfl rfl z_struct129 ⟨rfl, ⟨_, (ev_str z_str12), rfl⟩, ⟨rfl, ⟨_, rfl, rfl⟩, ⟨rfl, ⟨_, rfl, rfl⟩, ⟨rfl, ⟨_, rfl, rfl⟩, ⟨rfl, ⟨_, rfl, rfl⟩, ⟨rfl, ⟨_, rfl, rfl⟩, ⟨rfl, ⟨_, rfl, rfl⟩, trivial⟩⟩⟩⟩⟩⟩⟩ rfl ?_
    refine o_build (ps := [(0, [.string (bstr [122, 111, 110, 101])]), (1, [.I 1]), (2, [.I 0]), (3, [.I 0]), (4, [.I 4095]), (5, [.I 1]), (6, [.I 0])]) (cs := [.string (bstr [122, 111, 110, 101]), .I 1, .I 0, .I 0, .I 4095, .I 1, .I 0]) rfl rfl rfl z_struct129 ⟨rfl, ⟨_, (ev_str z_str18), rfl⟩, ⟨rfl, ⟨_, rfl, rfl⟩, ⟨rfl, ⟨_, rfl, rfl⟩, ⟨rfl, ⟨_, rfl, rfl⟩, ⟨rfl, ⟨_, rfl, rfl⟩, ⟨rfl, ⟨_, rfl, rfl⟩, ⟨rfl, ⟨_, rfl, rfl⟩, trivial⟩⟩⟩⟩⟩⟩⟩ rfl ?_
    refine o_build (ps := [(0, [.string (bstr [108, 101, 97, 115, 101])]), (1, [.I 1]), (2, [.I 0]), (3, [.I 1]), (4, [.I 255]), (5, [.I 2]), (6, [.I 1])]) (cs := [.string (bstr [108, 101, 97, 115, 101]), .I 1, .I 0, .I 1, .I 255, .I 2, .I 1]) rfl rfl rfl z_struct129 ⟨rfl, ⟨_, (ev_str z_str19), rfl⟩, ⟨rfl, ⟨_, rfl, rfl⟩, ⟨rfl, ⟨_, rfl, rfl⟩, ⟨rfl, ⟨_, rfl, rfl⟩, ⟨rfl, ⟨_, rfl, rfl⟩, ⟨rfl, ⟨_, rfl, rfl⟩, ⟨rfl, ⟨_, rfl, rfl⟩, trivial⟩⟩⟩⟩⟩⟩⟩ rfl ?_
    refine o_build (ps := [(0, [.string (bstr [99, 101, 108, 108, 115])]), (1, [.I 4]), (2, [.I 0]), (3, [.I 1]), (4, [.I 32]), (5, [.I 1]), (6, [.I 0])]) (cs := [.string (bstr [99, 101, 108, 108, 115]), .I 4, .I 0, .I 1, .I 32, .I 1, .I 0]) rfl rfl rfl z_struct129 ⟨rfl, ⟨_, (ev_str z_str20), rfl⟩, ⟨rfl, ⟨_, rfl, rfl⟩, ⟨rfl, ⟨_, rfl, rfl⟩, ⟨rfl, ⟨_, rfl, rfl⟩, ⟨rfl, ⟨_, rfl, rfl⟩, ⟨rfl, ⟨_, rfl, rfl⟩, ⟨rfl, ⟨_, rfl, rfl⟩, trivial⟩⟩⟩⟩⟩⟩⟩ rfl ?_
    refine o_litE (eP eS (eP (eI .i64) (eP (eI .i64) (eP (eI .i64) (eP (eI .i64) (eP (eI .i64) (eI .i64))))))) [((bstr [114, 111, 98, 111, 116]), 1, 0, 0, 65535, 1, 0), ((bstr [122, 111, 110, 101]), 1, 0, 0, 4095, 1, 0), ((bstr [108, 101, 97, 115, 101]), 1, 0, 1, 255, 2, 1), ((bstr [99, 101, 108, 108, 115]), 4, 0, 1, 32, 1, 0)] rfl rfl rfl z_slT126 z_zero129 ⟨rfl, ⟨_, rfl, rfl⟩, ⟨rfl, ⟨_, rfl, rfl⟩, ⟨rfl, ⟨_, rfl, rfl⟩, ⟨rfl, ⟨_, rfl, rfl⟩, trivial⟩⟩⟩⟩ rfl rfl rfl rfl (fun v46 g47 ho48 => ?_)
    refine Z 3 rfl ?_
    refine st_ord [0] _ rfl ?_
    exact hk4 _ _ _ ⟨[((bstr [114, 111, 98, 111, 116]), 1, 0, 0, 65535, 1, 0), ((bstr [122, 111, 110, 101]), 1, 0, 0, 4095, 1, 0), ((bstr [108, 101, 97, 115, 101]), 1, 0, 1, 255, 2, 1), ((bstr [99, 101, 108, 108, 115]), 4, 0, 1, 32, 1, 0)], _, _, h, (Sto.Le.refl _), rfl, rfl, ho48⟩
   ·refine Z 5 rfl ?_
    refine st_if rfl h (fun h => ?_) (fun h => ?_)
    ·refine st_region ?_
     refine o_build (ps := [(0, [.string (bstr [114, 111, 98, 111, 116])]), (1, [.I 1]), (2, [.I 0]), (3, [.I 0]), (4, [.I 65535]), (5, [.I 1]), (6, [.I 0])]) (cs := [.string (bstr [114, 111, 98, 111, 116]), .I 1, .I 0, .I 0, .I 65535, .I 1, .I 0]) rfl rfl rfl z_struct129 ⟨rfl, ⟨_, (ev_str z_str12), rfl⟩, ⟨rfl, ⟨_, rfl, rfl⟩, ⟨rfl, ⟨_, rfl, rfl⟩, ⟨rfl, ⟨_, rfl, rfl⟩, ⟨rfl, ⟨_, rfl, rfl⟩, ⟨rfl, ⟨_, rfl, rfl⟩, ⟨rfl, ⟨_, rfl, rfl⟩, trivial⟩⟩⟩⟩⟩⟩⟩ rfl ?_
     refine o_build (ps := [(0, [.string (bstr [120])]), (1, [.I 2]), (2, [.I 0]), (3, [.I (-1000000)]), (4, [.I 1000000]), (5, [.I 1]), (6, [.I 0])]) (cs := [.string (bstr [120]), .I 2, .I 0, .I (-1000000), .I 1000000, .I 1, .I 0]) rfl rfl rfl z_struct129 ⟨rfl, ⟨_, (ev_str z_str21), rfl⟩, ⟨rfl, ⟨_, rfl, rfl⟩, ⟨rfl, ⟨_, rfl, rfl⟩, ⟨rfl, ⟨_, rfl, rfl⟩, ⟨rfl, ⟨_, rfl, rfl⟩, ⟨rfl, ⟨_, rfl, rfl⟩, ⟨rfl, ⟨_, rfl, rfl⟩, trivial⟩⟩⟩⟩⟩⟩⟩ rfl ?_
     refine o_build (ps := [(0, [.string (bstr [121])]), (1, [.I 2]), (2, [.I 0]), (3, [.I (-1000000)]), (4, [.I 1000000]), (5, [.I 1]), (6, [.I 0])]) (cs := [.string (bstr [121]), .I 2, .I 0, .I (-1000000), .I 1000000, .I 1, .I 0]) rfl rfl rfl z_struct129 ⟨rfl, ⟨_, (ev_str z_str22), rfl⟩, ⟨rfl, ⟨_, rfl, rfl⟩, ⟨rfl, ⟨_, rfl, rfl⟩, ⟨rfl, ⟨_, rfl, rfl⟩, ⟨rfl, ⟨_, rfl, rfl⟩, ⟨rfl, ⟨_, rfl, rfl⟩, ⟨rfl, ⟨_, rfl, rfl⟩, trivial⟩⟩⟩⟩⟩⟩⟩ rfl ?_
     refine o_build (ps := [(0, [.string (bstr [104, 101, 97, 100, 105, 110, 103])]), (1, [.I 1]), (2, [.I 0]), (3, [.I 0]), (4, [.I 35999]), (5, [.I 1]), (6, [.I 0])]) (cs := [.string (bstr [104, 101, 97, 100, 105, 110, 103]), .I 1, .I 0, .I 0, .I 35999, .I 1, .I 0]) rfl rfl rfl z_struct129 ⟨rfl, ⟨_, (ev_str z_str23), rfl⟩, ⟨rfl, ⟨_, rfl, rfl⟩, ⟨rfl, ⟨_, rfl, rfl⟩, ⟨rfl, ⟨_, rfl, rfl⟩, ⟨rfl, ⟨_, rfl, rfl⟩, ⟨rfl, ⟨_, rfl, rfl⟩, ⟨rfl, ⟨_, rfl, rfl⟩, trivial⟩⟩⟩⟩⟩⟩⟩ rfl ?_
     refine o_build (ps := [(0, [.string (bstr [98, 97, 116, 116, 101, 114, 121])]), (1, [.I 1]), (2, [.I 0]), (3, [.I 0]), (4, [.I 1000]), (5, [.I 1]), (6, [.I 0])]) (cs := [.string (bstr [98, 97, 116, 116, 101, 114, 121]), .I 1, .I 0, .I 0, .I 1000, .I 1, .I 0]) rfl rfl rfl z_struct129 ⟨rfl, ⟨_, (ev_str z_str24), rfl⟩, ⟨rfl, ⟨_, rfl, rfl⟩, ⟨rfl, ⟨_, rfl, rfl⟩, ⟨rfl, ⟨_, rfl, rfl⟩, ⟨rfl, ⟨_, rfl, rfl⟩, ⟨rfl, ⟨_, rfl, rfl⟩, ⟨rfl, ⟨_, rfl, rfl⟩, trivial⟩⟩⟩⟩⟩⟩⟩ rfl ?_
     refine o_build (ps := [(0, [.string (bstr [115, 117, 114, 101])]), (1, [.I 1]), (2, [.I 0]), (3, [.I 0]), (4, [.I 100]), (5, [.I 2]), (6, [.I 100])]) (cs := [.string (bstr [115, 117, 114, 101]), .I 1, .I 0, .I 0, .I 100, .I 2, .I 100]) rfl rfl rfl z_struct129 ⟨rfl, ⟨_, (ev_str z_str25), rfl⟩, ⟨rfl, ⟨_, rfl, rfl⟩, ⟨rfl, ⟨_, rfl, rfl⟩, ⟨rfl, ⟨_, rfl, rfl⟩, ⟨rfl, ⟨_, rfl, rfl⟩, ⟨rfl, ⟨_, rfl, rfl⟩, ⟨rfl, ⟨_, rfl, rfl⟩, trivial⟩⟩⟩⟩⟩⟩⟩ rfl ?_
     refine o_litE (eP eS (eP (eI .i64) (eP (eI .i64) (eP (eI .i64) (eP (eI .i64) (eP (eI .i64) (eI .i64))))))) [((bstr [114, 111, 98, 111, 116]), 1, 0, 0, 65535, 1, 0), ((bstr [120]), 2, 0, (-1000000), 1000000, 1, 0), ((bstr [121]), 2, 0, (-1000000), 1000000, 1, 0), ((bstr [104, 101, 97, 100, 105, 110, 103]), 1, 0, 0, 35999, 1, 0), ((bstr [98, 97, 116, 116, 101, 114, 121]), 1, 0, 0, 1000, 1, 0), ((bstr [115, 117, 114, 101]), 1, 0, 0, 100, 2, 100)] rfl rfl rfl z_slT126 z_zero129 ⟨rfl, ⟨_, rfl, rfl⟩, ⟨rfl, ⟨_, rfl, rfl⟩, ⟨rfl, ⟨_, rfl, rfl⟩, ⟨rfl, ⟨_, rfl, rfl⟩, ⟨rfl, ⟨_, rfl, rfl⟩, ⟨rfl, ⟨_, rfl, rfl⟩, trivial⟩⟩⟩⟩⟩⟩ rfl rfl rfl rfl (fun v49 g50 ho51 => ?_)
     refine Z 3 rfl ?_
     refine st_ord [0] _ rfl ?_
     exact hk4 _ _ _ ⟨[((bstr [114, 111, 98, 111, 116]), 1, 0, 0, 65535, 1, 0), ((bstr [120]), 2, 0, (-1000000), 1000000, 1, 0), ((bstr [121]), 2, 0, (-1000000), 1000000, 1, 0), ((bstr [104, 101, 97, 100, 105, 110, 103]), 1, 0, 0, 35999, 1, 0), ((bstr [98, 97, 116, 116, 101, 114, 121]), 1, 0, 0, 1000, 1, 0), ((bstr [115, 117, 114, 101]), 1, 0, 0, 100, 2, 100)], _, _, h, (Sto.Le.refl _), rfl, rfl, ho51⟩
    ·refine Z 5 rfl ?_
     refine st_if rfl h (fun h => ?_) (fun h => ?_)
     ·refine st_region ?_
      refine o_build (ps := [(0, [.string (bstr [114, 111, 98, 111, 116])]), (1, [.I 1]), (2, [.I 0]), (3, [.I 0]), (4, [.I 65535]), (5, [.I 1]), (6, [.I 0])]) (cs := [.string (bstr [114, 111, 98, 111, 116]), .I 1, .I 0, .I 0, .I 65535, .I 1, .I 0]) rfl rfl rfl z_struct129 ⟨rfl, ⟨_, (ev_str z_str12), rfl⟩, ⟨rfl, ⟨_, rfl, rfl⟩, ⟨rfl, ⟨_, rfl, rfl⟩, ⟨rfl, ⟨_, rfl, rfl⟩, ⟨rfl, ⟨_, rfl, rfl⟩, ⟨rfl, ⟨_, rfl, rfl⟩, ⟨rfl, ⟨_, rfl, rfl⟩, trivial⟩⟩⟩⟩⟩⟩⟩ rfl ?_
      refine o_build (ps := [(0, [.string (bstr [99, 111, 100, 101])]), (1, [.I 1]), (2, [.I 0]), (3, [.I 1]), (4, [.I 9999]), (5, [.I 1]), (6, [.I 0])]) (cs := [.string (bstr [99, 111, 100, 101]), .I 1, .I 0, .I 1, .I 9999, .I 1, .I 0]) rfl rfl rfl z_struct129 ⟨rfl, ⟨_, (ev_str z_str26), rfl⟩, ⟨rfl, ⟨_, rfl, rfl⟩, ⟨rfl, ⟨_, rfl, rfl⟩, ⟨rfl, ⟨_, rfl, rfl⟩, ⟨rfl, ⟨_, rfl, rfl⟩, ⟨rfl, ⟨_, rfl, rfl⟩, ⟨rfl, ⟨_, rfl, rfl⟩, trivial⟩⟩⟩⟩⟩⟩⟩ rfl ?_
      refine o_build (ps := [(0, [.string (bstr [115, 101, 118, 101, 114, 105, 116, 121])]), (1, [.I 1]), (2, [.I 0]), (3, [.I 0]), (4, [.I 4]), (5, [.I 1]), (6, [.I 0])]) (cs := [.string (bstr [115, 101, 118, 101, 114, 105, 116, 121]), .I 1, .I 0, .I 0, .I 4, .I 1, .I 0]) rfl rfl rfl z_struct129 ⟨rfl, ⟨_, (ev_str z_str27), rfl⟩, ⟨rfl, ⟨_, rfl, rfl⟩, ⟨rfl, ⟨_, rfl, rfl⟩, ⟨rfl, ⟨_, rfl, rfl⟩, ⟨rfl, ⟨_, rfl, rfl⟩, ⟨rfl, ⟨_, rfl, rfl⟩, ⟨rfl, ⟨_, rfl, rfl⟩, trivial⟩⟩⟩⟩⟩⟩⟩ rfl ?_
      refine o_build (ps := [(0, [.string (bstr [112, 97, 114, 116])]), (1, [.I 1]), (2, [.I 0]), (3, [.I 0]), (4, [.I 255]), (5, [.I 2]), (6, [.I 0])]) (cs := [.string (bstr [112, 97, 114, 116]), .I 1, .I 0, .I 0, .I 255, .I 2, .I 0]) rfl rfl rfl z_struct129 ⟨rfl, ⟨_, (ev_str z_str28), rfl⟩, ⟨rfl, ⟨_, rfl, rfl⟩, ⟨rfl, ⟨_, rfl, rfl⟩, ⟨rfl, ⟨_, rfl, rfl⟩, ⟨rfl, ⟨_, rfl, rfl⟩, ⟨rfl, ⟨_, rfl, rfl⟩, ⟨rfl, ⟨_, rfl, rfl⟩, trivial⟩⟩⟩⟩⟩⟩⟩ rfl ?_
      refine o_build (ps := [(0, [.string (bstr [116, 105, 109, 101, 115])]), (1, [.I 1]), (2, [.I 0]), (3, [.I 1]), (4, [.I 1000000]), (5, [.I 2]), (6, [.I 1])]) (cs := [.string (bstr [116, 105, 109, 101, 115]), .I 1, .I 0, .I 1, .I 1000000, .I 2, .I 1]) rfl rfl rfl z_struct129 ⟨rfl, ⟨_, (ev_str z_str29), rfl⟩, ⟨rfl, ⟨_, rfl, rfl⟩, ⟨rfl, ⟨_, rfl, rfl⟩, ⟨rfl, ⟨_, rfl, rfl⟩, ⟨rfl, ⟨_, rfl, rfl⟩, ⟨rfl, ⟨_, rfl, rfl⟩, ⟨rfl, ⟨_, rfl, rfl⟩, trivial⟩⟩⟩⟩⟩⟩⟩ rfl ?_
      refine o_build (ps := [(0, [.string (bstr [116, 101, 120, 116])]), (1, [.I 5]), (2, [.I 0]), (3, [.I 0]), (4, [.I 64]), (5, [.I 1]), (6, [.I 0])]) (cs := [.string (bstr [116, 101, 120, 116]), .I 5, .I 0, .I 0, .I 64, .I 1, .I 0]) rfl rfl rfl z_struct129 ⟨rfl, ⟨_, (ev_str z_str30), rfl⟩, ⟨rfl, ⟨_, rfl, rfl⟩, ⟨rfl, ⟨_, rfl, rfl⟩, ⟨rfl, ⟨_, rfl, rfl⟩, ⟨rfl, ⟨_, rfl, rfl⟩, ⟨rfl, ⟨_, rfl, rfl⟩, ⟨rfl, ⟨_, rfl, rfl⟩, trivial⟩⟩⟩⟩⟩⟩⟩ rfl ?_
      refine o_litE (eP eS (eP (eI .i64) (eP (eI .i64) (eP (eI .i64) (eP (eI .i64) (eP (eI .i64) (eI .i64))))))) [((bstr [114, 111, 98, 111, 116]), 1, 0, 0, 65535, 1, 0), ((bstr [99, 111, 100, 101]), 1, 0, 1, 9999, 1, 0), ((bstr [115, 101, 118, 101, 114, 105, 116, 121]), 1, 0, 0, 4, 1, 0), ((bstr [112, 97, 114, 116]), 1, 0, 0, 255, 2, 0), ((bstr [116, 105, 109, 101, 115]), 1, 0, 1, 1000000, 2, 1), ((bstr [116, 101, 120, 116]), 5, 0, 0, 64, 1, 0)] rfl rfl rfl z_slT126 z_zero129 ⟨rfl, ⟨_, rfl, rfl⟩, ⟨rfl, ⟨_, rfl, rfl⟩, ⟨rfl, ⟨_, rfl, rfl⟩, ⟨rfl, ⟨_, rfl, rfl⟩, ⟨rfl, ⟨_, rfl, rfl⟩, ⟨rfl, ⟨_, rfl, rfl⟩, trivial⟩⟩⟩⟩⟩⟩ rfl rfl rfl rfl (fun v52 g53 ho54 => ?_)
      refine Z 3 rfl ?_
      refine st_ord [0] _ rfl ?_
      exact hk4 _ _ _ ⟨[((bstr [114, 111, 98, 111, 116]), 1, 0, 0, 65535, 1, 0), ((bstr [99, 111, 100, 101]), 1, 0, 1, 9999, 1, 0), ((bstr [115, 101, 118, 101, 114, 105, 116, 121]), 1, 0, 0, 4, 1, 0), ((bstr [112, 97, 114, 116]), 1, 0, 0, 255, 2, 0), ((bstr [116, 105, 109, 101, 115]), 1, 0, 1, 1000000, 2, 1), ((bstr [116, 101, 120, 116]), 5, 0, 0, 64, 1, 0)], _, _, h, (Sto.Le.refl _), rfl, rfl, ho54⟩
     ·refine Z 2 rfl ?_
      exact hk4 _ _ _ ⟨([] : List (TyA)), _, _, h, (Sto.Le.refl _), rfl, rfl, ho3⟩
theorem ref20_digit_ok {a0 : Int} {r : Int} (h : ref20_digit a0 r) (σ : Sto)  :
    Does Tryz.prog 111 [.int .u8 a0] σ [] (fun v τ gs => gs = [] ∧ .int .u8 r = v) := by
 refine call_of Tryz.func111 Tryz.ntmps111 rfl rfl (fun cs fs => ?_)
 refine Z 10 rfl ?_
 refine st_if rfl h (fun h => ?_) (fun h => ?_)
 ·refine Z 6 rfl ?_
  obtain rfl := Eq.symm h
  exact st_ret (gs' := []) Tryz.func111 rfl (List.Sublist.refl _) (Sto.Le.refl _) ⟨rfl, rfl⟩
 ·refine Z 7 rfl ?_
  obtain rfl := Eq.symm h
  exact st_ret (gs' := []) Tryz.func111 rfl (List.Sublist.refl _) (Sto.Le.refl _) ⟨rfl, rfl⟩
theorem ref17_path_ok {a0 : List (List Int)} {v1 : Value} {r : Int} (h : ref17_path a0 r) (σ : Sto) (hs2 : Sl (kA .i64 2) σ v1 a0) :
    Does Tryz.prog 77 [v1] σ [] (fun v τ gs => gs = [] ∧ .I r = v) := by
 refine call_of Tryz.func77 Tryz.ntmps77 rfl rfl (fun cs fs => ?_)
 refine Z 8 rfl ?_
 refine o_lenI rfl rfl rfl z_slT35 rfl hs2 ?_
 refine Z 2 rfl ?_
 refine st_if rfl h (fun h => ?_) (fun h => ?_)
 ·refine Z 4 rfl ?_
  obtain rfl := Eq.symm h
  exact st_ret (gs' := []) Tryz.func77 rfl (List.Sublist.refl _) (Sto.Le.refl _) ⟨rfl, rfl⟩
 ·refine Z 5 rfl ?_
  refine o_lenI rfl rfl rfl z_slT35 rfl hs2 ?_
  refine Z 2 rfl ?_
  refine st_if rfl h (fun h => ?_) (fun h => ?_)
  ·refine Z 4 rfl ?_
   obtain rfl := Eq.symm h
   exact st_ret (gs' := []) Tryz.func77 rfl (List.Sublist.refl _) (Sto.Le.refl _) ⟨rfl, rfl⟩
  ·refine Z 2 rfl ?_
   refine st_cut (fun ρ τ3 gs => ∃ (s3 : Unit), ref17_path_j1 s3 r ∧ σ.Le τ3 ∧ ESub ρ [(2, .I 0)] ∧ gs = []) ?_ (fun hk3 => ?_)
   ·rintro ρ3 τ3 gs3 ⟨s3, h, hl3, hρ, rfl⟩
    refine st_es hρ ?_
    refine Z 4 rfl ?_
    obtain rfl := Eq.symm h
    exact st_ret (gs' := []) Tryz.func77 rfl (List.Sublist.refl _) hl3 ⟨rfl, rfl⟩
   refine Z 4 rfl ?_
   obtain ⟨e4, hL4, hA4⟩ := h
   refine st_loop hL4 (fun (s4 : Int) ρ τ4 gs => σ.Le τ4 ∧ ESub ρ [(0, v1), (2, .I 0), (3, .I s4)] ∧ gs = []) ⟨Sto.Le.refl _, rfl, rfl⟩ ?_
   rintro s4 o4 h he4 ρ4 τ4 gs4 ⟨hl4, hρ, rfl⟩ hn4
   refine st_es hρ ?_
   refine Z 5 rfl ?_
   refine o_lenI rfl rfl rfl z_slT35 rfl (hs2.up hl4) ?_
   refine Z 2 rfl ?_
   refine st_if rfl h (fun h => ?_) (fun h => ?_)
   ·refine Z 2 rfl ?_
    refine st_cut (fun ρ τ5 gs => ∃ (s5 : Unit), ref17_path_j3 s4 s5 o4 ∧ τ4.Le τ5 ∧ ESub ρ [(0, v1), (2, .I 0), (3, .I s4)] ∧ gs = []) ?_ (fun hk5 => ?_)
    ·rintro ρ5 τ5 gs5 ⟨s5, h, hl5, hρ, rfl⟩
     refine st_es hρ ?_
     refine Z 5 rfl ?_
     exact hn4 _ _ _ _ h ⟨(hl4.trans hl5), rfl, rfl⟩
    refine Z 5 rfl ?_
    obtain ⟨e6, hL6, hA6⟩ := h
    refine st_loop hL6 (fun (s6 : Int) ρ τ6 gs => τ4.Le τ6 ∧ ESub ρ [(0, v1), (2, .I 0), (3, .I s4), (4, .I s6)] ∧ gs = []) ⟨Sto.Le.refl _, rfl, rfl⟩ ?_
    rintro s6 o6 h he6 ρ6 τ6 gs6 ⟨hl6, hρ, rfl⟩ hn6
    refine st_es hρ ?_
    refine Z 6 rfl ?_
    refine st_if rfl h (fun h => ?_) (fun h => ?_)
    ·refine Z 4 rfl ?_
     refine st_cut (fun ρ τ7 gs => ∃ (s7 : Bool), ref17_path_j5 s6 s7 o6 ∧ τ6.Le τ7 ∧ ESub ρ [(0, v1), (2, .I 0), (3, .I s4), (4, .I s6), (36, .bool s7)] ∧ gs = []) ?_ (fun hk7 => ?_)
     ·rintro ρ7 τ7 gs7 ⟨s7, h, hl7, hρ, rfl⟩
      refine st_es hρ ?_
      refine st_if rfl h (fun h => ?_) (fun h => ?_)
      ·refine Z 4 rfl ?_
       obtain rfl := he6 _ h
       replace h := hA6
       obtain rfl := he4 _ h
       replace h := hA4
       obtain rfl := Eq.symm h
       exact st_ret (gs' := []) Tryz.func77 rfl (List.Sublist.refl _) ((hl4.trans hl6).trans hl7) ⟨rfl, rfl⟩
      ·refine Z 7 rfl ?_
       exact hn6 _ _ _ _ h ⟨(hl6.trans hl7), rfl, rfl⟩
     refine Z 4 rfl ?_
     obtain ⟨q8, hf9, h⟩ := h
     refine o_index rfl rfl rfl z_slT35 rfl rfl (hs2.up (hl4.trans hl6)) rfl hf9 (fun b10 of11 vs hc12 hrep => ?_)
     obtain rfl := hrep
     obtain ⟨hf13, hf14, h⟩ := h
     refine o_indexA rfl rfl rfl z_arr134 rfl rfl hf13 hf14 ?_
     refine o_loadI (v := .I (q8.getD s6.toNat 0)) rfl rfl rfl z_sc3 rfl (cel_arr (f := (Value.int .i64)) (zz := 0) (n := 2) (xs := q8) (p := 0) (q := s6.toNat) hc12 rfl (by omega) (by omega)) ?_
     refine o_ibin (v := .bool (decide ((q8.getD s6.toNat 0) < (-1000000)))) rfl rfl rfl rfl rfl rfl ?_
     refine o_mif rfl rfl rfl rfl h (fun h => ?_) (fun h => ?_)
     ·refine Z 9 rfl ?_
      exact hk7 _ _ _ ⟨true, h, (Sto.Le.refl _), rfl, rfl⟩
     ·refine Z 3 rfl ?_
      obtain ⟨q15, hf16, h⟩ := h
      refine o_index rfl rfl rfl z_slT35 rfl rfl (hs2.up (hl4.trans hl6)) rfl hf16 (fun b17 of18 vs hc19 hrep => ?_)
      obtain rfl := hrep
      obtain ⟨hf20, hf21, h⟩ := h
      refine o_indexA rfl rfl rfl z_arr134 rfl rfl hf20 hf21 ?_
      refine o_loadI (v := .I (q15.getD s6.toNat 0)) rfl rfl rfl z_sc3 rfl (cel_arr (f := (Value.int .i64)) (zz := 0) (n := 2) (xs := q15) (p := 0) (q := s6.toNat) hc19 rfl (by omega) (by omega)) ?_
      refine Z 3 rfl ?_
      exact hk7 _ _ _ ⟨(decide (1000000 < (q15.getD s6.toNat 0))), h, (Sto.Le.refl _), rfl, rfl⟩
    ·refine Z 2 rfl ?_
     obtain rfl := he6 _ h
     replace h := hA6
     exact hk5 _ _ _ ⟨(), h, hl6, rfl, rfl⟩
   ·refine st_exit rfl ?_
    obtain rfl := he4 _ h
    replace h := hA4
    exact hk3 _ _ _ ⟨(), h, hl4, rfl, rfl⟩
theorem ref17_cells_ok {a0 : List Int} {v1 : Value} {r : Int} (h : ref17_cells a0 r) (σ : Sto) (hs2 : Sl (kI .i64) σ v1 a0) :
    Does Tryz.prog 78 [v1] σ [] (fun v τ gs => gs = [] ∧ .I r = v) := by
 refine call_of Tryz.func78 Tryz.ntmps78 rfl rfl (fun cs fs => ?_)
 refine Z 8 rfl ?_
 refine o_lenI rfl rfl rfl z_slT24 rfl hs2 ?_
 refine Z 2 rfl ?_
 refine st_if rfl h (fun h => ?_) (fun h => ?_)
 ·refine Z 4 rfl ?_
  obtain rfl := Eq.symm h
  exact st_ret (gs' := []) Tryz.func78 rfl (List.Sublist.refl _) (Sto.Le.refl _) ⟨rfl, rfl⟩
 ·refine Z 5 rfl ?_
  refine o_lenI rfl rfl rfl z_slT24 rfl hs2 ?_
  refine Z 2 rfl ?_
  refine st_if rfl h (fun h => ?_) (fun h => ?_)
  ·refine Z 4 rfl ?_
   obtain rfl := Eq.symm h
   exact st_ret (gs' := []) Tryz.func78 rfl (List.Sublist.refl _) (Sto.Le.refl _) ⟨rfl, rfl⟩
  ·refine Z 2 rfl ?_
   refine st_cut (fun ρ τ3 gs => ∃ (s3 : Unit), ref17_cells_j1 s3 r ∧ σ.Le τ3 ∧ ESub ρ [(2, .I 0)] ∧ gs = []) ?_ (fun hk3 => ?_)
   ·rintro ρ3 τ3 gs3 ⟨s3, h, hl3, hρ, rfl⟩
    refine st_es hρ ?_
    refine Z 4 rfl ?_
    obtain rfl := Eq.symm h
    exact st_ret (gs' := []) Tryz.func78 rfl (List.Sublist.refl _) hl3 ⟨rfl, rfl⟩
   refine Z 4 rfl ?_
   obtain ⟨e4, hL4, hA4⟩ := h
   refine st_loop hL4 (fun (s4 : Int) ρ τ4 gs => σ.Le τ4 ∧ ESub ρ [(0, v1), (2, .I 0), (3, .I s4)] ∧ gs = []) ⟨Sto.Le.refl _, rfl, rfl⟩ ?_
   rintro s4 o4 h he4 ρ4 τ4 gs4 ⟨hl4, hρ, rfl⟩ hn4
   refine st_es hρ ?_
   refine Z 5 rfl ?_
   refine o_lenI rfl rfl rfl z_slT24 rfl (hs2.up hl4) ?_
   refine Z 2 rfl ?_
   refine st_if rfl h (fun h => ?_) (fun h => ?_)
   ·refine Z 5 rfl ?_
    refine st_cut (fun ρ τ5 gs => ∃ (s5 : Bool), ref17_cells_j3 a0 s4 s5 o4 ∧ τ4.Le τ5 ∧ ESub ρ [(0, v1), (2, .I 0), (3, .I s4), (27, .bool s5)] ∧ gs = []) ?_ (fun hk5 => ?_)
    ·rintro ρ5 τ5 gs5 ⟨s5, h, hl5, hρ, rfl⟩
     refine st_es hρ ?_
     refine st_if rfl h (fun h => ?_) (fun h => ?_)
     ·refine Z 4 rfl ?_
      obtain rfl := he4 _ h
      replace h := hA4
      obtain rfl := Eq.symm h
      exact st_ret (gs' := []) Tryz.func78 rfl (List.Sublist.refl _) (hl4.trans hl5) ⟨rfl, rfl⟩
     ·refine Z 2 rfl ?_
      obtain ⟨q7, hf8, q12, hf13, h⟩ := h
      let cc6 : Prop := (decide (0 < s4)) = true
      refine st_draw 14 (dl [.v (.I s4), .v (.bool (decide (0 < s4))), .v (.bool (decide (0 < s4))), .g cc6 (v1), .g cc6 (.I s4), .h cc6 fun τ v => ∃ (b9 : Nat) (of10 : Nat) (vsb9 : List Value), (.pointer (some ⟨b9, of10, none⟩) : Value) = v ∧ CelN τ ⟨b9, of10, none⟩ vsb9 ∧ (kI .i64).rep τ vsb9 q7, .g cc6 (.I q7), .g cc6 (v1), .g cc6 (.I s4), .g cc6 (.I (IntKind.i64.wrap (s4 - 1))), .h cc6 fun τ v => ∃ (b14 : Nat) (of15 : Nat) (vsb14 : List Value), (.pointer (some ⟨b14, of15, none⟩) : Value) = v ∧ CelN τ ⟨b14, of15, none⟩ vsb14 ∧ (kI .i64).rep τ vsb14 q12, .g cc6 (.I q12), .g cc6 (.bool (decide (q7 ≤ q12))), .v (.bool ((decide (0 < s4)) && (decide (q7 ≤ q12))))]) (fun _ _ => []) z_mix rfl (dl_mono ⟨fun _ _ _ hl ⟨b9, of10, vsb9, hv, hc11, hrepb9⟩ => ⟨b9, of10, vsb9, hv, hc11.up hl, Kd.mono _ hl hrepb9⟩, ⟨fun _ _ _ hl ⟨b14, of15, vsb14, hv, hc16, hrepb14⟩ => ⟨b14, of15, vsb14, hv, hc16.up hl, Kd.mono _ hl hrepb14⟩, trivial⟩⟩) (allB_cons (allB_cons (allB_cons (allB_cons (allB_cons (allB_cons (allB_cons (allB_cons (allB_cons (allB_cons (allB_cons (allB_cons (allB_cons (allB_cons allB_nil (p1 dA)) (p1 dA)) (p1 dA)) (p1 (dG []))) (p1 (dG []))) ?_) ?_) (p1 (dG []))) (p1 (dG []))) (p1 (dG [8]))) ?_) ?_) (p1 (dG [6, 11]))) (p1 dK)) ?_
      ·intro ρ' τ pool rs hl hd hout hk
       obtain ⟨_, e2, rfl⟩ := hd 2 rfl
       obtain ⟨w3, e3, t3⟩ := hd 3 rfl
       obtain ⟨w4, e4, t4⟩ := hd 4 rfl
       by_cases hG : (decide (0 < s4)) = true
       ·have hC := hG
        replace hf8 := hf8 hC
        obtain ⟨rfl⟩ := t4.1 hC
        obtain ⟨rfl⟩ := t3.1 hC
        refine o_index rfl (wants_of rfl e2 hG) rfl z_slT24 rfl e3 (hs2.up ((hl4.trans hl5).trans hl)) e4 hf8 (fun b9 of10 vsb9 hc11 hrepb9 => ?_)
        exact st_addNil (hk _ _ (Sto.Le.refl _) ⟨fun _ => ⟨b9, of10, _, rfl, hc11, hrepb9⟩, fun hn => absurd hC hn⟩)
       ·refine st_pass rfl rfl rfl e2 (beq_off hG) rfl ?_
        exact st_addNil (hk _ _ (Sto.Le.refl _) ⟨fun h => absurd h hG, fun _ => rfl⟩)
      ·intro ρ' τ pool rs hl hd hout hk
       obtain ⟨_, e2, rfl⟩ := hd 2 rfl
       obtain ⟨w5, e5, t5⟩ := hd 5 rfl
       by_cases hG : (decide (0 < s4)) = true
       ·have hC := hG
        obtain ⟨b9, of10, vsb9, rfl, hc11, hrepb9⟩ := t5.1 hC
        have hrepb9 := hrepb9
        obtain rfl := hrepb9
        refine o_loadI (v := .I q7) rfl (wants_of rfl e2 hG) rfl z_sc3 e5 (hc11 0 _ rfl) ?_
        exact st_addNil (hk _ _ (Sto.Le.refl _) ⟨fun _ => rfl, fun hn => absurd hC hn⟩)
       ·refine st_pass rfl rfl rfl e2 (beq_off hG) rfl ?_
        exact st_addNil (hk _ _ (Sto.Le.refl _) ⟨fun h => absurd h hG, fun _ => rfl⟩)
      ·intro ρ' τ pool rs hl hd hout hk
       obtain ⟨_, e2, rfl⟩ := hd 2 rfl
       obtain ⟨w7, e7, t7⟩ := hd 7 rfl
       obtain ⟨w9, e9, t9⟩ := hd 9 rfl
       by_cases hG : (decide (0 < s4)) = true
       ·have hC := hG
        replace hf13 := hf13 hC
        obtain ⟨rfl⟩ := t7.1 hC
        obtain ⟨rfl⟩ := t9.1 hC
        refine o_index rfl (wants_of rfl e2 hG) rfl z_slT24 rfl e7 (hs2.up ((hl4.trans hl5).trans hl)) e9 hf13 (fun b14 of15 vsb14 hc16 hrepb14 => ?_)
        exact st_addNil (hk _ _ (Sto.Le.refl _) ⟨fun _ => ⟨b14, of15, _, rfl, hc16, hrepb14⟩, fun hn => absurd hC hn⟩)
       ·refine st_pass rfl rfl rfl e2 (beq_off hG) rfl ?_
        exact st_addNil (hk _ _ (Sto.Le.refl _) ⟨fun h => absurd h hG, fun _ => rfl⟩)
      ·intro ρ' τ pool rs hl hd hout hk
       obtain ⟨_, e2, rfl⟩ := hd 2 rfl
       obtain ⟨w10, e10, t10⟩ := hd 10 rfl
       by_cases hG : (decide (0 < s4)) = true
       ·have hC := hG
        obtain ⟨b14, of15, vsb14, rfl, hc16, hrepb14⟩ := t10.1 hC
        have hrepb14 := hrepb14
        obtain rfl := hrepb14
        refine o_loadI (v := .I q12) rfl (wants_of rfl e2 hG) rfl z_sc3 e10 (hc16 0 _ rfl) ?_
        exact st_addNil (hk _ _ (Sto.Le.refl _) ⟨fun _ => rfl, fun hn => absurd hC hn⟩)
       ·refine st_pass rfl rfl rfl e2 (beq_off hG) rfl ?_
        exact st_addNil (hk _ _ (Sto.Le.refl _) ⟨fun h => absurd h hG, fun _ => rfl⟩)
      intro ρ' τ17 vals hl17 hv hout
      refine st_ord [] _ rfl ?_
      refine st_env (ρ' := [(41, .bool ((decide (0 < s4)) && (decide (q7 ≤ q12)))), (0, v1), (2, .I 0), (3, .I s4)]) ⟨(lv1 hv 13 rfl rfl), (hout 0 rfl).trans rfl, (hout 2 rfl).trans rfl, (hout 3 rfl).trans rfl, trivial⟩ ?_
      refine st_end ?_
      refine st_if rfl h (fun h => ?_) (fun h => ?_)
      ·refine Z 4 rfl ?_
       obtain rfl := he4 _ h
       replace h := hA4
       obtain rfl := Eq.symm h
       exact st_ret (gs' := []) Tryz.func78 rfl (List.Sublist.refl _) ((hl4.trans hl5).trans hl17) ⟨rfl, rfl⟩
      ·refine Z 7 rfl ?_
       exact hn4 _ _ _ _ h ⟨((hl4.trans hl5).trans hl17), rfl, rfl⟩
    refine Z 3 rfl ?_
    obtain ⟨q18, hf19, h⟩ := h
    refine o_index rfl rfl rfl z_slT24 rfl rfl (hs2.up hl4) rfl hf19 (fun b20 of21 vs hc22 hrep => ?_)
    obtain rfl := hrep
    refine o_loadI (v := .I q18) rfl rfl rfl z_sc3 rfl (hc22 0 _ rfl) ?_
    refine o_ibin (v := .bool (decide (q18 < 0))) rfl rfl rfl rfl rfl rfl ?_
    refine o_mif rfl rfl rfl rfl h (fun h => ?_) (fun h => ?_)
    ·refine Z 7 rfl ?_
     exact hk5 _ _ _ ⟨true, h, (Sto.Le.refl _), rfl, rfl⟩
    ·refine Z 2 rfl ?_
     obtain ⟨q23, hf24, h⟩ := h
     refine o_index rfl rfl rfl z_slT24 rfl rfl (hs2.up hl4) rfl hf24 (fun b25 of26 vs hc27 hrep => ?_)
     obtain rfl := hrep
     refine o_loadI (v := .I q23) rfl rfl rfl z_sc3 rfl (hc27 0 _ rfl) ?_
     refine Z 3 rfl ?_
     exact hk5 _ _ _ ⟨(decide (65535 < q23)), h, (Sto.Le.refl _), rfl, rfl⟩
   ·refine st_exit rfl ?_
    obtain rfl := he4 _ h
    replace h := hA4
    exact hk3 _ _ _ ⟨(), h, hl4, rfl, rfl⟩
theorem ref17_text_ok {a0 : ByteArray} {a1 : Int} {r : Int} (h : ref17_text a0 a1 r) (σ : Sto)  :
    Does Tryz.prog 79 [.string a0, .I a1] σ [] (fun v τ gs => gs = [] ∧ .I r = v) := by
 refine call_of Tryz.func79 Tryz.ntmps79 rfl rfl (fun cs fs => ?_)
 refine Z 12 rfl ?_
 refine st_if rfl h (fun h => ?_) (fun h => ?_)
 ·refine Z 4 rfl ?_
  obtain rfl := Eq.symm h
  exact st_ret (gs' := []) Tryz.func79 rfl (List.Sublist.refl _) (Sto.Le.refl _) ⟨rfl, rfl⟩
 ·refine Z 2 rfl ?_
  refine st_cut (fun ρ τ1 gs => ∃ (s1 : Unit), ref17_text_j1 s1 r ∧ σ.Le τ1 ∧ ESub ρ [(4, .I 0)] ∧ gs = []) ?_ (fun hk1 => ?_)
  ·rintro ρ1 τ1 gs1 ⟨s1, h, hl1, hρ, rfl⟩
   refine st_es hρ ?_
   refine Z 4 rfl ?_
   obtain rfl := Eq.symm h
   exact st_ret (gs' := []) Tryz.func79 rfl (List.Sublist.refl _) hl1 ⟨rfl, rfl⟩
  refine Z 4 rfl ?_
  obtain ⟨e2, hL2, hA2⟩ := h
  refine st_loop hL2 (fun (s2 : Int) ρ τ2 gs => σ.Le τ2 ∧ ESub ρ [(0, .string a0), (4, .I 0), (5, .I s2)] ∧ gs = []) ⟨Sto.Le.refl _, rfl, rfl⟩ ?_
  rintro s2 o2 h he2 ρ2 τ2 gs2 ⟨hl2, hρ, rfl⟩ hn2
  refine st_es hρ ?_
  refine Z 8 rfl ?_
  refine st_if rfl h (fun h => ?_) (fun h => ?_)
  ·refine Z 4 rfl ?_
   refine st_cut (fun ρ τ3 gs => ∃ (s3 : Bool), ref17_text_j3 s2 s3 o2 ∧ τ2.Le τ3 ∧ ESub ρ [(0, .string a0), (4, .I 0), (5, .I s2), (25, .bool s3)] ∧ gs = []) ?_ (fun hk3 => ?_)
   ·rintro ρ3 τ3 gs3 ⟨s3, h, hl3, hρ, rfl⟩
    refine st_es hρ ?_
    refine st_if rfl h (fun h => ?_) (fun h => ?_)
    ·refine Z 4 rfl ?_
     obtain rfl := he2 _ h
     replace h := hA2
     obtain rfl := Eq.symm h
     exact st_ret (gs' := []) Tryz.func79 rfl (List.Sublist.refl _) (hl2.trans hl3) ⟨rfl, rfl⟩
    ·refine Z 7 rfl ?_
     exact hn2 _ _ _ _ h ⟨(hl2.trans hl3), rfl, rfl⟩
   refine Z 3 rfl ?_
   obtain ⟨q4, hf5, h⟩ := h
   refine o_indexS rfl rfl rfl Tryz.underlying9 rfl rfl hf5 ?_
   refine o_ibin (v := .bool (decide (q4 < 32))) rfl rfl rfl rfl rfl rfl ?_
   refine o_mif rfl rfl rfl rfl h (fun h => ?_) (fun h => ?_)
   ·refine Z 6 rfl ?_
    exact hk3 _ _ _ ⟨true, h, (Sto.Le.refl _), rfl, rfl⟩
   ·refine Z 2 rfl ?_
    obtain ⟨q6, hf7, h⟩ := h
    refine o_indexS rfl rfl rfl Tryz.underlying9 rfl rfl hf7 ?_
    refine Z 3 rfl ?_
    exact hk3 _ _ _ ⟨(decide (126 < q6)), h, (Sto.Le.refl _), rfl, rfl⟩
  ·refine st_exit rfl ?_
   obtain rfl := he2 _ h
   replace h := hA2
   exact hk1 _ _ _ ⟨(), h, hl2, rfl, rfl⟩
theorem ref17_Check_ok {a0 : TyR} {v1 : Value} {v2 : Value} {r : Int} (h : ref17_Check a0 r) (σ : Sto) (hs3 : Sl (kA .i64 2) σ v1 a0.2.2.1) (hs4 : Sl (kI .i64) σ v2 a0.2.2.2.1) :
    Does Tryz.prog 38 [.agg (lM a0 v1 v2).toArray] σ [] (fun v τ gs => gs = [] ∧ .I r = v) := by
 refine call_of Tryz.func38 Tryz.ntmps38 rfl rfl (fun cs fs => ?_)
 refine Z 2 rfl ?_
 refine o_box (cs := (lM a0 v1 v2)) rfl rfl rfl rfl rfl (fun b5 => ?_)
 refine ZZ 6 [0] rfl rfl ?_
 obtain ⟨r6, hr7, h⟩ := h
 refine st_call (foot := []) rfl rfl rfl rfl rfl rfl (callV_fn z_en67 (ref16_All_ok hr7 σ)) ?_
 rintro vτ8 τ8 gsτ8 hl9 ⟨v10, rfl, rfl, hs11⟩
 refine Z 6 rfl ?_
 refine o_lenI rfl rfl rfl z_slT126 rfl hs11 ?_
 refine Z 2 rfl ?_
 refine st_if rfl h (fun h => ?_) (fun h => ?_)
 ·refine Z 4 rfl ?_
  refine st_ord [] _ rfl ?_
  obtain rfl := Eq.symm h
  exact st_ret (gs' := []) Tryz.func38 rfl (List.Sublist.refl _) hl9 ⟨rfl, rfl⟩
 ·refine Z 3 rfl ?_
  refine o_alloc rfl rfl rfl z_zero143 (fun b12 => ?_)
  refine Z 3 rfl ?_
  refine o_alloc rfl rfl rfl z_zero144 (fun b13 => ?_)
  refine Z 2 rfl ?_
  refine st_cut (fun ρ τ14 gs => ∃ (s14 : Bool × Bool × Bool × Bool × Bool × Bool × Bool × Bool × Bool × Bool × Bool × Bool × Bool), ref17_Check_j1 a0 s14 r ∧ τ8.Le τ14 ∧ ESub ρ [(1, .Pb b5), (2, .I 0), (4, .Pb b12), (5, .Pb b13)] ∧ gs = [[(b5, .cells (lM a0 v1 v2).toArray 37 (0, 0))], [(b12, .cells #[.bool s14.1, .bool s14.2.1, .bool s14.2.2.1, .bool s14.2.2.2.1, .bool s14.t4.1, .bool s14.t4.2.1, .bool s14.t4.2.2.1] 143 (0, 0))], [(b13, .cells #[.bool s14.t4.2.2.2.1, .bool s14.t4.t4.1, .bool s14.t4.t4.2.1, .bool s14.t4.t4.2.2.1, .bool s14.t4.t4.2.2.2.1, .bool s14.t4.t4.t4] 144 (0, 0))]]) ?_ (fun hk14 => ?_)
  ·rintro ρ14 τ14 gs14 ⟨s14, h, hl14, hρ, rfl⟩
   refine st_es hρ ?_
   refine st_seq ?_
   refine st_cut (fun ρ τ15 gs => ∃ (s15 : Unit), ref17_Check_j2 a0 s14 s15 r ∧ τ14.Le τ15 ∧ ESub ρ [(1, .Pb b5), (2, .I 0), (4, .Pb b12)] ∧ gs = [[(b5, .cells (lM a0 v1 v2).toArray 37 (0, 0))], [(b12, .cells #[.bool s14.1, .bool s14.2.1, .bool s14.2.2.1, .bool s14.2.2.2.1, .bool s14.t4.1, .bool s14.t4.2.1, .bool s14.t4.2.2.1] 143 (0, 0))]]) ?_ (fun hk15 => ?_)
   ·rintro ρ15 τ15 gs15 ⟨s15, h, hl15, hρ, rfl⟩
    refine st_es hρ ?_
    refine Z 2 rfl ?_
    refine st_cut (fun ρ τ16 gs => ∃ (s16 : Bool), ref17_Check_j3 s16 r ∧ τ15.Le τ16 ∧ ESub ρ [(2, .I 0), (145, .bool s16)] ∧ gs = []) ?_ (fun hk16 => ?_)
    ·rintro ρ16 τ16 gs16 ⟨s16, h, hl16, hρ, rfl⟩
     refine st_es hρ ?_
     refine st_if rfl h (fun h => ?_) (fun h => ?_)
     ·refine Z 4 rfl ?_
      obtain rfl := Eq.symm h
      exact st_ret (gs' := []) Tryz.func38 rfl (List.Sublist.refl _) (((hl9.trans hl14).trans hl15).trans hl16) ⟨rfl, rfl⟩
     ·refine Z 5 rfl ?_
      obtain rfl := Eq.symm h
      exact st_ret (gs' := []) Tryz.func38 rfl (List.Sublist.refl _) (((hl9.trans hl14).trans hl15).trans hl16) ⟨rfl, rfl⟩
    refine st_region ?_
    refine o_indexA rfl rfl rfl z_arr143 rfl rfl (by decide) (by decide) ?_
    refine ZZ 2 [1] rfl rfl ?_
    refine o_mif rfl rfl rfl rfl h (fun h => ?_) (fun h => ?_)
    ·refine ZZ 2 [0] rfl rfl ?_
     refine o_lenI rfl rfl rfl z_slT35 rfl (hs3.up ((hl9.trans hl14).trans hl15)) ?_
     refine Z 2 rfl ?_
     refine o_mif rfl rfl rfl rfl h (fun h => ?_) (fun h => ?_)
     ·refine Z 31 rfl ?_
      refine st_ord [] _ rfl ?_
      exact hk16 _ _ _ ⟨true, h, (Sto.Le.refl _), rfl, rfl⟩
     ·refine o_indexA rfl rfl rfl z_arr143 rfl rfl (by decide) (by decide) ?_
      refine ZZ 2 [1] rfl rfl ?_
      refine o_mif rfl rfl rfl rfl h (fun h => ?_) (fun h => ?_)
      ·refine ZZ 2 [0] rfl rfl ?_
       refine o_lenI rfl rfl rfl z_slT24 rfl (hs4.up ((hl9.trans hl14).trans hl15)) ?_
       refine Z 3 rfl ?_
       refine o_mif rfl rfl rfl rfl h (fun h => ?_) (fun h => ?_)
       ·refine Z 20 rfl ?_
        refine st_ord [] _ rfl ?_
        exact hk16 _ _ _ ⟨true, h, (Sto.Le.refl _), rfl, rfl⟩
       ·refine o_indexA rfl rfl rfl z_arr143 rfl rfl (by decide) (by decide) ?_
        refine ZZ 2 [1] rfl rfl ?_
        refine o_mif rfl rfl rfl rfl h (fun h => ?_) (fun h => ?_)
        ·refine ZZ 2 [0] rfl rfl ?_
         refine o_sbin (v := .bool (!(decide (a0.t4.1 = (bstr []))))) rfl rfl rfl rfl (ev_str z_str1) rfl ?_
         refine Z 2 rfl ?_
         refine o_mif rfl rfl rfl rfl h (fun h => ?_) (fun h => ?_)
         ·refine Z 10 rfl ?_
          refine st_ord [] _ rfl ?_
          exact hk16 _ _ _ ⟨true, h, (Sto.Le.refl _), rfl, rfl⟩
         ·refine o_indexA rfl rfl rfl z_arr143 rfl rfl (by decide) (by decide) ?_
          refine ZZ 2 [1] rfl rfl ?_
          refine o_mif rfl rfl rfl rfl h (fun h => ?_) (fun h => ?_)
          ·refine ZZ 2 [0] rfl rfl ?_
           refine o_sbin (v := .bool (!(decide (a0.t4.2 = (bstr []))))) rfl rfl rfl rfl (ev_str z_str1) rfl ?_
           refine Z 3 rfl ?_
           refine st_ord [] _ rfl ?_
           exact hk16 _ _ _ ⟨(!(decide (a0.t4.2 = (bstr [])))), h, (Sto.Le.refl _), rfl, rfl⟩
          ·refine Z 6 rfl ?_
           refine st_ord [] _ rfl ?_
           exact hk16 _ _ _ ⟨false, h, (Sto.Le.refl _), rfl, rfl⟩
        ·refine Z 6 rfl ?_
         refine o_indexA rfl rfl rfl z_arr143 rfl rfl (by decide) (by decide) ?_
         refine ZZ 2 [1] rfl rfl ?_
         refine o_mif rfl rfl rfl rfl h (fun h => ?_) (fun h => ?_)
         ·refine ZZ 2 [0] rfl rfl ?_
          refine o_sbin (v := .bool (!(decide (a0.t4.2 = (bstr []))))) rfl rfl rfl rfl (ev_str z_str1) rfl ?_
          refine Z 3 rfl ?_
          refine st_ord [] _ rfl ?_
          exact hk16 _ _ _ ⟨(!(decide (a0.t4.2 = (bstr [])))), h, (Sto.Le.refl _), rfl, rfl⟩
         ·refine Z 6 rfl ?_
          refine st_ord [] _ rfl ?_
          exact hk16 _ _ _ ⟨false, h, (Sto.Le.refl _), rfl, rfl⟩
      ·refine Z 7 rfl ?_
       refine o_indexA rfl rfl rfl z_arr143 rfl rfl (by decide) (by decide) ?_
       refine ZZ 2 [1] rfl rfl ?_
       refine o_mif rfl rfl rfl rfl h (fun h => ?_) (fun h => ?_)
       ·refine ZZ 2 [0] rfl rfl ?_
        refine o_sbin (v := .bool (!(decide (a0.t4.1 = (bstr []))))) rfl rfl rfl rfl (ev_str z_str1) rfl ?_
        refine Z 2 rfl ?_
        refine o_mif rfl rfl rfl rfl h (fun h => ?_) (fun h => ?_)
        ·refine Z 10 rfl ?_
         refine st_ord [] _ rfl ?_
         exact hk16 _ _ _ ⟨true, h, (Sto.Le.refl _), rfl, rfl⟩
        ·refine o_indexA rfl rfl rfl z_arr143 rfl rfl (by decide) (by decide) ?_
         refine ZZ 2 [1] rfl rfl ?_
         refine o_mif rfl rfl rfl rfl h (fun h => ?_) (fun h => ?_)
         ·refine ZZ 2 [0] rfl rfl ?_
          refine o_sbin (v := .bool (!(decide (a0.t4.2 = (bstr []))))) rfl rfl rfl rfl (ev_str z_str1) rfl ?_
          refine Z 3 rfl ?_
          refine st_ord [] _ rfl ?_
          exact hk16 _ _ _ ⟨(!(decide (a0.t4.2 = (bstr [])))), h, (Sto.Le.refl _), rfl, rfl⟩
         ·refine Z 6 rfl ?_
          refine st_ord [] _ rfl ?_
          exact hk16 _ _ _ ⟨false, h, (Sto.Le.refl _), rfl, rfl⟩
       ·refine Z 6 rfl ?_
        refine o_indexA rfl rfl rfl z_arr143 rfl rfl (by decide) (by decide) ?_
        refine ZZ 2 [1] rfl rfl ?_
        refine o_mif rfl rfl rfl rfl h (fun h => ?_) (fun h => ?_)
        ·refine ZZ 2 [0] rfl rfl ?_
         refine o_sbin (v := .bool (!(decide (a0.t4.2 = (bstr []))))) rfl rfl rfl rfl (ev_str z_str1) rfl ?_
         refine Z 3 rfl ?_
         refine st_ord [] _ rfl ?_
         exact hk16 _ _ _ ⟨(!(decide (a0.t4.2 = (bstr [])))), h, (Sto.Le.refl _), rfl, rfl⟩
        ·refine Z 6 rfl ?_
         refine st_ord [] _ rfl ?_
         exact hk16 _ _ _ ⟨false, h, (Sto.Le.refl _), rfl, rfl⟩
    ·refine Z 6 rfl ?_
     refine o_indexA rfl rfl rfl z_arr143 rfl rfl (by decide) (by decide) ?_
     refine ZZ 2 [1] rfl rfl ?_
     refine o_mif rfl rfl rfl rfl h (fun h => ?_) (fun h => ?_)
     ·refine ZZ 2 [0] rfl rfl ?_
      refine o_lenI rfl rfl rfl z_slT24 rfl (hs4.up ((hl9.trans hl14).trans hl15)) ?_
      refine Z 3 rfl ?_
      refine o_mif rfl rfl rfl rfl h (fun h => ?_) (fun h => ?_)
      ·refine Z 20 rfl ?_
       refine st_ord [] _ rfl ?_
       exact hk16 _ _ _ ⟨true, h, (Sto.Le.refl _), rfl, rfl⟩
      ·refine o_indexA rfl rfl rfl z_arr143 rfl rfl (by decide) (by decide) ?_
       refine ZZ 2 [1] rfl rfl ?_
       refine o_mif rfl rfl rfl rfl h (fun h => ?_) (fun h => ?_)
       ·refine ZZ 2 [0] rfl rfl ?_
        refine o_sbin (v := .bool (!(decide (a0.t4.1 = (bstr []))))) rfl rfl rfl rfl (ev_str z_str1) rfl ?_
        refine Z 2 rfl ?_
        refine o_mif rfl rfl rfl rfl h (fun h => ?_) (fun h => ?_)
        ·refine Z 10 rfl ?_
         refine st_ord [] _ rfl ?_
         exact hk16 _ _ _ ⟨true, h, (Sto.Le.refl _), rfl, rfl⟩
        ·refine o_indexA rfl rfl rfl z_arr143 rfl rfl (by decide) (by decide) ?_
         refine ZZ 2 [1] rfl rfl ?_
         refine o_mif rfl rfl rfl rfl h (fun h => ?_) (fun h => ?_)
         ·refine ZZ 2 [0] rfl rfl ?_
          refine o_sbin (v := .bool (!(decide (a0.t4.2 = (bstr []))))) rfl rfl rfl rfl (ev_str z_str1) rfl ?_
          refine Z 3 rfl ?_
          refine st_ord [] _ rfl ?_
          exact hk16 _ _ _ ⟨(!(decide (a0.t4.2 = (bstr [])))), h, (Sto.Le.refl _), rfl, rfl⟩
         ·refine Z 6 rfl ?_
          refine st_ord [] _ rfl ?_
          exact hk16 _ _ _ ⟨false, h, (Sto.Le.refl _), rfl, rfl⟩
       ·refine Z 6 rfl ?_
        refine o_indexA rfl rfl rfl z_arr143 rfl rfl (by decide) (by decide) ?_
        refine ZZ 2 [1] rfl rfl ?_
        refine o_mif rfl rfl rfl rfl h (fun h => ?_) (fun h => ?_)
        ·refine ZZ 2 [0] rfl rfl ?_
         refine o_sbin (v := .bool (!(decide (a0.t4.2 = (bstr []))))) rfl rfl rfl rfl (ev_str z_str1) rfl ?_
         refine Z 3 rfl ?_
         refine st_ord [] _ rfl ?_
         exact hk16 _ _ _ ⟨(!(decide (a0.t4.2 = (bstr [])))), h, (Sto.Le.refl _), rfl, rfl⟩
        ·refine Z 6 rfl ?_
         refine st_ord [] _ rfl ?_
         exact hk16 _ _ _ ⟨false, h, (Sto.Le.refl _), rfl, rfl⟩
     ·refine Z 7 rfl ?_
      refine o_indexA rfl rfl rfl z_arr143 rfl rfl (by decide) (by decide) ?_
      refine ZZ 2 [1] rfl rfl ?_
      refine o_mif rfl rfl rfl rfl h (fun h => ?_) (fun h => ?_)
      ·refine ZZ 2 [0] rfl rfl ?_
       refine o_sbin (v := .bool (!(decide (a0.t4.1 = (bstr []))))) rfl rfl rfl rfl (ev_str z_str1) rfl ?_
       refine Z 2 rfl ?_
       refine o_mif rfl rfl rfl rfl h (fun h => ?_) (fun h => ?_)
       ·refine Z 10 rfl ?_
        refine st_ord [] _ rfl ?_
        exact hk16 _ _ _ ⟨true, h, (Sto.Le.refl _), rfl, rfl⟩
       ·refine o_indexA rfl rfl rfl z_arr143 rfl rfl (by decide) (by decide) ?_
        refine ZZ 2 [1] rfl rfl ?_
        refine o_mif rfl rfl rfl rfl h (fun h => ?_) (fun h => ?_)
        ·refine ZZ 2 [0] rfl rfl ?_
         refine o_sbin (v := .bool (!(decide (a0.t4.2 = (bstr []))))) rfl rfl rfl rfl (ev_str z_str1) rfl ?_
         refine Z 3 rfl ?_
         refine st_ord [] _ rfl ?_
         exact hk16 _ _ _ ⟨(!(decide (a0.t4.2 = (bstr [])))), h, (Sto.Le.refl _), rfl, rfl⟩
        ·refine Z 6 rfl ?_
         refine st_ord [] _ rfl ?_
         exact hk16 _ _ _ ⟨false, h, (Sto.Le.refl _), rfl, rfl⟩
      ·refine Z 6 rfl ?_
       refine o_indexA rfl rfl rfl z_arr143 rfl rfl (by decide) (by decide) ?_
       refine ZZ 2 [1] rfl rfl ?_
       refine o_mif rfl rfl rfl rfl h (fun h => ?_) (fun h => ?_)
       ·refine ZZ 2 [0] rfl rfl ?_
        refine o_sbin (v := .bool (!(decide (a0.t4.2 = (bstr []))))) rfl rfl rfl rfl (ev_str z_str1) rfl ?_
        refine Z 3 rfl ?_
        refine st_ord [] _ rfl ?_
        exact hk16 _ _ _ ⟨(!(decide (a0.t4.2 = (bstr [])))), h, (Sto.Le.refl _), rfl, rfl⟩
       ·refine Z 6 rfl ?_
        refine st_ord [] _ rfl ?_
        exact hk16 _ _ _ ⟨false, h, (Sto.Le.refl _), rfl, rfl⟩
   refine Z 4 rfl ?_
   obtain ⟨e17, hL17, hA17⟩ := h
   refine st_loop hL17 (fun (s17 : Int) ρ τ17 gs => τ14.Le τ17 ∧ ESub ρ [(1, .Pb b5), (2, .I 0), (4, .Pb b12), (5, .Pb b13), (8, .I s17)] ∧ gs = [[(b5, .cells (lM a0 v1 v2).toArray 37 (0, 0))], [(b12, .cells #[.bool s14.1, .bool s14.2.1, .bool s14.2.2.1, .bool s14.2.2.2.1, .bool s14.t4.1, .bool s14.t4.2.1, .bool s14.t4.2.2.1] 143 (0, 0))], [(b13, .cells #[.bool s14.t4.2.2.2.1, .bool s14.t4.t4.1, .bool s14.t4.t4.2.1, .bool s14.t4.t4.2.2.1, .bool s14.t4.t4.2.2.2.1, .bool s14.t4.t4.t4] 144 (0, 0))]]) ⟨Sto.Le.refl _, rfl, rfl⟩ ?_
   rintro s17 o17 h he17 ρ17 τ17 gs17 ⟨hl17, hρ, rfl⟩ hn17
   refine st_es hρ ?_
   refine Z 6 rfl ?_
   refine st_if rfl h (fun h => ?_) (fun h => ?_)
   ·refine Z 4 rfl ?_
    refine st_cut (fun ρ τ18 gs => ∃ (s18 : Bool), ref17_Check_j5 s17 s18 o17 ∧ τ17.Le τ18 ∧ ESub ρ [(1, .Pb b5), (2, .I 0), (4, .Pb b12), (5, .Pb b13), (8, .I s17), (105, .bool s18)] ∧ gs = [[(b5, .cells (lM a0 v1 v2).toArray 37 (0, 0))], [(b12, .cells #[.bool s14.1, .bool s14.2.1, .bool s14.2.2.1, .bool s14.2.2.2.1, .bool s14.t4.1, .bool s14.t4.2.1, .bool s14.t4.2.2.1] 143 (0, 0))], [(b13, .cells #[.bool s14.t4.2.2.2.1, .bool s14.t4.t4.1, .bool s14.t4.t4.2.1, .bool s14.t4.t4.2.2.1, .bool s14.t4.t4.2.2.2.1, .bool s14.t4.t4.t4] 144 (0, 0))]]) ?_ (fun hk18 => ?_)
    ·rintro ρ18 τ18 gs18 ⟨s18, h, hl18, hρ, rfl⟩
     refine st_es hρ ?_
     refine st_if rfl h (fun h => ?_) (fun h => ?_)
     ·refine Z 4 rfl ?_
      refine st_ord [] _ rfl ?_
      obtain rfl := he17 _ h
      replace h := hA17
      obtain rfl := Eq.symm h
      exact st_ret (gs' := []) Tryz.func38 rfl (List.Sublist.refl _) (((hl9.trans hl14).trans hl17).trans hl18) ⟨rfl, rfl⟩
     ·refine Z 7 rfl ?_
      exact hn17 _ _ _ _ h ⟨(hl17.trans hl18), rfl, rfl⟩
    refine Z 2 rfl ?_
    obtain ⟨hf19, hf20, h⟩ := h
    refine o_indexA rfl rfl rfl z_arr144 rfl rfl hf19 hf20 ?_
    refine o_loadV (j := 2) (s17.toNat) (f := Value.bool) (zz := false) (l := 6) (xs := [s14.t4.2.2.2.1, s14.t4.t4.1, s14.t4.t4.2.1, s14.t4.t4.2.2.1, s14.t4.t4.2.2.2.1, s14.t4.t4.t4]) [] [] rfl rfl rfl z_sc4 rfl rfl (by simp only [List.length_cons, List.length_nil] <;> omega) (by omega) ?_
    refine o_not rfl rfl rfl rfl ?_
    refine o_mif rfl rfl rfl rfl h (fun h => ?_) (fun h => ?_)
    ·refine Z 2 rfl ?_
     obtain ⟨hf21, hf22, h⟩ := h
     refine o_indexA rfl rfl rfl z_arr22 rfl rfl hf21 hf22 ?_
     refine o_loadV (j := 0) (s17.toNat) (f := (Value.int .i64)) (zz := 0) (l := 6) (xs := a0.2.1) [.I a0.1] [v1, v2, .string a0.t4.1, .string a0.t4.2] rfl rfl rfl z_sc3 rfl rfl (by simp only [List.length_cons, List.length_nil] <;> omega) (by omega) ?_
     refine Z 3 rfl ?_
     exact hk18 _ _ _ ⟨(!(decide ((a0.2.1.getD s17.toNat 0) = 0))), h, (Sto.Le.refl _), rfl, rfl⟩
    ·refine Z 7 rfl ?_
     exact hk18 _ _ _ ⟨false, h, (Sto.Le.refl _), rfl, rfl⟩
   ·refine st_exit rfl ?_
    obtain rfl := he17 _ h
    replace h := hA17
    refine st_ord [0, 0] _ rfl ?_
    exact hk15 _ _ _ ⟨(), h, hl17, rfl, rfl⟩
  refine Z 4 rfl ?_
  obtain ⟨e25, hL25, hA25⟩ := h
  refine st_ord [2, 1, 0] _ rfl ?_
  refine st_loop hL25 (fun (s25 : Int × Bool × Bool × Bool × Bool × Bool × Bool × Bool × Bool × Bool × Bool × Bool × Bool × Bool) ρ τ25 gs => τ8.Le τ25 ∧ ESub ρ [(1, .Pb b5), (2, .I 0), (3, v10), (4, .Pb b12), (5, .Pb b13), (6, .I s25.1)] ∧ gs = [[(b5, .cells (lM a0 v1 v2).toArray 37 (0, 0))], [(b12, .cells #[.bool s25.2.1, .bool s25.2.2.1, .bool s25.2.2.2.1, .bool s25.t4.1, .bool s25.t4.2.1, .bool s25.t4.2.2.1, .bool s25.t4.2.2.2.1] 143 (0, 0))], [(b13, .cells #[.bool s25.t4.t4.1, .bool s25.t4.t4.2.1, .bool s25.t4.t4.2.2.1, .bool s25.t4.t4.2.2.2.1, .bool s25.t4.t4.t4.1, .bool s25.t4.t4.t4.2] 144 (0, 0))]]) ⟨Sto.Le.refl _, rfl, rfl⟩ ?_
  rintro s25 o25 h he25 ρ25 τ25 gs25 ⟨hl25, hρ, rfl⟩ hn25
  refine st_es hρ ?_
  refine Z 5 rfl ?_
  refine o_lenI rfl rfl rfl z_slT126 rfl (hs11.up hl25) ?_
  refine Z 2 rfl ?_
  refine st_if rfl h (fun h => ?_) (fun h => ?_)
  ·refine Z 11 rfl ?_
   obtain ⟨q26, hf27, h⟩ := h
   refine o_index rfl rfl rfl z_slT126 rfl rfl (hs11.up hl25) rfl hf27 (fun b28 of29 vs hc30 hrep => ?_)
   obtain ⟨_, _, rfl, rfl, ⟨_, _, rfl, rfl, ⟨_, _, rfl, rfl, ⟨_, _, rfl, rfl, ⟨_, _, rfl, rfl, ⟨_, _, rfl, rfl, rfl⟩⟩⟩⟩⟩⟩ := hrep
   refine o_fieldAddr rfl rfl rfl z_field129_1 rfl ?_
   refine o_loadI (v := .I q26.2.1) rfl rfl rfl z_sc3 rfl (hc30 1 _ rfl) ?_
   obtain ⟨hf31, hf32, h⟩ := h
   refine o_indexA rfl rfl rfl z_arr143 rfl rfl hf31 hf32 ?_
   refine o_storeV (j := 1) (q26.2.1.toNat) (f := Value.bool) (zz := false) (a := true) (l := 7) (xs := [s25.2.1, s25.2.2.1, s25.2.2.2.1, s25.t4.1, s25.t4.2.1, s25.t4.2.2.1, s25.t4.2.2.2.1]) [] [] rfl rfl rfl z_size4 rfl rfl rfl rfl rfl (by simp only [List.length_cons, List.length_nil] <;> omega) (by omega) ?_
   refine Z 2 rfl ?_
   refine st_cut (fun ρ τ33 gs => ∃ (s33 : Int × Bool × Bool × Bool × Bool × Bool × Bool), ref17_Check_j7 s25 q26 s33 o25 ∧ τ25.Le τ33 ∧ ESub ρ [(1, .Pb b5), (2, .I 0), (3, v10), (4, .Pb b12), (5, .Pb b13), (6, .I s25.1), (7, .I s33.1)] ∧ gs = [[(b5, .cells (lM a0 v1 v2).toArray 37 (0, 0))], [(b12, .cells #[.bool ((putN 7 false [s25.2.1, s25.2.2.1, s25.2.2.2.1, s25.t4.1, s25.t4.2.1, s25.t4.2.2.1, s25.t4.2.2.2.1] q26.2.1.toNat true).getD 0 false), .bool ((putN 7 false [s25.2.1, s25.2.2.1, s25.2.2.2.1, s25.t4.1, s25.t4.2.1, s25.t4.2.2.1, s25.t4.2.2.2.1] q26.2.1.toNat true).getD 1 false), .bool ((putN 7 false [s25.2.1, s25.2.2.1, s25.2.2.2.1, s25.t4.1, s25.t4.2.1, s25.t4.2.2.1, s25.t4.2.2.2.1] q26.2.1.toNat true).getD 2 false), .bool ((putN 7 false [s25.2.1, s25.2.2.1, s25.2.2.2.1, s25.t4.1, s25.t4.2.1, s25.t4.2.2.1, s25.t4.2.2.2.1] q26.2.1.toNat true).getD 3 false), .bool ((putN 7 false [s25.2.1, s25.2.2.1, s25.2.2.2.1, s25.t4.1, s25.t4.2.1, s25.t4.2.2.1, s25.t4.2.2.2.1] q26.2.1.toNat true).getD 4 false), .bool ((putN 7 false [s25.2.1, s25.2.2.1, s25.2.2.2.1, s25.t4.1, s25.t4.2.1, s25.t4.2.2.1, s25.t4.2.2.2.1] q26.2.1.toNat true).getD 5 false), .bool ((putN 7 false [s25.2.1, s25.2.2.1, s25.2.2.2.1, s25.t4.1, s25.t4.2.1, s25.t4.2.2.1, s25.t4.2.2.2.1] q26.2.1.toNat true).getD 6 false)] 143 (0, 0))], [(b13, .cells #[.bool s33.2.1, .bool s33.2.2.1, .bool s33.2.2.2.1, .bool s33.t4.1, .bool s33.t4.2.1, .bool s33.t4.2.2] 144 (0, 0))]]) ?_ (fun hk33 => ?_)
   ·rintro ρ33 τ33 gs33 ⟨s33, h, hl33, hρ, rfl⟩
    refine st_es hρ ?_
    refine Z 5 rfl ?_
    refine st_if rfl h (fun h => ?_) (fun h => ?_)
    ·refine Z 5 rfl ?_
     refine st_ord [] _ rfl ?_
     obtain rfl := he25 _ h
     replace h := hA25
     obtain rfl := Eq.symm h
     exact st_ret (gs' := []) Tryz.func38 rfl (List.Sublist.refl _) ((hl9.trans hl25).trans hl33) ⟨rfl, rfl⟩
    ·refine Z 7 rfl ?_
     exact hn25 _ _ _ _ h ⟨(hl25.trans hl33), rfl, rfl⟩
   refine Z 4 rfl ?_
   obtain ⟨q34, hf35, h⟩ := h
   refine o_index rfl rfl rfl z_slT126 rfl rfl (hs11.up hl25) rfl hf35 (fun b36 of37 vs hc38 hrep => ?_)
   obtain ⟨_, _, rfl, rfl, ⟨_, _, rfl, rfl, ⟨_, _, rfl, rfl, ⟨_, _, rfl, rfl, ⟨_, _, rfl, rfl, ⟨_, _, rfl, rfl, rfl⟩⟩⟩⟩⟩⟩ := hrep
   refine o_fieldAddr rfl rfl rfl z_field129_1 rfl ?_
   refine o_loadI (v := .I q34.2.1) rfl rfl rfl z_sc3 rfl (hc38 1 _ rfl) ?_
   refine Z 7 rfl ?_
   refine st_if rfl h (fun h => ?_) (fun h => ?_)
   ·refine ZZ 3 [0] rfl rfl ?_
    obtain ⟨r39, hr40, h⟩ := h
    refine st_call (foot := []) rfl rfl rfl rfl rfl rfl (callV_fn z_en77 (ref17_path_ok hr40 τ25 (hs3.up (hl9.trans hl25)))) ?_
    rintro vτ41 τ41 gsτ41 hl42 ⟨rfl, rfl⟩
    refine Z 3 rfl ?_
    exact hk33 _ _ _ ⟨(r39, s25.t4.t4.1, s25.t4.t4.2.1, s25.t4.t4.2.2.1, s25.t4.t4.2.2.2.1, s25.t4.t4.t4.1, s25.t4.t4.t4.2), h, hl42, rfl, rfl⟩
   ·refine Z 5 rfl ?_
    refine st_if rfl h (fun h => ?_) (fun h => ?_)
    ·refine ZZ 3 [0] rfl rfl ?_
     obtain ⟨r43, hr44, h⟩ := h
     refine st_call (foot := []) rfl rfl rfl rfl rfl rfl (callV_fn z_en78 (ref17_cells_ok hr44 τ25 (hs4.up (hl9.trans hl25)))) ?_
     rintro vτ45 τ45 gsτ45 hl46 ⟨rfl, rfl⟩
     refine Z 3 rfl ?_
     exact hk33 _ _ _ ⟨(r43, s25.t4.t4.1, s25.t4.t4.2.1, s25.t4.t4.2.2.1, s25.t4.t4.2.2.2.1, s25.t4.t4.t4.1, s25.t4.t4.t4.2), h, hl46, rfl, rfl⟩
    ·refine Z 5 rfl ?_
     refine st_if rfl h (fun h => ?_) (fun h => ?_)
     ·refine ZZ 3 [0] rfl rfl ?_
      obtain ⟨r47, hr48, h⟩ := h
      refine st_call (foot := []) rfl rfl rfl rfl rfl rfl (callV_fn z_en79 (ref17_text_ok hr48 τ25)) ?_
      rintro vτ49 τ49 gsτ49 hl50 ⟨rfl, rfl⟩
      refine Z 3 rfl ?_
      exact hk33 _ _ _ ⟨(r47, s25.t4.t4.1, s25.t4.t4.2.1, s25.t4.t4.2.2.1, s25.t4.t4.2.2.2.1, s25.t4.t4.t4.1, s25.t4.t4.t4.2), h, hl50, rfl, rfl⟩
     ·refine Z 5 rfl ?_
      refine st_if rfl h (fun h => ?_) (fun h => ?_)
      ·refine ZZ 3 [0] rfl rfl ?_
       obtain ⟨r51, hr52, h⟩ := h
       refine st_call (foot := []) rfl rfl rfl rfl rfl rfl (callV_fn z_en79 (ref17_text_ok hr52 τ25)) ?_
       rintro vτ53 τ53 gsτ53 hl54 ⟨rfl, rfl⟩
       refine Z 3 rfl ?_
       exact hk33 _ _ _ ⟨(r51, s25.t4.t4.1, s25.t4.t4.2.1, s25.t4.t4.2.2.1, s25.t4.t4.2.2.2.1, s25.t4.t4.t4.1, s25.t4.t4.t4.2), h, hl54, rfl, rfl⟩
      ·refine Z 4 rfl ?_
       obtain ⟨q55, hf56, h⟩ := h
       refine o_index rfl rfl rfl z_slT126 rfl rfl (hs11.up hl25) rfl hf56 (fun b57 of58 vs hc59 hrep => ?_)
       obtain ⟨_, _, rfl, rfl, ⟨_, _, rfl, rfl, ⟨_, _, rfl, rfl, ⟨_, _, rfl, rfl, ⟨_, _, rfl, rfl, ⟨_, _, rfl, rfl, rfl⟩⟩⟩⟩⟩⟩ := hrep
       refine o_fieldAddr rfl rfl rfl z_field129_2 rfl ?_
       refine o_loadI (v := .I q55.2.2.1) rfl rfl rfl z_sc3 rfl (hc59 2 _ rfl) ?_
       obtain ⟨hf60, hf61, h⟩ := h
       refine o_indexA rfl rfl rfl z_arr144 rfl rfl hf60 hf61 ?_
       refine o_storeV (j := 2) (q55.2.2.1.toNat) (f := Value.bool) (zz := false) (a := true) (l := 6) (xs := [s25.t4.t4.1, s25.t4.t4.2.1, s25.t4.t4.2.2.1, s25.t4.t4.2.2.2.1, s25.t4.t4.t4.1, s25.t4.t4.t4.2]) [] [] rfl rfl rfl z_size4 rfl rfl rfl rfl rfl (by simp only [List.length_cons, List.length_nil] <;> omega) (by omega) ?_
       refine Z 2 rfl ?_
       obtain ⟨q62, hf63, hf67, hf68, q69, hf70, q75, hf76, hf80, hf81, q82, hf83, h⟩ := h
       let cc74 : Prop := (decide ((a0.2.1.getD q62.2.2.1.toNat 0) < q69.2.2.2.1)) = false
       refine st_draw 30 (dl [.v (v10), .v (.I s25.1), .t fun τ v => ∃ (b64 : Nat) (of65 : Nat) (vsb64 : List Value), (.pointer (some ⟨b64, of65, none⟩) : Value) = v ∧ CelN τ ⟨b64, of65, none⟩ vsb64 ∧ (kP kS (kP (kI .i64) (kP (kI .i64) (kP (kI .i64) (kP (kI .i64) (kP (kI .i64) (kI .i64))))))).rep τ vsb64 q62, .t fun τ v => ∃ (b64 : Nat) (of65 : Nat) (vsb64 : List Value), (.pointer (some ⟨b64, of65 + 2, none⟩) : Value) = v ∧ CelN τ ⟨b64, of65, none⟩ vsb64 ∧ (kP kS (kP (kI .i64) (kP (kI .i64) (kP (kI .i64) (kP (kI .i64) (kP (kI .i64) (kI .i64))))))).rep τ vsb64 q62, .v (.I q62.2.2.1), .v (.pointer (some ⟨b5, 1, none⟩)), .v (.pointer (some ⟨b5, 1 + q62.2.2.1.toNat * 1, none⟩)), .v (.I (a0.2.1.getD q62.2.2.1.toNat 0)), .v (v10), .v (.I s25.1), .t fun τ v => ∃ (b71 : Nat) (of72 : Nat) (vsb71 : List Value), (.pointer (some ⟨b71, of72, none⟩) : Value) = v ∧ CelN τ ⟨b71, of72, none⟩ vsb71 ∧ (kP kS (kP (kI .i64) (kP (kI .i64) (kP (kI .i64) (kP (kI .i64) (kP (kI .i64) (kI .i64))))))).rep τ vsb71 q69, .t fun τ v => ∃ (b71 : Nat) (of72 : Nat) (vsb71 : List Value), (.pointer (some ⟨b71, of72 + 3, none⟩) : Value) = v ∧ CelN τ ⟨b71, of72, none⟩ vsb71 ∧ (kP kS (kP (kI .i64) (kP (kI .i64) (kP (kI .i64) (kP (kI .i64) (kP (kI .i64) (kI .i64))))))).rep τ vsb71 q69, .v (.I q69.2.2.2.1), .v (.bool (decide ((a0.2.1.getD q62.2.2.1.toNat 0) < q69.2.2.2.1))), .v (.bool (decide ((a0.2.1.getD q62.2.2.1.toNat 0) < q69.2.2.2.1))), .g cc74 (v10), .g cc74 (.I s25.1), .h cc74 fun τ v => ∃ (b77 : Nat) (of78 : Nat) (vsb77 : List Value), (.pointer (some ⟨b77, of78, none⟩) : Value) = v ∧ CelN τ ⟨b77, of78, none⟩ vsb77 ∧ (kP kS (kP (kI .i64) (kP (kI .i64) (kP (kI .i64) (kP (kI .i64) (kP (kI .i64) (kI .i64))))))).rep τ vsb77 q75, .h cc74 fun τ v => ∃ (b77 : Nat) (of78 : Nat) (vsb77 : List Value), (.pointer (some ⟨b77, of78 + 2, none⟩) : Value) = v ∧ CelN τ ⟨b77, of78, none⟩ vsb77 ∧ (kP kS (kP (kI .i64) (kP (kI .i64) (kP (kI .i64) (kP (kI .i64) (kP (kI .i64) (kI .i64))))))).rep τ vsb77 q75, .g cc74 (.I q75.2.2.1), .g cc74 (.pointer (some ⟨b5, 1, none⟩)), .g cc74 (.pointer (some ⟨b5, 1 + q75.2.2.1.toNat * 1, none⟩)), .g cc74 (.I (a0.2.1.getD q75.2.2.1.toNat 0)), .g cc74 (v10), .g cc74 (.I s25.1), .h cc74 fun τ v => ∃ (b84 : Nat) (of85 : Nat) (vsb84 : List Value), (.pointer (some ⟨b84, of85, none⟩) : Value) = v ∧ CelN τ ⟨b84, of85, none⟩ vsb84 ∧ (kP kS (kP (kI .i64) (kP (kI .i64) (kP (kI .i64) (kP (kI .i64) (kP (kI .i64) (kI .i64))))))).rep τ vsb84 q82, .h cc74 fun τ v => ∃ (b84 : Nat) (of85 : Nat) (vsb84 : List Value), (.pointer (some ⟨b84, of85 + 4, none⟩) : Value) = v ∧ CelN τ ⟨b84, of85, none⟩ vsb84 ∧ (kP kS (kP (kI .i64) (kP (kI .i64) (kP (kI .i64) (kP (kI .i64) (kP (kI .i64) (kI .i64))))))).rep τ vsb84 q82, .g cc74 (.I q82.t4.1), .g cc74 (.bool (decide (q82.t4.1 < (a0.2.1.getD q75.2.2.1.toNat 0)))), .v (.bool ((decide ((a0.2.1.getD q62.2.2.1.toNat 0) < q69.2.2.2.1)) || (decide (q82.t4.1 < (a0.2.1.getD q75.2.2.1.toNat 0)))))]) (fun _ _ => []) z_mix rfl (dl_mono (by exact ⟨fun _ _ _ hl ⟨b64, of65, vsb64, hv, hc66, hrepb64⟩ => ⟨b64, of65, vsb64, hv, hc66.up hl, Kd.mono _ hl hrepb64⟩, ⟨fun _ _ _ hl ⟨b64, of65, vsb64, hv, hc66, hrepb64⟩ => ⟨b64, of65, vsb64, hv, hc66.up hl, Kd.mono _ hl hrepb64⟩, ⟨fun _ _ _ hl ⟨b71, of72, vsb71, hv, hc73, hrepb71⟩ => ⟨b71, of72, vsb71, hv, hc73.up hl, Kd.mono _ hl hrepb71⟩, ⟨fun _ _ _ hl ⟨b71, of72, vsb71, hv, hc73, hrepb71⟩ => ⟨b71, of72, vsb71, hv, hc73.up hl, Kd.mono _ hl hrepb71⟩, ⟨fun _ _ _ hl ⟨b77, of78, vsb77, hv, hc79, hrepb77⟩ => ⟨b77, of78, vsb77, hv, hc79.up hl, Kd.mono _ hl hrepb77⟩, ⟨fun _ _ _ hl ⟨b77, of78, vsb77, hv, hc79, hrepb77⟩ => ⟨b77, of78, vsb77, hv, hc79.up hl, Kd.mono _ hl hrepb77⟩, ⟨fun _ _ _ hl ⟨b84, of85, vsb84, hv, hc86, hrepb84⟩ => ⟨b84, of85, vsb84, hv, hc86.up hl, Kd.mono _ hl hrepb84⟩, ⟨fun _ _ _ hl ⟨b84, of85, vsb84, hv, hc86, hrepb84⟩ => ⟨b84, of85, vsb84, hv, hc86.up hl, Kd.mono _ hl hrepb84⟩, trivial⟩⟩⟩⟩⟩⟩⟩⟩)) (allB_cons (allB_cons (allB_cons (allB_cons (allB_cons (allB_cons (allB_cons (allB_cons (allB_cons (allB_cons (allB_cons (allB_cons (allB_cons (allB_cons (allB_cons (allB_cons (allB_cons (allB_cons (allB_cons (allB_cons (allB_cons (allB_cons (allB_cons (allB_cons (allB_cons (allB_cons (allB_cons (allB_cons (allB_cons (allB_cons allB_nil (p1 dA)) (p1 dA)) ?_) ?_) ?_) (p1 dA)) ?_) ?_) (p1 dA)) (p1 dA)) ?_) ?_) ?_) (p1 dA)) (p1 dA)) (p1 (dG []))) (p1 (dG []))) ?_) ?_) ?_) (p1 (dG []))) ?_) ?_) (p1 (dG []))) (p1 (dG []))) ?_) ?_) ?_) (p1 (dG [22, 27]))) (p1 dO)) ?_
       ·intro ρ' τ pool rs hl hd hout hk
        obtain ⟨_, e0, rfl⟩ := hd 0 rfl
        obtain ⟨_, e1, rfl⟩ := hd 1 rfl
        refine o_index rfl rfl rfl z_slT126 rfl e0 (hs11.up (hl25.trans hl)) e1 hf63 (fun b64 of65 vsb64 hc66 hrepb64 => ?_)
        exact st_addNil (hk _ _ (Sto.Le.refl _) ⟨b64, of65, _, rfl, hc66, hrepb64⟩)
       ·intro ρ' τ pool rs hl hd hout hk
        obtain ⟨_, e2, b64, of65, vsb64, rfl, hc66, hrepb64⟩ := hd 2 rfl
        have hrepb64 := hrepb64
        obtain ⟨_, _, rfl, rfl, ⟨_, _, rfl, rfl, ⟨_, _, rfl, rfl, ⟨_, _, rfl, rfl, ⟨_, _, rfl, rfl, ⟨_, _, rfl, rfl, rfl⟩⟩⟩⟩⟩⟩ := hrepb64
        refine o_fieldAddr rfl rfl rfl z_field129_2 e2 ?_
        exact st_addNil (hk _ _ (Sto.Le.refl _) ⟨b64, of65, _, rfl, hc66, hrepb64⟩)
       ·intro ρ' τ pool rs hl hd hout hk
        obtain ⟨_, e3, b64, of65, vsb64, rfl, hc66, hrepb64⟩ := hd 3 rfl
        have hrepb64 := hrepb64
        obtain ⟨_, _, rfl, rfl, ⟨_, _, rfl, rfl, ⟨_, _, rfl, rfl, ⟨_, _, rfl, rfl, ⟨_, _, rfl, rfl, ⟨_, _, rfl, rfl, rfl⟩⟩⟩⟩⟩⟩ := hrepb64
        refine o_loadI (v := .I q62.2.2.1) rfl rfl rfl z_sc3 e3 (hc66 2 _ rfl) ?_
        exact st_addNil (hk _ _ (Sto.Le.refl _) rfl)
       ·intro ρ' τ pool rs hl hd hout hk
        obtain ⟨_, e4, rfl⟩ := hd 4 rfl
        obtain ⟨_, e5, rfl⟩ := hd 5 rfl
        refine o_indexA rfl rfl rfl z_arr22 e5 e4 hf67 hf68 ?_
        exact st_addNil (hk _ _ (Sto.Le.refl _) rfl)
       ·intro ρ' τ pool rs hl hd hout hk
        obtain ⟨_, e6, rfl⟩ := hd 6 rfl
        refine o_loadV (j := 0) (q62.2.2.1.toNat) (f := (Value.int .i64)) (zz := 0) (l := 6) (xs := a0.2.1) [.I a0.1] [v1, v2, .string a0.t4.1, .string a0.t4.2] rfl rfl rfl z_sc3 e6 rfl (by simp only [List.length_cons, List.length_nil] <;> omega) (by omega) ?_
        exact st_addNil (hk _ _ (Sto.Le.refl _) rfl)
       ·intro ρ' τ pool rs hl hd hout hk
        obtain ⟨_, e8, rfl⟩ := hd 8 rfl
        obtain ⟨_, e9, rfl⟩ := hd 9 rfl
        refine o_index rfl rfl rfl z_slT126 rfl e8 (hs11.up (hl25.trans hl)) e9 hf70 (fun b71 of72 vsb71 hc73 hrepb71 => ?_)
        exact st_addNil (hk _ _ (Sto.Le.refl _) ⟨b71, of72, _, rfl, hc73, hrepb71⟩)
       ·intro ρ' τ pool rs hl hd hout hk
        obtain ⟨_, e10, b71, of72, vsb71, rfl, hc73, hrepb71⟩ := hd 10 rfl
        have hrepb71 := hrepb71
        obtain ⟨_, _, rfl, rfl, ⟨_, _, rfl, rfl, ⟨_, _, rfl, rfl, ⟨_, _, rfl, rfl, ⟨_, _, rfl, rfl, ⟨_, _, rfl, rfl, rfl⟩⟩⟩⟩⟩⟩ := hrepb71
        refine o_fieldAddr rfl rfl rfl z_field129_3 e10 ?_
        exact st_addNil (hk _ _ (Sto.Le.refl _) ⟨b71, of72, _, rfl, hc73, hrepb71⟩)
       ·intro ρ' τ pool rs hl hd hout hk
        obtain ⟨_, e11, b71, of72, vsb71, rfl, hc73, hrepb71⟩ := hd 11 rfl
        have hrepb71 := hrepb71
        obtain ⟨_, _, rfl, rfl, ⟨_, _, rfl, rfl, ⟨_, _, rfl, rfl, ⟨_, _, rfl, rfl, ⟨_, _, rfl, rfl, ⟨_, _, rfl, rfl, rfl⟩⟩⟩⟩⟩⟩ := hrepb71
        refine o_loadI (v := .I q69.2.2.2.1) rfl rfl rfl z_sc3 e11 (hc73 3 _ rfl) ?_
        exact st_addNil (hk _ _ (Sto.Le.refl _) rfl)
       ·intro ρ' τ pool rs hl hd hout hk
        obtain ⟨_, e14, rfl⟩ := hd 14 rfl
        obtain ⟨w15, e15, t15⟩ := hd 15 rfl
        obtain ⟨w16, e16, t16⟩ := hd 16 rfl
        by_cases hG : (decide ((a0.2.1.getD q62.2.2.1.toNat 0) < q69.2.2.2.1)) = false
        ·have hC := hG
         replace hf76 := hf76 hC
         obtain ⟨rfl⟩ := t15.1 hC
         obtain ⟨rfl⟩ := t16.1 hC
         refine o_index rfl (wants_of rfl e14 hG) rfl z_slT126 rfl e15 (hs11.up (hl25.trans hl)) e16 hf76 (fun b77 of78 vsb77 hc79 hrepb77 => ?_)
         exact st_addNil (hk _ _ (Sto.Le.refl _) ⟨fun _ => ⟨b77, of78, _, rfl, hc79, hrepb77⟩, fun hn => absurd hC hn⟩)
        ·refine st_pass rfl rfl rfl e14 (beq_off hG) rfl ?_
         exact st_addNil (hk _ _ (Sto.Le.refl _) ⟨fun h => absurd h hG, fun _ => rfl⟩)
       ·intro ρ' τ pool rs hl hd hout hk
        obtain ⟨_, e14, rfl⟩ := hd 14 rfl
        obtain ⟨w17, e17, t17⟩ := hd 17 rfl
        by_cases hG : (decide ((a0.2.1.getD q62.2.2.1.toNat 0) < q69.2.2.2.1)) = false
        ·have hC := hG
         obtain ⟨b77, of78, vsb77, rfl, hc79, hrepb77⟩ := t17.1 hC
         have hrepb77 := hrepb77
         obtain ⟨_, _, rfl, rfl, ⟨_, _, rfl, rfl, ⟨_, _, rfl, rfl, ⟨_, _, rfl, rfl, ⟨_, _, rfl, rfl, ⟨_, _, rfl, rfl, rfl⟩⟩⟩⟩⟩⟩ := hrepb77
         refine o_fieldAddr rfl (wants_of rfl e14 hG) rfl z_field129_2 e17 ?_
         exact st_addNil (hk _ _ (Sto.Le.refl _) ⟨fun _ => ⟨b77, of78, _, rfl, hc79, hrepb77⟩, fun hn => absurd hC hn⟩)
        ·refine st_pass rfl rfl rfl e14 (beq_off hG) rfl ?_
         exact st_addNil (hk _ _ (Sto.Le.refl _) ⟨fun h => absurd h hG, fun _ => rfl⟩)
       ·intro ρ' τ pool rs hl hd hout hk
        obtain ⟨_, e14, rfl⟩ := hd 14 rfl
        obtain ⟨w18, e18, t18⟩ := hd 18 rfl
        by_cases hG : (decide ((a0.2.1.getD q62.2.2.1.toNat 0) < q69.2.2.2.1)) = false
        ·have hC := hG
         obtain ⟨b77, of78, vsb77, rfl, hc79, hrepb77⟩ := t18.1 hC
         have hrepb77 := hrepb77
         obtain ⟨_, _, rfl, rfl, ⟨_, _, rfl, rfl, ⟨_, _, rfl, rfl, ⟨_, _, rfl, rfl, ⟨_, _, rfl, rfl, ⟨_, _, rfl, rfl, rfl⟩⟩⟩⟩⟩⟩ := hrepb77
         refine o_loadI (v := .I q75.2.2.1) rfl (wants_of rfl e14 hG) rfl z_sc3 e18 (hc79 2 _ rfl) ?_
         exact st_addNil (hk _ _ (Sto.Le.refl _) ⟨fun _ => rfl, fun hn => absurd hC hn⟩)
        ·refine st_pass rfl rfl rfl e14 (beq_off hG) rfl ?_
         exact st_addNil (hk _ _ (Sto.Le.refl _) ⟨fun h => absurd h hG, fun _ => rfl⟩)
       ·intro ρ' τ pool rs hl hd hout hk
        obtain ⟨_, e14, rfl⟩ := hd 14 rfl
        obtain ⟨w19, e19, t19⟩ := hd 19 rfl
        obtain ⟨w20, e20, t20⟩ := hd 20 rfl
        by_cases hG : (decide ((a0.2.1.getD q62.2.2.1.toNat 0) < q69.2.2.2.1)) = false
        ·have hC := hG
         replace hf80 := hf80 hC
         replace hf81 := hf81 hC
         obtain ⟨rfl⟩ := t19.1 hC
         obtain ⟨rfl⟩ := t20.1 hC
         refine o_indexA rfl (wants_of rfl e14 hG) rfl z_arr22 e20 e19 hf80 hf81 ?_
         exact st_addNil (hk _ _ (Sto.Le.refl _) ⟨fun _ => rfl, fun hn => absurd hC hn⟩)
        ·refine st_pass rfl rfl rfl e14 (beq_off hG) rfl ?_
         exact st_addNil (hk _ _ (Sto.Le.refl _) ⟨fun h => absurd h hG, fun _ => rfl⟩)
       ·intro ρ' τ pool rs hl hd hout hk
        obtain ⟨_, e14, rfl⟩ := hd 14 rfl
        obtain ⟨w21, e21, t21⟩ := hd 21 rfl
        by_cases hG : (decide ((a0.2.1.getD q62.2.2.1.toNat 0) < q69.2.2.2.1)) = false
        ·have hC := hG
         obtain ⟨rfl⟩ := t21.1 hC
         replace hf80 := hf80 hC
         replace hf81 := hf81 hC
         refine o_loadV (j := 0) (q75.2.2.1.toNat) (f := (Value.int .i64)) (zz := 0) (l := 6) (xs := a0.2.1) [.I a0.1] [v1, v2, .string a0.t4.1, .string a0.t4.2] rfl (wants_of rfl e14 hG) rfl z_sc3 e21 rfl (by simp only [List.length_cons, List.length_nil] <;> omega) (by omega) ?_
         exact st_addNil (hk _ _ (Sto.Le.refl _) ⟨fun _ => rfl, fun hn => absurd hC hn⟩)
        ·refine st_pass rfl rfl rfl e14 (beq_off hG) rfl ?_
         exact st_addNil (hk _ _ (Sto.Le.refl _) ⟨fun h => absurd h hG, fun _ => rfl⟩)
       ·intro ρ' τ pool rs hl hd hout hk
        obtain ⟨_, e14, rfl⟩ := hd 14 rfl
        obtain ⟨w23, e23, t23⟩ := hd 23 rfl
        obtain ⟨w24, e24, t24⟩ := hd 24 rfl
        by_cases hG : (decide ((a0.2.1.getD q62.2.2.1.toNat 0) < q69.2.2.2.1)) = false
        ·have hC := hG
         replace hf83 := hf83 hC
         obtain ⟨rfl⟩ := t23.1 hC
         obtain ⟨rfl⟩ := t24.1 hC
         refine o_index rfl (wants_of rfl e14 hG) rfl z_slT126 rfl e23 (hs11.up (hl25.trans hl)) e24 hf83 (fun b84 of85 vsb84 hc86 hrepb84 => ?_)
         exact st_addNil (hk _ _ (Sto.Le.refl _) ⟨fun _ => ⟨b84, of85, _, rfl, hc86, hrepb84⟩, fun hn => absurd hC hn⟩)
        ·refine st_pass rfl rfl rfl e14 (beq_off hG) rfl ?_
         exact st_addNil (hk _ _ (Sto.Le.refl _) ⟨fun h => absurd h hG, fun _ => rfl⟩)
       ·intro ρ' τ pool rs hl hd hout hk
        obtain ⟨_, e14, rfl⟩ := hd 14 rfl
        obtain ⟨w25, e25, t25⟩ := hd 25 rfl
        by_cases hG : (decide ((a0.2.1.getD q62.2.2.1.toNat 0) < q69.2.2.2.1)) = false
        ·have hC := hG
         obtain ⟨b84, of85, vsb84, rfl, hc86, hrepb84⟩ := t25.1 hC
         have hrepb84 := hrepb84
         obtain ⟨_, _, rfl, rfl, ⟨_, _, rfl, rfl, ⟨_, _, rfl, rfl, ⟨_, _, rfl, rfl, ⟨_, _, rfl, rfl, ⟨_, _, rfl, rfl, rfl⟩⟩⟩⟩⟩⟩ := hrepb84
         refine o_fieldAddr rfl (wants_of rfl e14 hG) rfl z_field129_4 e25 ?_
         exact st_addNil (hk _ _ (Sto.Le.refl _) ⟨fun _ => ⟨b84, of85, _, rfl, hc86, hrepb84⟩, fun hn => absurd hC hn⟩)
        ·refine st_pass rfl rfl rfl e14 (beq_off hG) rfl ?_
         exact st_addNil (hk _ _ (Sto.Le.refl _) ⟨fun h => absurd h hG, fun _ => rfl⟩)
       ·intro ρ' τ pool rs hl hd hout hk
        obtain ⟨_, e14, rfl⟩ := hd 14 rfl
        obtain ⟨w26, e26, t26⟩ := hd 26 rfl
        by_cases hG : (decide ((a0.2.1.getD q62.2.2.1.toNat 0) < q69.2.2.2.1)) = false
        ·have hC := hG
         obtain ⟨b84, of85, vsb84, rfl, hc86, hrepb84⟩ := t26.1 hC
         have hrepb84 := hrepb84
         obtain ⟨_, _, rfl, rfl, ⟨_, _, rfl, rfl, ⟨_, _, rfl, rfl, ⟨_, _, rfl, rfl, ⟨_, _, rfl, rfl, ⟨_, _, rfl, rfl, rfl⟩⟩⟩⟩⟩⟩ := hrepb84
         refine o_loadI (v := .I q82.t4.1) rfl (wants_of rfl e14 hG) rfl z_sc3 e26 (hc86 4 _ rfl) ?_
         exact st_addNil (hk _ _ (Sto.Le.refl _) ⟨fun _ => rfl, fun hn => absurd hC hn⟩)
        ·refine st_pass rfl rfl rfl e14 (beq_off hG) rfl ?_
         exact st_addNil (hk _ _ (Sto.Le.refl _) ⟨fun h => absurd h hG, fun _ => rfl⟩)
       intro ρ' τ87 vals hl87 hv hout
       refine st_ord [0, 0, 0] _ rfl ?_
       refine st_env (ρ' := [(67, .bool ((decide ((a0.2.1.getD q62.2.2.1.toNat 0) < q69.2.2.2.1)) || (decide (q82.t4.1 < (a0.2.1.getD q75.2.2.1.toNat 0))))), (1, .Pb b5), (2, .I 0), (3, v10), (4, .Pb b12), (5, .Pb b13), (6, .I s25.1), (7, .I 0)]) ⟨(lv1 hv 29 rfl rfl), (hout 1 rfl).trans rfl, (hout 2 rfl).trans rfl, (hout 3 rfl).trans rfl, (hout 4 rfl).trans rfl, (hout 5 rfl).trans rfl, (hout 6 rfl).trans rfl, (hout 7 rfl).trans rfl, trivial⟩ ?_
       refine st_end ?_
       refine st_if rfl h (fun h => ?_) (fun h => ?_)
       ·refine Z 4 rfl ?_
        exact hk33 _ _ _ ⟨(5, ((putN 6 false [s25.t4.t4.1, s25.t4.t4.2.1, s25.t4.t4.2.2.1, s25.t4.t4.2.2.2.1, s25.t4.t4.t4.1, s25.t4.t4.t4.2] q55.2.2.1.toNat true).getD 0 false), ((putN 6 false [s25.t4.t4.1, s25.t4.t4.2.1, s25.t4.t4.2.2.1, s25.t4.t4.2.2.2.1, s25.t4.t4.t4.1, s25.t4.t4.t4.2] q55.2.2.1.toNat true).getD 1 false), ((putN 6 false [s25.t4.t4.1, s25.t4.t4.2.1, s25.t4.t4.2.2.1, s25.t4.t4.2.2.2.1, s25.t4.t4.t4.1, s25.t4.t4.t4.2] q55.2.2.1.toNat true).getD 2 false), ((putN 6 false [s25.t4.t4.1, s25.t4.t4.2.1, s25.t4.t4.2.2.1, s25.t4.t4.2.2.2.1, s25.t4.t4.t4.1, s25.t4.t4.t4.2] q55.2.2.1.toNat true).getD 3 false), ((putN 6 false [s25.t4.t4.1, s25.t4.t4.2.1, s25.t4.t4.2.2.1, s25.t4.t4.2.2.2.1, s25.t4.t4.t4.1, s25.t4.t4.t4.2] q55.2.2.1.toNat true).getD 4 false), ((putN 6 false [s25.t4.t4.1, s25.t4.t4.2.1, s25.t4.t4.2.2.1, s25.t4.t4.2.2.2.1, s25.t4.t4.t4.1, s25.t4.t4.t4.2] q55.2.2.1.toNat true).getD 5 false)), h, hl87, rfl, rfl⟩
       ·refine Z 2 rfl ?_
        exact hk33 _ _ _ ⟨(0, ((putN 6 false [s25.t4.t4.1, s25.t4.t4.2.1, s25.t4.t4.2.2.1, s25.t4.t4.2.2.2.1, s25.t4.t4.t4.1, s25.t4.t4.t4.2] q55.2.2.1.toNat true).getD 0 false), ((putN 6 false [s25.t4.t4.1, s25.t4.t4.2.1, s25.t4.t4.2.2.1, s25.t4.t4.2.2.2.1, s25.t4.t4.t4.1, s25.t4.t4.t4.2] q55.2.2.1.toNat true).getD 1 false), ((putN 6 false [s25.t4.t4.1, s25.t4.t4.2.1, s25.t4.t4.2.2.1, s25.t4.t4.2.2.2.1, s25.t4.t4.t4.1, s25.t4.t4.t4.2] q55.2.2.1.toNat true).getD 2 false), ((putN 6 false [s25.t4.t4.1, s25.t4.t4.2.1, s25.t4.t4.2.2.1, s25.t4.t4.2.2.2.1, s25.t4.t4.t4.1, s25.t4.t4.t4.2] q55.2.2.1.toNat true).getD 3 false), ((putN 6 false [s25.t4.t4.1, s25.t4.t4.2.1, s25.t4.t4.2.2.1, s25.t4.t4.2.2.2.1, s25.t4.t4.t4.1, s25.t4.t4.t4.2] q55.2.2.1.toNat true).getD 4 false), ((putN 6 false [s25.t4.t4.1, s25.t4.t4.2.1, s25.t4.t4.2.2.1, s25.t4.t4.2.2.2.1, s25.t4.t4.t4.1, s25.t4.t4.t4.2] q55.2.2.1.toNat true).getD 5 false)), h, hl87, rfl, rfl⟩
  ·refine st_exit rfl ?_
   obtain rfl := he25 _ h
   replace h := hA25
   exact hk14 _ _ _ ⟨(s25.2.1, s25.2.2.1, s25.2.2.2.1, s25.t4.1, s25.t4.2.1, s25.t4.2.2.1, s25.t4.2.2.2.1, s25.t4.t4.1, s25.t4.t4.2.1, s25.t4.t4.2.2.1, s25.t4.t4.2.2.2.1, s25.t4.t4.t4.1, s25.t4.t4.t4.2), h, hl25, rfl, rfl⟩
theorem ref27_Check_ok {a0 : TyZ} {v1 : Value} {v2 : Value} {v3 : Value} {v4 : Value} {r : Int} (h : ref27_Check a0 r) (σ : Sto) (hs5 : Sl (kA .i64 2) σ v1 a0.2.1.2.2.1) (hs6 : Sl (kI .i64) σ v2 a0.2.1.2.2.2.1) (hs7 : Sl (kI .u8) σ v3 a0.2.2.1.t4) (hs8 : Sl (kI .i64) σ v4 a0.2.2.2) :
    Does Tryz.prog 13 [.agg (lS a0 v1 v2 v3 v4).toArray] σ [] (fun v τ gs => gs = [] ∧ .I r = v) := by
 refine call_of Tryz.func13 Tryz.ntmps13 rfl rfl (fun cs fs => ?_)
 refine Z 2 rfl ?_
 refine o_box (cs := (lS a0 v1 v2 v3 v4)) rfl rfl rfl rfl rfl (fun b9 => ?_)
 refine Z 4 rfl ?_
 refine st_cut (fun ρ τ10 gs => ∃ (s10 : Bool), ref27_Check_j1 a0 s10 r ∧ σ.Le τ10 ∧ ESub ρ [(1, .Pb b9), (2, .I 0), (11, .bool s10)] ∧ gs = [[(b9, .cells (lS a0 v1 v2 v3 v4).toArray 40 (0, 0))]]) ?_ (fun hk10 => ?_)
 ·rintro ρ10 τ10 gs10 ⟨s10, h, hl10, hρ, rfl⟩
  refine st_es hρ ?_
  refine st_if rfl h (fun h => ?_) (fun h => ?_)
  ·refine Z 4 rfl ?_
   refine st_ord [] _ rfl ?_
   obtain rfl := Eq.symm h
   exact st_ret (gs' := []) Tryz.func13 rfl (List.Sublist.refl _) hl10 ⟨rfl, rfl⟩
  ·refine ZZ 8 [0] rfl rfl ?_
   refine st_if rfl h (fun h => ?_) (fun h => ?_)
   ·refine ZZ 4 [0] rfl rfl ?_
    obtain ⟨r11, hr12, h⟩ := h
    refine st_call (foot := []) rfl rfl rfl rfl rfl rfl (callV_fn z_en38 (ref17_Check_ok hr12 τ10 (hs5.up hl10) (hs6.up hl10))) ?_
    rintro vτ13 τ13 gsτ13 hl14 ⟨rfl, rfl⟩
    refine Z 2 rfl ?_
    refine st_ord [] _ rfl ?_
    obtain rfl := Eq.symm h
    exact st_ret (gs' := []) Tryz.func13 rfl (List.Sublist.refl _) (hl10.trans hl14) ⟨rfl, rfl⟩
   ·refine Z 3 rfl ?_
    refine st_cut (fun ρ τ15 gs => ∃ (s15 : Bool), ref27_Check_j2 a0 s15 r ∧ τ10.Le τ15 ∧ ESub ρ [(1, .Pb b9), (2, .I 0), (32, .bool s15)] ∧ gs = [[(b9, .cells (lS a0 v1 v2 v3 v4).toArray 40 (0, 0))]]) ?_ (fun hk15 => ?_)
    ·rintro ρ15 τ15 gs15 ⟨s15, h, hl15, hρ, rfl⟩
     refine st_es hρ ?_
     refine st_if rfl h (fun h => ?_) (fun h => ?_)
     ·refine Z 4 rfl ?_
      refine st_ord [] _ rfl ?_
      obtain rfl := Eq.symm h
      exact st_ret (gs' := []) Tryz.func13 rfl (List.Sublist.refl _) (hl10.trans hl15) ⟨rfl, rfl⟩
     ·refine Z 3 rfl ?_
      refine st_cut (fun ρ τ16 gs => ∃ (s16 : Bool), ref27_Check_j3 a0 s16 r ∧ τ15.Le τ16 ∧ ESub ρ [(1, .Pb b9), (2, .I 0), (41, .bool s16)] ∧ gs = [[(b9, .cells (lS a0 v1 v2 v3 v4).toArray 40 (0, 0))]]) ?_ (fun hk16 => ?_)
      ·rintro ρ16 τ16 gs16 ⟨s16, h, hl16, hρ, rfl⟩
       refine st_es hρ ?_
       refine st_if rfl h (fun h => ?_) (fun h => ?_)
       ·refine Z 4 rfl ?_
        refine st_ord [] _ rfl ?_
        obtain rfl := Eq.symm h
        exact st_ret (gs' := []) Tryz.func13 rfl (List.Sublist.refl _) ((hl10.trans hl15).trans hl16) ⟨rfl, rfl⟩
       ·refine Z 2 rfl ?_
        refine st_cut (fun ρ τ17 gs => ∃ (s17 : Unit), ref27_Check_j4 s17 r ∧ τ16.Le τ17 ∧ ESub ρ [(2, .I 0)] ∧ gs = []) ?_ (fun hk17 => ?_)
        ·rintro ρ17 τ17 gs17 ⟨s17, h, hl17, hρ, rfl⟩
         refine st_es hρ ?_
         refine Z 4 rfl ?_
         obtain rfl := Eq.symm h
         exact st_ret (gs' := []) Tryz.func13 rfl (List.Sublist.refl _) (((hl10.trans hl15).trans hl16).trans hl17) ⟨rfl, rfl⟩
        refine Z 4 rfl ?_
        obtain ⟨e18, hL18, hA18⟩ := h
        refine st_loop hL18 (fun (s18 : Int) ρ τ18 gs => τ16.Le τ18 ∧ ESub ρ [(1, .Pb b9), (2, .I 0), (3, .I s18)] ∧ gs = [[(b9, .cells (lS a0 v1 v2 v3 v4).toArray 40 (0, 0))]]) ⟨Sto.Le.refl _, rfl, rfl⟩ ?_
        rintro s18 o18 h he18 ρ18 τ18 gs18 ⟨hl18, hρ, rfl⟩ hn18
        refine st_es hρ ?_
        refine Z 2 rfl ?_
        refine st_cut (fun ρ τ19 gs => ∃ (s19 : Bool), ref27_Check_j6 a0 s18 s19 o18 ∧ τ18.Le τ19 ∧ ESub ρ [(1, .Pb b9), (2, .I 0), (3, .I s18), (51, .bool s19)] ∧ gs = [[(b9, .cells (lS a0 v1 v2 v3 v4).toArray 40 (0, 0))]]) ?_ (fun hk19 => ?_)
        ·rintro ρ19 τ19 gs19 ⟨s19, h, hl19, hρ, rfl⟩
         refine st_es hρ ?_
         refine st_if rfl h (fun h => ?_) (fun h => ?_)
         ·refine Z 4 rfl ?_
          refine st_cut (fun ρ τ20 gs => ∃ (s20 : Bool), ref27_Check_j7 s18 s20 o18 ∧ τ19.Le τ20 ∧ ESub ρ [(1, .Pb b9), (2, .I 0), (3, .I s18), (67, .bool s20)] ∧ gs = [[(b9, .cells (lS a0 v1 v2 v3 v4).toArray 40 (0, 0))]]) ?_ (fun hk20 => ?_)
          ·rintro ρ20 τ20 gs20 ⟨s20, h, hl20, hρ, rfl⟩
           refine st_es hρ ?_
           refine st_if rfl h (fun h => ?_) (fun h => ?_)
           ·refine Z 4 rfl ?_
            refine st_ord [] _ rfl ?_
            obtain rfl := he18 _ h
            replace h := hA18
            obtain rfl := Eq.symm h
            exact st_ret (gs' := []) Tryz.func13 rfl (List.Sublist.refl _) (((((hl10.trans hl15).trans hl16).trans hl18).trans hl19).trans hl20) ⟨rfl, rfl⟩
           ·refine Z 7 rfl ?_
            exact hn18 _ _ _ _ h ⟨((hl18.trans hl19).trans hl20), rfl, rfl⟩
          refine ZZ 4 [0] rfl rfl ?_
          obtain ⟨q21, hf22, h⟩ := h
          refine o_index rfl rfl rfl z_slT24 rfl rfl (hs8.up ((((hl10.trans hl15).trans hl16).trans hl18).trans hl19)) rfl hf22 (fun b23 of24 vs hc25 hrep => ?_)
          obtain rfl := hrep
          refine o_loadI (v := .I q21) rfl rfl rfl z_sc3 rfl (hc25 0 _ rfl) ?_
          refine o_ibin (v := .bool (decide (q21 < 0))) rfl rfl rfl rfl rfl rfl ?_
          refine o_mif rfl rfl rfl rfl h (fun h => ?_) (fun h => ?_)
          ·refine Z 8 rfl ?_
           exact hk20 _ _ _ ⟨true, h, (Sto.Le.refl _), rfl, rfl⟩
          ·refine ZZ 3 [0] rfl rfl ?_
           obtain ⟨q26, hf27, h⟩ := h
           refine o_index rfl rfl rfl z_slT24 rfl rfl (hs8.up ((((hl10.trans hl15).trans hl16).trans hl18).trans hl19)) rfl hf27 (fun b28 of29 vs hc30 hrep => ?_)
           obtain rfl := hrep
           refine o_loadI (v := .I q26) rfl rfl rfl z_sc3 rfl (hc30 0 _ rfl) ?_
           refine Z 3 rfl ?_
           exact hk20 _ _ _ ⟨(decide (1000 < q26)), h, (Sto.Le.refl _), rfl, rfl⟩
         ·refine st_exit rfl ?_
          obtain rfl := he18 _ h
          replace h := hA18
          refine st_ord [] _ rfl ?_
          exact hk17 _ _ _ ⟨(), h, (hl18.trans hl19), rfl, rfl⟩
        refine ZZ 4 [0] rfl rfl ?_
        refine o_lenI rfl rfl rfl z_slT24 rfl (hs8.up (((hl10.trans hl15).trans hl16).trans hl18)) ?_
        refine o_ibin (v := .bool (decide (s18 < (a0.2.2.2.length : Int)))) rfl rfl rfl rfl rfl rfl ?_
        refine o_mif rfl rfl rfl rfl h (fun h => ?_) (fun h => ?_)
        ·refine ZZ 5 [0] rfl rfl ?_
         exact hk19 _ _ _ ⟨(decide (a0.1 = 4)), h, (Sto.Le.refl _), rfl, rfl⟩
        ·refine Z 5 rfl ?_
         exact hk19 _ _ _ ⟨false, h, (Sto.Le.refl _), rfl, rfl⟩
      refine ZZ 4 [0] rfl rfl ?_
      refine o_mif rfl rfl rfl rfl h (fun h => ?_) (fun h => ?_)
      ·refine ZZ 2 [0] rfl rfl ?_
       refine o_lenI rfl rfl rfl z_slT24 rfl (hs8.up (hl10.trans hl15)) ?_
       refine Z 3 rfl ?_
       exact hk16 _ _ _ ⟨(decide (16 < (a0.2.2.2.length : Int))), h, (Sto.Le.refl _), rfl, rfl⟩
      ·refine Z 6 rfl ?_
       exact hk16 _ _ _ ⟨false, h, (Sto.Le.refl _), rfl, rfl⟩
    refine ZZ 4 [0] rfl rfl ?_
    refine o_mif rfl rfl rfl rfl h (fun h => ?_) (fun h => ?_)
    ·refine ZZ 4 [0] rfl rfl ?_
     refine o_mif rfl rfl rfl rfl h (fun h => ?_) (fun h => ?_)
     ·refine Z 7 rfl ?_
      exact hk15 _ _ _ ⟨true, h, (Sto.Le.refl _), rfl, rfl⟩
     ·refine ZZ 7 [0] rfl rfl ?_
      exact hk15 _ _ _ ⟨(decide (4 < a0.2.2.1.1)), h, (Sto.Le.refl _), rfl, rfl⟩
    ·refine Z 12 rfl ?_
     exact hk15 _ _ _ ⟨false, h, (Sto.Le.refl _), rfl, rfl⟩
 refine ZZ 4 [0] rfl rfl ?_
 refine o_mif rfl rfl rfl rfl h (fun h => ?_) (fun h => ?_)
 ·refine Z 5 rfl ?_
  exact hk10 _ _ _ ⟨true, h, (Sto.Le.refl _), rfl, rfl⟩
 ·refine ZZ 5 [0] rfl rfl ?_
  exact hk10 _ _ _ ⟨(decide (6 < a0.1)), h, (Sto.Le.refl _), rfl, rfl⟩
theorem ref26_digit_ok {a0 : Int} {r : Int} (h : ref26_digit a0 r) (σ : Sto)  :
    Does Tryz.prog 102 [.int .u8 a0] σ [] (fun v τ gs => gs = [] ∧ .int .u8 r = v) := by
 refine call_of Tryz.func102 Tryz.ntmps102 rfl rfl (fun cs fs => ?_)
 refine Z 10 rfl ?_
 refine st_if rfl h (fun h => ?_) (fun h => ?_)
 ·refine Z 6 rfl ?_
  obtain rfl := Eq.symm h
  exact st_ret (gs' := []) Tryz.func102 rfl (List.Sublist.refl _) (Sto.Le.refl _) ⟨rfl, rfl⟩
 ·refine Z 7 rfl ?_
  obtain rfl := Eq.symm h
  exact st_ret (gs' := []) Tryz.func102 rfl (List.Sublist.refl _) (Sto.Le.refl _) ⟨rfl, rfl⟩
theorem conf_CheckSender_ok {a0 : Int × Int × Int} {r : Int} (h : conf_CheckSender a0 r) (σ : Sto)  :
    Does Tryz.prog 55 [.agg [.I a0.1, .I a0.2.1, .int .u32 a0.2.2].toArray] σ [] (fun v τ gs => gs = [] ∧ .I r = v) := by
 refine call_of Tryz.func55 Tryz.ntmps55 rfl rfl (fun cs fs => ?_)
 refine Z 2 rfl ?_
 refine o_boxC rfl rfl rfl rfl rfl rfl (fun b1 => ?_)
 refine Z 5 rfl ?_
 refine st_cut (fun ρ τ2 gs => ∃ (s2 : Bool), conf_CheckSender_j1 a0 s2 r ∧ σ.Le τ2 ∧ ESub ρ [(1, .Pb b1), (2, .I 0), (3, .bool s2)] ∧ gs = [[(b1, .cells #[.I a0.1, .I a0.2.1, .int .u32 a0.2.2] 56 (0, 0))]]) ?_ (fun hk2 => ?_)
 ·rintro ρ2 τ2 gs2 ⟨s2, h, hl2, hρ, rfl⟩
  refine st_es hρ ?_
  refine st_if rfl h (fun h => ?_) (fun h => ?_)
  ·refine Z 4 rfl ?_
   refine st_ord [] _ rfl ?_
   obtain rfl := Eq.symm h
   exact st_ret (gs' := []) Tryz.func55 rfl (List.Sublist.refl _) hl2 ⟨rfl, rfl⟩
  ·refine st_seq ?_
   refine st_cut (fun ρ τ3 gs => ∃ (s3 : Bool), conf_CheckSender_j2 s3 r ∧ τ2.Le τ3 ∧ ESub ρ [(2, .I 0), (12, .bool s3)] ∧ gs = []) ?_ (fun hk3 => ?_)
   ·rintro ρ3 τ3 gs3 ⟨s3, h, hl3, hρ, rfl⟩
    refine st_es hρ ?_
    refine st_if rfl h (fun h => ?_) (fun h => ?_)
    ·refine Z 4 rfl ?_
     obtain rfl := Eq.symm h
     exact st_ret (gs' := []) Tryz.func55 rfl (List.Sublist.refl _) (hl2.trans hl3) ⟨rfl, rfl⟩
    ·refine Z 6 rfl ?_
     obtain rfl := Eq.symm h
     exact st_ret (gs' := []) Tryz.func55 rfl (List.Sublist.refl _) (hl2.trans hl3) ⟨rfl, rfl⟩
   refine ZZ 4 [0] rfl rfl ?_
   refine o_mif rfl rfl rfl rfl h (fun h => ?_) (fun h => ?_)
   ·refine Z 6 rfl ?_
    refine st_ord [] _ rfl ?_
    exact hk3 _ _ _ ⟨true, h, (Sto.Le.refl _), rfl, rfl⟩
   ·refine ZZ 6 [0] rfl rfl ?_
    refine st_ord [] _ rfl ?_
    exact hk3 _ _ _ ⟨(decide (257 < a0.2.1)), h, (Sto.Le.refl _), rfl, rfl⟩
 refine ZZ 4 [0] rfl rfl ?_
 refine o_mif rfl rfl rfl rfl h (fun h => ?_) (fun h => ?_)
 ·refine ZZ 6 [0] rfl rfl ?_
  exact hk2 _ _ _ ⟨(!(decide (a0.1 = 2))), h, (Sto.Le.refl _), rfl, rfl⟩
 ·refine Z 6 rfl ?_
  exact hk2 _ _ _ ⟨false, h, (Sto.Le.refl _), rfl, rfl⟩
theorem conf_CheckReceiver_ok {a0 : Int × Int} {r : Int} (h : conf_CheckReceiver a0 r) (σ : Sto)  :
    Does Tryz.prog 56 [.agg [.int .u32 a0.1, .I a0.2].toArray] σ [] (fun v τ gs => gs = [] ∧ .I r = v) := by
 refine call_of Tryz.func56 Tryz.ntmps56 rfl rfl (fun cs fs => ?_)
 refine Z 2 rfl ?_
 refine o_boxC rfl rfl rfl rfl rfl rfl (fun b1 => ?_)
 refine Z 4 rfl ?_
 refine st_cut (fun ρ τ2 gs => ∃ (s2 : Bool), conf_CheckReceiver_j1 s2 r ∧ σ.Le τ2 ∧ ESub ρ [(2, .I 0), (10, .bool s2)] ∧ gs = []) ?_ (fun hk2 => ?_)
 ·rintro ρ2 τ2 gs2 ⟨s2, h, hl2, hρ, rfl⟩
  refine st_es hρ ?_
  refine st_if rfl h (fun h => ?_) (fun h => ?_)
  ·refine Z 4 rfl ?_
   obtain rfl := Eq.symm h
   exact st_ret (gs' := []) Tryz.func56 rfl (List.Sublist.refl _) hl2 ⟨rfl, rfl⟩
  ·refine Z 5 rfl ?_
   obtain rfl := Eq.symm h
   exact st_ret (gs' := []) Tryz.func56 rfl (List.Sublist.refl _) hl2 ⟨rfl, rfl⟩
 refine ZZ 4 [0] rfl rfl ?_
 refine o_mif rfl rfl rfl rfl h (fun h => ?_) (fun h => ?_)
 ·refine Z 5 rfl ?_
  refine st_ord [] _ rfl ?_
  exact hk2 _ _ _ ⟨true, h, (Sto.Le.refl _), rfl, rfl⟩
 ·refine ZZ 5 [0] rfl rfl ?_
  refine st_ord [] _ rfl ?_
  exact hk2 _ _ _ ⟨(decide (16 < a0.2)), h, (Sto.Le.refl _), rfl, rfl⟩
theorem conf_Line_ok {a0 : Int × Int × Int} {a1 : Int × Int} {r : ByteArray} (h : conf_Line a0 a1 r) (σ : Sto) (hT : Tab Tryz.prog σ) :
    Does Tryz.prog 57 [.agg [.I a0.1, .I a0.2.1, .int .u32 a0.2.2].toArray, .agg [.int .u32 a1.1, .I a1.2].toArray] σ [] (fun v τ gs => gs = [] ∧ .string r = v) := by
 refine call_of Tryz.func57 Tryz.ntmps57 rfl rfl (fun cs fs => ?_)
 refine Z 2 rfl ?_
 refine o_boxC rfl rfl rfl rfl rfl rfl (fun b1 => ?_)
 refine o_boxC rfl rfl rfl rfl rfl rfl (fun b2 => ?_)
 refine o_assign rfl rfl rfl (ev_str z_str1) ?_
 refine Z 3 rfl ?_
 refine st_cut (fun ρ τ3 gs => ∃ (s3 : Bool), conf_Line_j1 a0 a1 s3 r ∧ σ.Le τ3 ∧ ESub ρ [(2, .Pb b1), (3, .Pb b2), (4, .E0), (15, .bool s3)] ∧ gs = [[(b1, .cells #[.I a0.1, .I a0.2.1, .int .u32 a0.2.2] 56 (0, 0))], [(b2, .cells #[.int .u32 a1.1, .I a1.2] 58 (0, 0))]]) ?_ (fun hk3 => ?_)
 ·rintro ρ3 τ3 gs3 ⟨s3, h, hl3, hρ, rfl⟩
  refine st_es hρ ?_
  refine st_if rfl h (fun h => ?_) (fun h => ?_)
  ·refine Z 2 rfl ?_
   refine o_assign rfl rfl rfl (ev_str z_str1) ?_
   refine st_end ?_
   refine st_ord [] _ rfl ?_
   obtain rfl := Eq.symm h
   exact st_ret (gs' := []) Tryz.func57 rfl (List.Sublist.refl _) hl3 ⟨rfl, rfl⟩
  ·refine Z 3 rfl ?_
   refine o_assign rfl rfl rfl (ev_str z_str41) ?_
   refine Z 2 rfl ?_
   refine st_cut (fun ρ τ4 gs => ∃ (s4 : ByteArray), conf_Line_j2 s4 r ∧ τ3.Le τ4 ∧ ESub ρ [(4, .E0), (5, .string s4)] ∧ gs = []) ?_ (fun hk4 => ?_)
   ·rintro ρ4 τ4 gs4 ⟨s4, h, hl4, hρ, rfl⟩
    refine st_es hρ ?_
    refine Z 5 rfl ?_
    obtain rfl := Eq.symm h
    exact st_ret (gs' := []) Tryz.func57 rfl (List.Sublist.refl _) (hl3.trans hl4) ⟨rfl, rfl⟩
   refine ZZ 14 [0, 0, 0, 1, 1] rfl rfl ?_
   refine o_buildA (ps := [(0, [.I a0.1]), (1, [.I a0.2.1]), (2, [.I (IntKind.i64.wrap a0.2.2)]), (3, [.I (IntKind.i64.wrap a1.1)]), (4, [.I a1.2])]) (cs := [.I a0.1, .I a0.2.1, .I (IntKind.i64.wrap a0.2.2), .I (IntKind.i64.wrap a1.1), .I a1.2]) rfl rfl rfl z_arrz157 ⟨rfl, ⟨_, rfl, rfl⟩, ⟨rfl, ⟨_, rfl, rfl⟩, ⟨rfl, ⟨_, rfl, rfl⟩, ⟨rfl, ⟨_, rfl, rfl⟩, ⟨rfl, ⟨_, rfl, rfl⟩, trivial⟩⟩⟩⟩⟩ (fill_all [.I a0.1, .I a0.2.1, .I (IntKind.i64.wrap a0.2.2), .I (IntKind.i64.wrap a1.1), .I a1.2] _ rfl) ?_
   refine Z 2 rfl ?_
   obtain ⟨e5, hL5, hA5⟩ := h
   refine st_ord [] _ rfl ?_
   refine st_loop hL5 (fun (s5 : ByteArray × Int) ρ τ5 gs => τ3.Le τ5 ∧ ESub ρ [(4, .E0), (5, .string s5.1), (28, .agg #[.I a0.1, .I a0.2.1, .I (IntKind.i64.wrap a0.2.2), .I (IntKind.i64.wrap a1.1), .I a1.2]), (29, .I s5.2)] ∧ gs = []) ⟨Sto.Le.refl _, rfl, rfl⟩ ?_
   rintro s5 o5 h he5 ρ5 τ5 gs5 ⟨hl5, hρ, rfl⟩ hn5
   refine st_es hρ ?_
   refine Z 5 rfl ?_
   refine st_if rfl h (fun h => ?_) (fun h => ?_)
   ·refine Z 5 rfl ?_
    obtain ⟨hf6, hf7, h⟩ := h
    refine o_indexV (f := (Value.int .i64)) (zz := 0) (l := 5) (xs := [a0.1, a0.2.1, (IntKind.i64.wrap a0.2.2), (IntKind.i64.wrap a1.1), a1.2]) (cs := [.I a0.1, .I a0.2.1, .I (IntKind.i64.wrap a0.2.2), .I (IntKind.i64.wrap a1.1), .I a1.2]) rfl rfl rfl z_arr157 z_sc3 rfl rfl rfl hf6 hf7 ?_
    refine Z 5 rfl ?_
    obtain ⟨r8, hr9, h⟩ := h
    refine st_call (foot := []) rfl rfl rfl rfl rfl rfl (callV_fn z_en34 (say_Number_ok hr9 τ5 (hT.up (hl3.trans hl5)))) ?_
    rintro vτ10 τ10 gsτ10 hl11 ⟨rfl, rfl⟩
    obtain ⟨hf12, h⟩ := h
    refine o_sadd rfl rfl rfl (ev_str z_str0) rfl hf12 ?_
    obtain ⟨hf13, h⟩ := h
    refine o_sadd rfl rfl rfl rfl rfl hf13 ?_
    refine Z 7 rfl ?_
    exact hn5 _ _ _ _ h ⟨(hl5.trans hl11), rfl, rfl⟩
   ·refine st_exit rfl ?_
    obtain rfl := he5 _ h
    replace h := hA5
    exact hk4 _ _ _ ⟨s5.1, h, hl5, rfl, rfl⟩
 refine ZZ 2 [1] rfl rfl ?_
 obtain ⟨r15, hr16, h⟩ := h
 refine st_call (foot := []) rfl rfl rfl rfl rfl rfl (callV_fn z_en55 (conf_CheckSender_ok hr16 σ)) ?_
 rintro vτ17 τ17 gsτ17 hl18 ⟨rfl, rfl⟩
 refine o_ibin (v := .bool (!(decide (r15 = 0)))) rfl rfl rfl rfl rfl rfl ?_
 refine o_mif rfl rfl rfl rfl h (fun h => ?_) (fun h => ?_)
 ·refine Z 5 rfl ?_
  refine st_ord [1, 0] _ rfl ?_
  exact hk3 _ _ _ ⟨true, h, hl18, rfl, rfl⟩
 ·refine ZZ 1 [0] rfl rfl ?_
  obtain ⟨r19, hr20, h⟩ := h
  refine st_call (foot := []) rfl rfl rfl rfl rfl rfl (callV_fn z_en56 (conf_CheckReceiver_ok hr20 τ17)) ?_
  rintro vτ21 τ21 gsτ21 hl22 ⟨rfl, rfl⟩
  refine Z 3 rfl ?_
  refine st_ord [1, 0] _ rfl ?_
  exact hk3 _ _ _ ⟨(!(decide (r19 = 0))), h, (hl18.trans hl22), rfl, rfl⟩
theorem strings_Join_ok {a0 : List ByteArray} {a1 : ByteArray} {v1 : Value} {r : ByteArray} (h : strings_Join a0 a1 r) (σ : Sto) (hs2 : Sl kS σ v1 a0) :
    Does Tryz.prog 104 [v1, .string a1] σ [] (fun v τ gs => gs = [] ∧ .string r = v) := by
 obtain ⟨h1, h2, rfl⟩ := h
 exact join_does Tryz.strings_Join_none Tryz.strings_Join hs2 h1 h2
theorem say_hex_ok {a0 : ByteArray} {r : ByteArray} (h : say_hex a0 r) (σ : Sto)  :
    Does Tryz.prog 105 [.string a0] σ [] (fun v τ gs => gs = [] ∧ .string r = v) := by
 refine call_of Tryz.func105 Tryz.ntmps105 rfl rfl (fun cs fs => ?_)
 refine Z 2 rfl ?_
 refine o_assign rfl rfl rfl (ev_str z_str1) ?_
 refine Z 5 rfl ?_
 refine o_sbin (v := .bool (decide (a0 = (bstr [])))) rfl rfl rfl rfl (ev_str z_str1) rfl ?_
 refine st_end ?_
 refine st_if rfl h (fun h => ?_) (fun h => ?_)
 ·refine Z 2 rfl ?_
  refine o_assign rfl rfl rfl (ev_str z_str33) ?_
  refine st_end ?_
  obtain rfl := Eq.symm h
  exact st_ret (gs' := []) Tryz.func105 rfl (List.Sublist.refl _) (Sto.Le.refl _) ⟨rfl, rfl⟩
 ·refine Z 6 rfl ?_
  refine st_cut (fun ρ τ1 gs => ∃ (s1 : List Int) (v2 : Value) (g3 : Grp), say_hex_j1 s1 r ∧ σ.Le τ1 ∧ ESub ρ [(2, .E0), (3, v2)] ∧ gs = [g3] ∧ Ow (kI .u8) 5 τ1 v2 s1 g3) ?_ (fun hk1 => ?_)
  ·rintro ρ1 τ1 gs1 ⟨s1, v2, g3, h, hl1, hρ, rfl, ho4⟩
   refine st_es hρ ?_
   refine Z 3 rfl ?_
   refine st_freeze (fun τ5 hl6 hg7 => ?_)
   have hs8 := ho4.freeze hl6 hg7
   refine o_bstr (xs := s1) rfl rfl rfl Tryz.underlying27 Tryz.underlying5 Tryz.underlying9 rfl hs8 ?_
   refine Z 2 rfl ?_
   obtain rfl := Eq.symm h
   exact st_ret (gs' := []) Tryz.func105 rfl (List.Sublist.refl _) (hl1.trans hl6) ⟨rfl, rfl⟩
  refine Z 3 rfl ?_
  obtain ⟨hf14, h⟩ := h
  refine o_bytes rfl rfl rfl Tryz.underlying9 Tryz.underlying27 Tryz.underlying5 rfl hf14 (fun v10 τ11 hl12 hs13 => ?_)
  refine o_lenI rfl rfl rfl z_slT27 rfl hs13 ?_
  refine Z 2 rfl ?_
  obtain ⟨e15, hL15, hA15⟩ := h
  refine st_addNil ?_
  refine st_loop hL15 (fun (s15 : List Int × Int) ρ τ15 gs => τ11.Le τ15 ∧ ∃ (v16 : Value) (g17 : Grp), ESub ρ [(2, .E0), (3, v16), (9, v10), (10, .I ((bints a0).length : Int)), (11, .I s15.2)] ∧ gs = [g17] ∧ Ow (kI .u8) 5 τ15 v16 s15.1 g17) ⟨Sto.Le.refl _, _, _, rfl, rfl, Ow.nil⟩ ?_
  rintro s15 o15 h he15 ρ15 τ15 gs15 ⟨hl15, v16, g17, hρ, rfl, ho18⟩ hn15
  refine st_es hρ ?_
  refine Z 5 rfl ?_
  refine st_if rfl h (fun h => ?_) (fun h => ?_)
  ·refine Z 5 rfl ?_
   obtain ⟨q19, hf20, h⟩ := h
   refine o_index rfl rfl rfl z_slT27 rfl rfl (hs13.up hl15) rfl hf20 (fun b21 of22 vs hc23 hrep => ?_)
   obtain rfl := hrep
   refine o_loadI (v := .int .u8 q19) rfl rfl rfl z_sc5 rfl (hc23 0 _ rfl) ?_
   refine Z 2 rfl ?_
   obtain ⟨q24, hf25, q26, hf27, hf38, hf39, h⟩ := h
   refine st_d41 [] [g17] 9 1 [none, none, none, none, none, none, none, none, some (0, 0)] [none, none, none, none, none, none, none, none, none] [[none, some 23]] [.v (v16), .v (.int .u8 q19), .v (.int .u8 (ishr .u8 q19 4)), .v (.int .u8 q24), .v (.int .u8 q19), .v (.int .u8 (iand .u8 q19 15)), .v (.int .u8 q26), .t fun τ v => ∃ (v28 : Value), (v28 : Value) = v ∧ Sl (kI .u8) τ v28 [q24, q26], .t fun _ _ => True] [[fun τ u F => F = [g17], fun τ u F => ∃ (v40 : Value) (g41 : Grp), F = [g41] ∧ v40 = u ∧ Ow (kI .u8) 5 τ v40 (s15.1 ++ [q24, q26]) g41]] rfl z_mix rfl ⟨fun _ _ _ hl ⟨v28, hv, hs34⟩ => ⟨v28, hv, hs34.up hl⟩, ⟨fun _ _ _ _ _ => trivial, trivial⟩⟩ ⟨⟨fun _ _ _ _ hl h => h, ⟨fun _ _ _ _ hl h => (let ⟨v40, g41, hF, hU, ho42⟩ := h; ⟨v40, g41, hF, hU, ho42.up hl⟩), trivial⟩⟩, trivial⟩ rfl rfl ?_ (allB_cons (allB_cons (allB_cons (allB_cons (allB_cons (allB_cons (allB_cons (allB_cons (allB_cons allB_nil (p4 dA)) (p4 dA)) (p4 dA)) ?_) (p4 dA)) (p4 dA)) ?_) ?_) ?_) ?_
   ·exact rfl
   ·intro ρ' τ pool rs hl hd hout hw hk
    obtain ⟨_, e2, rfl⟩ := hd 2 rfl _ rfl
    refine o_indexS rfl rfl rfl Tryz.underlying9 (ev_str z_str36) e2 hf25 ?_
    exact hk _ _ (Sto.Le.refl _) rfl
   ·intro ρ' τ pool rs hl hd hout hw hk
    obtain ⟨_, e5, rfl⟩ := hd 5 rfl _ rfl
    refine o_indexS rfl rfl rfl Tryz.underlying9 (ev_str z_str36) e5 hf27 ?_
    exact hk _ _ (Sto.Le.refl _) rfl
   ·intro ρ' τ pool rs hl hd hout hw hk
    obtain ⟨_, e3, rfl⟩ := hd 3 rfl _ rfl
    obtain ⟨_, e6, rfl⟩ := hd 6 rfl _ rfl
    refine o_litE (eI .u8) [q24, q26] rfl rfl rfl z_slT27 z_zero5 ⟨rfl, ⟨_, e3, rfl⟩, ⟨rfl, ⟨_, e6, rfl⟩, trivial⟩⟩ rfl rfl rfl rfl (fun v28 g29 ho30 => ?_)
    refine st_freeze (fun τ31 hl32 hg33 => ?_)
    have hs34 := ho30.freeze hl32 hg33
    exact hk _ _ hl32 ⟨v28, rfl, hs34⟩
   ·intro ρ' τ u Fv pool rs hl hI hu hd hout hw hk
    obtain ⟨_, e0, rfl⟩ := hd 0 rfl _ rfl
    obtain ⟨_, e7, v28, rfl, hs34⟩ := hd 7 rfl _ rfl
    have hI0 := hI
    obtain rfl := hI
    refine o_append (dk := (kI .u8)) (xs := s15.1) (ys := [q24, q26]) rfl rfl rfl rfl z_slT27 e0 (ho18.up hl) e7 (Sl.src hs34) hf38 hf39 (fun v35 g36 ho37 => ?_)
    exact hk _ _ [g36] (Sto.Le.refl _) trivial (by exact ⟨v35, g36, rfl, rfl, ho37⟩)
   intro ρ' τ43 vals u Fv hl43 hI hu hv hout
   obtain ⟨v40, g41, rfl, rfl, ho42⟩ := hI
   refine st_env (ρ' := [(2, .E0), (9, v10), (10, .I ((bints a0).length : Int)), (11, .I s15.2), (23, v40)]) ⟨(hout 2 rfl).trans rfl, (hout 9 rfl).trans rfl, (hout 10 rfl).trans rfl, (hout 11 rfl).trans rfl, (by exact hu _ rfl), trivial⟩ ?_
   refine Z 7 rfl ?_
   exact hn15 _ _ _ _ h ⟨(hl15.trans hl43), _, _, rfl, rfl, ho42⟩
  ·refine st_exit rfl ?_
   obtain rfl := he15 _ h
   replace h := hA15
   exact hk1 _ _ _ ⟨s15.1, _, _, h, (hl12.trans hl15), rfl, rfl, ho18⟩
theorem say_value_ok {a0 : TyM} {a1 : TyA} {v1 : Value} {v2 : Value} {r : ByteArray} (h : say_value a0 a1 r) (σ : Sto) (hs3 : Sl (kP (kI .i64) (kI .i64)) σ v1 a0.2.2.1) (hs4 : Sl (kI .i64) σ v2 a0.2.2.2.1) (hT : Tab Tryz.prog σ) :
    Does Tryz.prog 73 [.agg (lM a0 v1 v2).toArray, .agg (lA a1).toArray] σ [] (fun v τ gs => gs = [] ∧ .string r = v) := by
 refine call_of Tryz.func73 Tryz.ntmps73 rfl rfl (fun cs fs => ?_)
 refine Z 2 rfl ?_
 refine o_box (cs := (lM a0 v1 v2)) rfl rfl rfl rfl rfl (fun b5 => ?_)
 refine o_boxC rfl rfl rfl rfl rfl rfl (fun b6 => ?_)
 refine o_assign rfl rfl rfl (ev_str z_str1) ?_
 refine ZZ 17 [0] rfl rfl ?_
 refine st_if rfl h (fun h => ?_) (fun h => ?_)
 ·refine st_seq ?_
  refine st_cut (fun ρ τ7 gs => ∃ (s7 : List ByteArray) (v8 : Value) (g9 : Grp), say_value_j1 s7 r ∧ σ.Le τ7 ∧ ESub ρ [(2, .Pb b5), (3, .Pb b6), (4, .E0), (5, v8)] ∧ gs = [[(b5, .cells (lM a0 v1 v2).toArray 26 (0, 0))], [(b6, .cells (lA a1).toArray 139 (0, 0))], g9] ∧ Ow kS 9 τ7 v8 s7 g9) ?_ (fun hk7 => ?_)
  ·rintro ρ7 τ7 gs7 ⟨s7, v8, g9, h, hl7, hρ, rfl, ho10⟩
   refine st_es hρ ?_
   refine Z 3 rfl ?_
   obtain ⟨r16, hr17, h⟩ := h
   refine st_ord [2, 0, 0] _ rfl ?_
   refine st_freeze (fun τ11 hl12 hg13 => ?_)
   have hs14 := ho10.freeze hl12 hg13
   refine st_call (foot := []) rfl rfl rfl rfl (evs_cons rfl (evs_cons (ev_str z_str31) rfl)) rfl (callV_fn z_en104 (strings_Join_ok hr17 τ11 hs14)) ?_
   rintro vτ18 τ18 gsτ18 hl19 ⟨rfl, rfl⟩
   refine Z 2 rfl ?_
   refine st_ord [] _ rfl ?_
   obtain rfl := Eq.symm h
   exact st_ret (gs' := []) Tryz.func73 rfl (List.Sublist.refl _) ((hl7.trans hl12).trans hl19) ⟨rfl, rfl⟩
  refine ZZ 4 [1] rfl rfl ?_
  refine o_lenI rfl rfl rfl z_slT23 rfl hs3 ?_
  refine Z 2 rfl ?_
  obtain ⟨e20, hL20, hA20⟩ := h
  refine st_addNil ?_
  refine st_ord [2, 1, 0] _ rfl ?_
  refine st_loop hL20 (fun (s20 : List ByteArray × Int) ρ τ20 gs => σ.Le τ20 ∧ ∃ (v21 : Value) (g22 : Grp), ESub ρ [(2, .Pb b5), (3, .Pb b6), (4, .E0), (5, v21), (15, v1), (16, .I (a0.2.2.1.length : Int)), (17, .I s20.2)] ∧ gs = [[(b5, .cells (lM a0 v1 v2).toArray 26 (0, 0))], [(b6, .cells (lA a1).toArray 139 (0, 0))], g22] ∧ Ow kS 9 τ20 v21 s20.1 g22) ⟨Sto.Le.refl _, _, _, rfl, rfl, Ow.nil⟩ ?_
  rintro s20 o20 h he20 ρ20 τ20 gs20 ⟨hl20, v21, g22, hρ, rfl, ho23⟩ hn20
  refine st_es hρ ?_
  refine Z 5 rfl ?_
  refine st_if rfl h (fun h => ?_) (fun h => ?_)
  ·refine Z 5 rfl ?_
   obtain ⟨q24, hf25, h⟩ := h
   refine o_index rfl rfl rfl z_slT23 rfl rfl (hs3.up hl20) rfl hf25 (fun b26 of27 vs hc28 hrep => ?_)
   obtain ⟨_, _, rfl, rfl, rfl⟩ := hrep
   refine o_loadIN (vs := [.I q24.1, .I q24.2]) rfl rfl rfl z_agg149 rfl rfl (celn_part 0 rfl hc28) ?_
   refine o_alloc rfl rfl rfl z_zero149 (fun b29 => ?_)
   refine ZZ 2 [0] rfl rfl ?_
   obtain ⟨r30, hr31, hf34, r35, hr36, hf39, hf50, hf51, h⟩ := h
   refine st_d41 [[(b29, .cells #[.I q24.1, .I q24.2] 149 (0, 0))], [(b5, .cells (lM a0 v1 v2).toArray 26 (0, 0))], [(b6, .cells (lA a1).toArray 139 (0, 0))]] [g22] 11 1 [none, none, none, none, none, none, none, none, none, none, some (0, 0)] [none, none, none, none, none, none, none, none, none, none, none] [[none, some 31]] [.v (v21), .v (.Pb b29), .v (.I q24.1), .v (.string r30), .v (.string (r30 ++ (bstr [44]))), .v (.pointer (some ⟨b29, 1, none⟩)), .v (.I q24.2), .v (.string r35), .v (.string ((r30 ++ (bstr [44])) ++ r35)), .t fun τ v => ∃ (v40 : Value), (v40 : Value) = v ∧ Sl kS τ v40 [((r30 ++ (bstr [44])) ++ r35)], .t fun _ _ => True] [[fun τ u F => F = [g22], fun τ u F => ∃ (v52 : Value) (g53 : Grp), F = [g53] ∧ v52 = u ∧ Ow kS 9 τ v52 (s20.1 ++ [((r30 ++ (bstr [44])) ++ r35)]) g53]] rfl z_mix rfl ⟨fun _ _ _ hl ⟨v40, hv, hs46⟩ => ⟨v40, hv, hs46.up hl⟩, ⟨fun _ _ _ _ _ => trivial, trivial⟩⟩ ⟨⟨fun _ _ _ _ hl h => h, ⟨fun _ _ _ _ hl h => (let ⟨v52, g53, hF, hU, ho54⟩ := h; ⟨v52, g53, hF, hU, ho54.up hl⟩), trivial⟩⟩, trivial⟩ rfl rfl ?_ (allB_cons (allB_cons (allB_cons (allB_cons (allB_cons (allB_cons (allB_cons (allB_cons (allB_cons (allB_cons (allB_cons allB_nil (p4 dA)) (p4 dA)) ?_) ?_) ?_) (p4 dA)) ?_) ?_) ?_) ?_) ?_) ?_
   ·exact rfl
   ·intro ρ' τ pool rs hl hd hout hw hk
    obtain ⟨_, e1, rfl⟩ := hd 1 rfl _ rfl
    refine o_load (j := 0) (v := .I q24.1) rfl rfl rfl z_sc3 e1 rfl rfl ?_
    exact hk _ _ (Sto.Le.refl _) rfl
   ·intro ρ' τ pool rs hl hd hout hw hk
    obtain ⟨_, e2, rfl⟩ := hd 2 rfl _ rfl
    refine st_call (foot := []) rfl rfl rfl rfl (evs_cons e2 rfl) rfl (callV_fn z_en34 (say_Number_ok hr31 τ (hT.up (hl20.trans hl)))) ?_
    rintro vτ32 τ32 gsτ32 hl33 ⟨rfl, rfl⟩
    exact hk _ _ hl33 rfl
   ·intro ρ' τ pool rs hl hd hout hw hk
    obtain ⟨_, e3, rfl⟩ := hd 3 rfl _ rfl
    refine o_sadd rfl rfl rfl e3 (ev_str z_str32) hf34 ?_
    exact hk _ _ (Sto.Le.refl _) rfl
   ·intro ρ' τ pool rs hl hd hout hw hk
    obtain ⟨_, e5, rfl⟩ := hd 5 rfl _ rfl
    refine o_load (j := 0) (v := .I q24.2) rfl rfl rfl z_sc3 e5 rfl rfl ?_
    exact hk _ _ (Sto.Le.refl _) rfl
   ·intro ρ' τ pool rs hl hd hout hw hk
    obtain ⟨_, e6, rfl⟩ := hd 6 rfl _ rfl
    refine st_call (foot := []) rfl rfl rfl rfl (evs_cons e6 rfl) rfl (callV_fn z_en34 (say_Number_ok hr36 τ (hT.up (hl20.trans hl)))) ?_
    rintro vτ37 τ37 gsτ37 hl38 ⟨rfl, rfl⟩
    exact hk _ _ hl38 rfl
   ·intro ρ' τ pool rs hl hd hout hw hk
    obtain ⟨_, e4, rfl⟩ := hd 4 rfl _ rfl
    obtain ⟨_, e7, rfl⟩ := hd 7 rfl _ rfl
    refine o_sadd rfl rfl rfl e4 e7 hf39 ?_
    exact hk _ _ (Sto.Le.refl _) rfl
   ·intro ρ' τ pool rs hl hd hout hw hk
    obtain ⟨_, e8, rfl⟩ := hd 8 rfl _ rfl
    refine o_litE eS [((r30 ++ (bstr [44])) ++ r35)] rfl rfl rfl z_slT67 z_zero9 ⟨rfl, ⟨_, e8, rfl⟩, trivial⟩ rfl rfl rfl rfl (fun v40 g41 ho42 => ?_)
    refine st_freeze (fun τ43 hl44 hg45 => ?_)
    have hs46 := ho42.freeze hl44 hg45
    exact hk _ _ hl44 ⟨v40, rfl, hs46⟩
   ·intro ρ' τ u Fv pool rs hl hI hu hd hout hw hk
    obtain ⟨_, e0, rfl⟩ := hd 0 rfl _ rfl
    obtain ⟨_, e9, v40, rfl, hs46⟩ := hd 9 rfl _ rfl
    have hI0 := hI
    obtain rfl := hI
    refine st_ord [3, 0, 0, 0, 0] _ rfl ?_
    refine o_append (dk := kS) (xs := s20.1) (ys := [((r30 ++ (bstr [44])) ++ r35)]) rfl rfl rfl rfl z_slT67 e0 (ho23.up hl) e9 (Sl.src hs46) hf50 hf51 (fun v47 g48 ho49 => ?_)
    refine st_ord [1, 1, 1, 0, 0] _ rfl ?_
    exact hk _ _ [g48] (Sto.Le.refl _) trivial (by exact ⟨v47, g48, rfl, rfl, ho49⟩)
   intro ρ' τ55 vals u Fv hl55 hI hu hv hout
   obtain ⟨v52, g53, rfl, rfl, ho54⟩ := hI
   refine st_env (ρ' := [(2, .Pb b5), (3, .Pb b6), (4, .E0), (15, v1), (16, .I (a0.2.2.1.length : Int)), (17, .I s20.2), (31, v52)]) ⟨(hout 2 rfl).trans rfl, (hout 3 rfl).trans rfl, (hout 4 rfl).trans rfl, (hout 15 rfl).trans rfl, (hout 16 rfl).trans rfl, (hout 17 rfl).trans rfl, (by exact hu _ rfl), trivial⟩ ?_
   refine Z 7 rfl ?_
   refine st_ord [1, 1, 1] _ rfl ?_
   exact hn20 _ _ _ _ h ⟨(hl20.trans hl55), _, _, rfl, rfl, ho54⟩
  ·refine st_exit rfl ?_
   obtain rfl := he20 _ h
   replace h := hA20
   exact hk7 _ _ _ ⟨s20.1, _, _, h, hl20, rfl, rfl, ho23⟩
 ·refine Z 5 rfl ?_
  refine st_if rfl h (fun h => ?_) (fun h => ?_)
  ·refine st_seq ?_
   refine st_cut (fun ρ τ57 gs => ∃ (s57 : List ByteArray) (v58 : Value) (g59 : Grp), say_value_j3 s57 r ∧ σ.Le τ57 ∧ ESub ρ [(2, .Pb b5), (3, .Pb b6), (4, .E0), (5, v58)] ∧ gs = [[(b5, .cells (lM a0 v1 v2).toArray 26 (0, 0))], [(b6, .cells (lA a1).toArray 139 (0, 0))], g59] ∧ Ow kS 9 τ57 v58 s57 g59) ?_ (fun hk57 => ?_)
   ·rintro ρ57 τ57 gs57 ⟨s57, v58, g59, h, hl57, hρ, rfl, ho60⟩
    refine st_es hρ ?_
    refine Z 3 rfl ?_
    obtain ⟨r66, hr67, h⟩ := h
    refine st_ord [2, 0, 0] _ rfl ?_
    refine st_freeze (fun τ61 hl62 hg63 => ?_)
    have hs64 := ho60.freeze hl62 hg63
    refine st_call (foot := []) rfl rfl rfl rfl (evs_cons rfl (evs_cons (ev_str z_str32) rfl)) rfl (callV_fn z_en104 (strings_Join_ok hr67 τ61 hs64)) ?_
    rintro vτ68 τ68 gsτ68 hl69 ⟨rfl, rfl⟩
    refine Z 2 rfl ?_
    refine st_ord [] _ rfl ?_
    obtain rfl := Eq.symm h
    exact st_ret (gs' := []) Tryz.func73 rfl (List.Sublist.refl _) ((hl57.trans hl62).trans hl69) ⟨rfl, rfl⟩
   refine ZZ 4 [1] rfl rfl ?_
   refine o_lenI rfl rfl rfl z_slT24 rfl hs4 ?_
   refine Z 2 rfl ?_
   obtain ⟨e70, hL70, hA70⟩ := h
   refine st_addNil ?_
   refine st_ord [2, 1, 0] _ rfl ?_
   refine st_loop hL70 (fun (s70 : List ByteArray × Int) ρ τ70 gs => σ.Le τ70 ∧ ∃ (v71 : Value) (g72 : Grp), ESub ρ [(2, .Pb b5), (3, .Pb b6), (4, .E0), (5, v71), (38, v2), (39, .I (a0.2.2.2.1.length : Int)), (40, .I s70.2)] ∧ gs = [[(b5, .cells (lM a0 v1 v2).toArray 26 (0, 0))], [(b6, .cells (lA a1).toArray 139 (0, 0))], g72] ∧ Ow kS 9 τ70 v71 s70.1 g72) ⟨Sto.Le.refl _, _, _, rfl, rfl, Ow.nil⟩ ?_
   rintro s70 o70 h he70 ρ70 τ70 gs70 ⟨hl70, v71, g72, hρ, rfl, ho73⟩ hn70
   refine st_es hρ ?_
   refine Z 5 rfl ?_
   refine st_if rfl h (fun h => ?_) (fun h => ?_)
   ·refine Z 5 rfl ?_
    obtain ⟨q74, hf75, h⟩ := h
    refine o_index rfl rfl rfl z_slT24 rfl rfl (hs4.up hl70) rfl hf75 (fun b76 of77 vs hc78 hrep => ?_)
    obtain rfl := hrep
    refine o_loadI (v := .I q74) rfl rfl rfl z_sc3 rfl (hc78 0 _ rfl) ?_
    refine Z 5 rfl ?_
    obtain ⟨r79, hr80, h⟩ := h
    refine st_call (foot := []) rfl rfl rfl rfl rfl rfl (callV_fn z_en34 (say_Number_ok hr80 τ70 (hT.up hl70))) ?_
    rintro vτ81 τ81 gsτ81 hl82 ⟨rfl, rfl⟩
    refine o_litE eS [r79] rfl rfl rfl z_slT67 z_zero9 ⟨rfl, ⟨_, rfl, rfl⟩, trivial⟩ rfl rfl rfl rfl (fun v83 g84 ho85 => ?_)
    obtain ⟨hf89, hf90, h⟩ := h
    refine st_ord [3, 0, 0, 0] _ rfl ?_
    refine o_append (dk := kS) (xs := s70.1) (ys := [r79]) rfl rfl rfl rfl z_slT67 rfl (ho73.up hl82) rfl (Ow.src (j := 1) ho85 rfl) hf89 hf90 (fun v86 g87 ho88 => ?_)
    refine Z 7 rfl ?_
    refine st_ord [2, 2, 0] _ rfl ?_
    exact hn70 _ _ _ _ h ⟨(hl70.trans hl82), _, _, rfl, rfl, ho88⟩
   ·refine st_exit rfl ?_
    obtain rfl := he70 _ h
    replace h := hA70
    exact hk57 _ _ _ ⟨s70.1, _, _, h, hl70, rfl, rfl, ho73⟩
  ·refine Z 5 rfl ?_
   refine st_if rfl h (fun h => ?_) (fun h => ?_)
   ·refine ZZ 4 [1] rfl rfl ?_
    obtain ⟨r92, hr93, h⟩ := h
    refine st_call (foot := []) rfl rfl rfl rfl rfl rfl (callV_fn z_en105 (say_hex_ok hr93 σ)) ?_
    rintro vτ94 τ94 gsτ94 hl95 ⟨rfl, rfl⟩
    refine Z 2 rfl ?_
    refine st_ord [] _ rfl ?_
    obtain rfl := Eq.symm h
    exact st_ret (gs' := []) Tryz.func73 rfl (List.Sublist.refl _) hl95 ⟨rfl, rfl⟩
   ·refine Z 5 rfl ?_
    refine st_if rfl h (fun h => ?_) (fun h => ?_)
    ·refine ZZ 4 [1] rfl rfl ?_
     obtain ⟨r96, hr97, h⟩ := h
     refine st_call (foot := []) rfl rfl rfl rfl rfl rfl (callV_fn z_en105 (say_hex_ok hr97 σ)) ?_
     rintro vτ98 τ98 gsτ98 hl99 ⟨rfl, rfl⟩
     refine Z 2 rfl ?_
     refine st_ord [] _ rfl ?_
     obtain rfl := Eq.symm h
     exact st_ret (gs' := []) Tryz.func73 rfl (List.Sublist.refl _) hl99 ⟨rfl, rfl⟩
    ·refine ZZ 7 [0] rfl rfl ?_
     obtain ⟨hf100, hf101, h⟩ := h
     refine o_indexA rfl rfl rfl z_arr22 rfl rfl hf100 hf101 ?_
     refine o_loadV (j := 1) (a1.2.2.1.toNat) (f := (Value.int .i64)) (zz := 0) (l := 6) (xs := a0.2.1) [.I a0.1] [v1, v2, .string a0.t4.1, .string a0.t4.2] rfl rfl rfl z_sc3 rfl rfl (by simp only [List.length_cons, List.length_nil] <;> omega) (by omega) ?_
     obtain ⟨r102, hr103, h⟩ := h
     refine st_call (foot := []) rfl rfl rfl rfl rfl rfl (callV_fn z_en34 (say_Number_ok hr103 σ hT)) ?_
     rintro vτ104 τ104 gsτ104 hl105 ⟨rfl, rfl⟩
     refine Z 2 rfl ?_
     refine st_ord [] _ rfl ?_
     obtain rfl := Eq.symm h
     exact st_ret (gs' := []) Tryz.func73 rfl (List.Sublist.refl _) hl105 ⟨rfl, rfl⟩
theorem say_Line_ok {a0 : TyM} {v1 : Value} {v2 : Value} {r : ByteArray} (h : say_Line a0 r) (σ : Sto) (hs3 : Sl (kP (kI .i64) (kI .i64)) σ v1 a0.2.2.1) (hs4 : Sl (kI .i64) σ v2 a0.2.2.2.1) (hT : Tab Tryz.prog σ) :
    Does Tryz.prog 32 [.agg (lM a0 v1 v2).toArray] σ [] (fun v τ gs => gs = [] ∧ .string r = v) := by
 refine call_of Tryz.func32 Tryz.ntmps32 rfl rfl (fun cs fs => ?_)
 refine Z 2 rfl ?_
 refine o_box (cs := (lM a0 v1 v2)) rfl rfl rfl rfl rfl (fun b5 => ?_)
 refine o_assign rfl rfl rfl (ev_str z_str1) ?_
 refine ZZ 5 [0] rfl rfl ?_
 obtain ⟨r6, hr7, h⟩ := h
 refine st_call (foot := []) rfl rfl rfl rfl rfl rfl (callV_fn z_en41 (msg_Check_ok hr7 σ hs3 hs4)) ?_
 rintro vτ8 τ8 gsτ8 hl9 ⟨rfl, rfl⟩
 refine Z 2 rfl ?_
 refine st_if rfl h (fun h => ?_) (fun h => ?_)
 ·refine Z 2 rfl ?_
  refine o_assign rfl rfl rfl (ev_str z_str1) ?_
  refine st_end ?_
  refine st_ord [] _ rfl ?_
  obtain rfl := Eq.symm h
  exact st_ret (gs' := []) Tryz.func32 rfl (List.Sublist.refl _) hl9 ⟨rfl, rfl⟩
 ·refine ZZ 5 [0] rfl rfl ?_
  obtain ⟨r10, hr11, h⟩ := h
  refine st_call (foot := []) rfl rfl rfl rfl rfl rfl (callV_fn z_en71 (field_Word_ok hr11 τ8)) ?_
  rintro vτ12 τ12 gsτ12 hl13 ⟨rfl, rfl⟩
  refine o_alloc rfl rfl rfl z_zero9 (fun b14 => ?_)
  refine ZZ 7 [0, 1] rfl rfl ?_
  obtain ⟨r15, hr16, h⟩ := h
  refine st_call (foot := []) rfl rfl rfl rfl rfl rfl (callV_fn z_en72 (field_All_ok hr16 τ12)) ?_
  rintro vτ17 τ17 gsτ17 hl18 ⟨f19, q20, rfl, rfl, hit21⟩
  refine Z 2 rfl ?_
  obtain ⟨t22, w22, hR22, hA22⟩ := h
  refine st_env (ρ' := [(1, .Pb b5), (2, .E0), (3, .Pb b14), (13, .func (.func f19) #[] q20)]) ⟨rfl, rfl, rfl, rfl, trivial⟩ ?_
  refine st_ord [1, 0] _ rfl ?_
  refine st_addNil ?_
  refine st_range (B := say_Line_l1 a0) (s0 := r10) ranges_fctx rfl hit21 (Sto.Le.refl _) hR22 rfl (fun _ _ _ h => by cases h; rfl) (fun (s22 : ByteArray) τ22 gs => τ17.Le τ22 ∧ gs = [[(b5, .cells (lM a0 v1 v2).toArray 26 (0, 0))], [(b14, .cells #[.string s22] 9 (0, 0))]]) (fun _ _ _ _ => False) (fun _ _ _ _ hl ⟨hb, hg⟩ => ⟨hb.trans hl, hg⟩) (fun _ _ _ _ _ _ h => h.elim) ⟨Sto.Le.refl _, rfl⟩ ?_ ?_ ?_
  ·rintro x22 s22 o22 τ22 gs22 vx22 hl22 h rfl ⟨hb22, rfl⟩ l22 rc22 caller22 cs22 fs22
   refine st_region ?_
   refine o_alloc rfl rfl rfl z_zero139 (fun b23 => ?_)
   refine ZZ 2 [0] rfl rfl ?_
   refine st_begin ?_
   refine st_block ?_
   obtain ⟨hf24, hf25, r26, hr27, hf30, hf31, h⟩ := h
   refine st_draw 10 (dl [.v (.string s22), .v (.Pb b23), .v (.string x22.1), .v (.string ((bstr [32]) ++ x22.1)), .v (.string (((bstr [32]) ++ x22.1) ++ (bstr [32]))), .v (.agg (lM a0 v1 v2).toArray), .v (.agg (lA x22).toArray), .v (.string r26), .v (.string ((((bstr [32]) ++ x22.1) ++ (bstr [32])) ++ r26)), .v (.string (s22 ++ ((((bstr [32]) ++ x22.1) ++ (bstr [32])) ++ r26)))]) (fun _ _ => []) z_mix rfl (dl_mono trivial) (allB_cons (allB_cons (allB_cons (allB_cons (allB_cons (allB_cons (allB_cons (allB_cons (allB_cons (allB_cons allB_nil ?_) (p1 dA)) ?_) ?_) ?_) ?_) ?_) ?_) ?_) ?_) ?_
   ·intro ρ' τ pool rs hl hd hout hk
    refine o_load (j := 2) (v := .string s22) rfl rfl rfl z_sc9 ((hout 3 rfl).trans rfl) rfl rfl ?_
    exact st_addNil (hk _ _ (Sto.Le.refl _) rfl)
   ·intro ρ' τ pool rs hl hd hout hk
    obtain ⟨_, e1, rfl⟩ := hd 1 rfl
    refine o_load (j := 0) (v := .string x22.1) rfl rfl rfl z_sc9 e1 rfl rfl ?_
    exact st_addNil (hk _ _ (Sto.Le.refl _) rfl)
   ·intro ρ' τ pool rs hl hd hout hk
    obtain ⟨_, e2, rfl⟩ := hd 2 rfl
    refine o_sadd rfl rfl rfl (ev_str z_str0) e2 hf24 ?_
    exact st_addNil (hk _ _ (Sto.Le.refl _) rfl)
   ·intro ρ' τ pool rs hl hd hout hk
    obtain ⟨_, e3, rfl⟩ := hd 3 rfl
    refine o_sadd rfl rfl rfl e3 (ev_str z_str0) hf25 ?_
    exact st_addNil (hk _ _ (Sto.Le.refl _) rfl)
   ·intro ρ' τ pool rs hl hd hout hk
    refine o_loadN (j := 1) (vs := (lM a0 v1 v2)) rfl rfl rfl z_agg26 ((hout 1 rfl).trans rfl) rfl rfl ?_
    exact st_addNil (hk _ _ (Sto.Le.refl _) rfl)
   ·intro ρ' τ pool rs hl hd hout hk
    refine o_loadN (j := 0) (vs := (lA x22)) rfl rfl rfl z_agg139 ((hout 4 rfl).trans rfl) rfl rfl ?_
    exact st_addNil (hk _ _ (Sto.Le.refl _) rfl)
   ·intro ρ' τ pool rs hl hd hout hk
    obtain ⟨_, e5, rfl⟩ := hd 5 rfl
    obtain ⟨_, e6, rfl⟩ := hd 6 rfl
    refine st_call (foot := []) rfl rfl rfl rfl (evs_cons e5 (evs_cons e6 rfl)) rfl (callV_fn z_en73 (say_value_ok hr27 τ (hs3.up ((((hl9.trans hl13).trans hl18).trans hl22).trans hl)) (hs4.up ((((hl9.trans hl13).trans hl18).trans hl22).trans hl)) (hT.up ((((hl9.trans hl13).trans hl18).trans hl22).trans hl)))) ?_
    rintro vτ28 τ28 gsτ28 hl29 ⟨rfl, rfl⟩
    exact st_addNil (hk _ _ hl29 rfl)
   ·intro ρ' τ pool rs hl hd hout hk
    obtain ⟨_, e4, rfl⟩ := hd 4 rfl
    obtain ⟨_, e7, rfl⟩ := hd 7 rfl
    refine o_sadd rfl rfl rfl e4 e7 hf30 ?_
    exact st_addNil (hk _ _ (Sto.Le.refl _) rfl)
   ·intro ρ' τ pool rs hl hd hout hk
    obtain ⟨_, e0, rfl⟩ := hd 0 rfl
    obtain ⟨_, e8, rfl⟩ := hd 8 rfl
    refine o_sadd rfl rfl rfl e0 e8 hf31 ?_
    exact st_addNil (hk _ _ (Sto.Le.refl _) rfl)
   intro ρ' τ32 vals hl32 hv hout
   refine st_ord [0, 0, 0] _ rfl ?_
   refine st_env (ρ' := [(24, .string (s22 ++ ((((bstr [32]) ++ x22.1) ++ (bstr [32])) ++ r26))), (1, .Pb b5), (2, .E0), (3, .Pb b14), (14, .agg (lA x22).toArray), (4, .Pb b23)]) ⟨(lv1 hv 9 rfl rfl), (hout 1 rfl).trans rfl, (hout 2 rfl).trans rfl, (hout 3 rfl).trans rfl, (hout 14 rfl).trans rfl, (hout 4 rfl).trans rfl, trivial⟩ ?_
   refine ZZ 3 [2] rfl rfl ?_
   refine st_ord [1, 1] _ rfl ?_
   exact st_rend (List.Sublist.refl _) hl32 ⟨_, h, (hl22.trans hl32), rfl⟩
  ·rintro p33 τ34 gs22 f22 ht hl35 ⟨hb, rfl⟩ rfl
   subst ht
   replace h := hA22
   refine st_ord [1, 1] _ rfl ?_
   refine ZZ 6 [1] rfl rfl ?_
   refine st_ord [] _ rfl ?_
   obtain rfl := Eq.symm h
   exact st_ret (gs' := []) Tryz.func32 rfl (List.Sublist.refl _) (((hl9.trans hl13).trans hl18).trans hl35) ⟨rfl, rfl⟩
  ·exact fun _ _ _ _ _ _ _ h => h.elim
theorem script_Line_ok {a0 : TyS} {v1 : Value} {v2 : Value} {v3 : Value} {v4 : Value} {r : ByteArray} (h : script_Line a0 r) (σ : Sto) (hs5 : Sl (kP (kI .i64) (kI .i64)) σ v1 a0.2.1.2.2.1) (hs6 : Sl (kI .i64) σ v2 a0.2.1.2.2.2.1) (hs7 : Sl (kI .u8) σ v3 a0.2.2.1.t4) (hs8 : Sl (kI .i64) σ v4 a0.2.2.2) (hT : Tab Tryz.prog σ) :
    Does Tryz.prog 11 [.agg (lS a0 v1 v2 v3 v4).toArray] σ [] (fun v τ gs => gs = [] ∧ .string r = v) := by
 refine call_of Tryz.func11 Tryz.ntmps11 rfl rfl (fun cs fs => ?_)
 refine Z 2 rfl ?_
 refine o_box (cs := (lS a0 v1 v2 v3 v4)) rfl rfl rfl rfl rfl (fun b9 => ?_)
 refine o_assign rfl rfl rfl (ev_str z_str1) ?_
 refine ZZ 5 [0] rfl rfl ?_
 obtain ⟨r10, hr11, h⟩ := h
 refine st_call (foot := []) rfl rfl rfl rfl rfl rfl (callV_fn z_en15 (script_Check_ok hr11 σ hs5 hs6 hs7 hs8 hT)) ?_
 rintro vτ12 τ12 gsτ12 hl13 ⟨rfl, rfl⟩
 refine Z 2 rfl ?_
 refine st_if rfl h (fun h => ?_) (fun h => ?_)
 ·refine Z 2 rfl ?_
  refine o_assign rfl rfl rfl (ev_str z_str1) ?_
  refine st_end ?_
  refine st_ord [] _ rfl ?_
  obtain rfl := Eq.symm h
  exact st_ret (gs' := []) Tryz.func11 rfl (List.Sublist.refl _) hl13 ⟨rfl, rfl⟩
 ·refine ZZ 13 [0] rfl rfl ?_
  refine st_if rfl h (fun h => ?_) (fun h => ?_)
  ·refine ZZ 4 [0] rfl rfl ?_
   obtain ⟨r14, hr15, h⟩ := h
   refine st_call (foot := []) rfl rfl rfl rfl rfl rfl (callV_fn z_en32 (say_Line_ok hr15 τ12 (hs5.up hl13) (hs6.up hl13) (hT.up hl13))) ?_
   rintro vτ16 τ16 gsτ16 hl17 ⟨rfl, rfl⟩
   obtain ⟨hf18, h⟩ := h
   refine o_sadd rfl rfl rfl (ev_str z_str43) rfl hf18 ?_
   refine Z 2 rfl ?_
   refine st_ord [] _ rfl ?_
   obtain rfl := Eq.symm h
   exact st_ret (gs' := []) Tryz.func11 rfl (List.Sublist.refl _) (hl13.trans hl17) ⟨rfl, rfl⟩
  ·refine Z 5 rfl ?_
   refine st_if rfl h (fun h => ?_) (fun h => ?_)
   ·refine ZZ 4 [0] rfl rfl ?_
    obtain ⟨r19, hr20, h⟩ := h
    refine st_call (foot := []) rfl rfl rfl rfl rfl rfl (callV_fn z_en33 (noise_Line_ok hr20 τ12 (hs7.up hl13) (hT.up hl13))) ?_
    rintro vτ21 τ21 gsτ21 hl22 ⟨rfl, rfl⟩
    refine Z 2 rfl ?_
    refine st_ord [] _ rfl ?_
    obtain rfl := Eq.symm h
    exact st_ret (gs' := []) Tryz.func11 rfl (List.Sublist.refl _) (hl13.trans hl22) ⟨rfl, rfl⟩
   ·refine Z 5 rfl ?_
    refine st_if rfl h (fun h => ?_) (fun h => ?_)
    ·refine Z 2 rfl ?_
     refine o_assign rfl rfl rfl (ev_str z_str4) ?_
     refine Z 2 rfl ?_
     refine st_cut (fun ρ τ23 gs => ∃ (s23 : ByteArray), script_Line_j1 s23 r ∧ τ12.Le τ23 ∧ ESub ρ [(1, .Pb b9), (2, .E0), (3, .string s23)] ∧ gs = [[(b9, .cells (lS a0 v1 v2 v3 v4).toArray 31 (0, 0))]]) ?_ (fun hk23 => ?_)
     ·rintro ρ23 τ23 gs23 ⟨s23, h, hl23, hρ, rfl⟩
      refine st_es hρ ?_
      refine Z 5 rfl ?_
      refine st_ord [] _ rfl ?_
      obtain rfl := Eq.symm h
      exact st_ret (gs' := []) Tryz.func11 rfl (List.Sublist.refl _) (hl13.trans hl23) ⟨rfl, rfl⟩
     refine ZZ 4 [0] rfl rfl ?_
     refine o_lenI rfl rfl rfl z_slT24 rfl (hs8.up hl13) ?_
     refine Z 2 rfl ?_
     obtain ⟨e24, hL24, hA24⟩ := h
     refine st_loop hL24 (fun (s24 : ByteArray × Int) ρ τ24 gs => τ12.Le τ24 ∧ ESub ρ [(1, .Pb b9), (2, .E0), (3, .string s24.1), (25, v4), (26, .I (a0.2.2.2.length : Int)), (27, .I s24.2)] ∧ gs = [[(b9, .cells (lS a0 v1 v2 v3 v4).toArray 31 (0, 0))]]) ⟨Sto.Le.refl _, rfl, rfl⟩ ?_
     rintro s24 o24 h he24 ρ24 τ24 gs24 ⟨hl24, hρ, rfl⟩ hn24
     refine st_es hρ ?_
     refine Z 5 rfl ?_
     refine st_if rfl h (fun h => ?_) (fun h => ?_)
     ·refine Z 5 rfl ?_
      obtain ⟨q25, hf26, h⟩ := h
      refine o_index rfl rfl rfl z_slT24 rfl rfl (hs8.up (hl13.trans hl24)) rfl hf26 (fun b27 of28 vs hc29 hrep => ?_)
      obtain rfl := hrep
      refine o_loadI (v := .I q25) rfl rfl rfl z_sc3 rfl (hc29 0 _ rfl) ?_
      refine Z 5 rfl ?_
      obtain ⟨r30, hr31, h⟩ := h
      refine st_call (foot := []) rfl rfl rfl rfl rfl rfl (callV_fn z_en34 (say_Number_ok hr31 τ24 (hT.up (hl13.trans hl24)))) ?_
      rintro vτ32 τ32 gsτ32 hl33 ⟨rfl, rfl⟩
      obtain ⟨hf34, h⟩ := h
      refine o_sadd rfl rfl rfl (ev_str z_str0) rfl hf34 ?_
      obtain ⟨hf35, h⟩ := h
      refine o_sadd rfl rfl rfl rfl rfl hf35 ?_
      refine Z 7 rfl ?_
      exact hn24 _ _ _ _ h ⟨(hl24.trans hl33), rfl, rfl⟩
     ·refine st_exit rfl ?_
      obtain rfl := he24 _ h
      replace h := hA24
      exact hk23 _ _ _ ⟨s24.1, h, hl24, rfl, rfl⟩
    ·refine ZZ 6 [0] rfl rfl ?_
     obtain ⟨r37, hr38, h⟩ := h
     refine st_call (foot := []) rfl rfl rfl rfl rfl rfl (callV_fn z_en35 (script_word_ok hr38 τ12)) ?_
     rintro vτ39 τ39 gsτ39 hl40 ⟨rfl, rfl⟩
     refine Z 2 rfl ?_
     refine st_ord [] _ rfl ?_
     obtain rfl := Eq.symm h
     exact st_ret (gs' := []) Tryz.func11 rfl (List.Sublist.refl _) (hl13.trans hl40) ⟨rfl, rfl⟩
theorem script_Print_ok {a0 : Int × Int × Int} {a1 : Int × Int} {a2 : List (TyS)} {v1 : Value} {r : ByteArray × Int} (h : script_Print a0 a1 a2 r) (σ : Sto) (hs2 : Sl (kP (kI .i64) (kP (kP (kI .i64) (kP (kA .i64 6) (kP (kSl (kP (kI .i64) (kI .i64))) (kP (kSl (kI .i64)) (kP kS kS))))) (kP (kP (kI .i64) (kP (kI .i64) (kP (kI .i64) (kP (kI .i64) (kSl (kI .u8)))))) (kSl (kI .i64))))) σ v1 a2) (hT : Tab Tryz.prog σ) :
    Does Tryz.prog 22 [.agg [.I a0.1, .I a0.2.1, .int .u32 a0.2.2].toArray, .agg [.int .u32 a1.1, .I a1.2].toArray, v1] σ [] (fun v τ gs => gs = [] ∧ .tuple [.string r.1, .I r.2].toArray = v) := by
 refine call_of Tryz.func22 Tryz.ntmps22 rfl rfl (fun cs fs => ?_)
 refine Z 2 rfl ?_
 refine o_boxC rfl rfl rfl rfl rfl rfl (fun b3 => ?_)
 refine o_boxC rfl rfl rfl rfl rfl rfl (fun b4 => ?_)
 refine o_assign rfl rfl rfl (ev_str z_str1) ?_
 refine ZZ 6 [1] rfl rfl ?_
 obtain ⟨r5, hr6, h⟩ := h
 refine st_call (foot := []) rfl rfl rfl rfl rfl rfl (callV_fn z_en55 (conf_CheckSender_ok hr6 σ)) ?_
 rintro vτ7 τ7 gsτ7 hl8 ⟨rfl, rfl⟩
 refine Z 7 rfl ?_
 refine st_if rfl h (fun h => ?_) (fun h => ?_)
 ·refine Z 3 rfl ?_
  refine o_assign rfl rfl rfl (ev_str z_str1) ?_
  refine Z 2 rfl ?_
  refine st_ord [] _ rfl ?_
  obtain rfl := Eq.symm h
  exact st_ret (gs' := []) Tryz.func22 rfl (List.Sublist.refl _) hl8 ⟨rfl, rfl⟩
 ·refine ZZ 5 [0] rfl rfl ?_
  obtain ⟨r9, hr10, h⟩ := h
  refine st_call (foot := []) rfl rfl rfl rfl rfl rfl (callV_fn z_en56 (conf_CheckReceiver_ok hr10 τ7)) ?_
  rintro vτ11 τ11 gsτ11 hl12 ⟨rfl, rfl⟩
  refine Z 7 rfl ?_
  refine st_if rfl h (fun h => ?_) (fun h => ?_)
  ·refine Z 3 rfl ?_
   refine o_assign rfl rfl rfl (ev_str z_str1) ?_
   refine Z 2 rfl ?_
   refine st_ord [] _ rfl ?_
   obtain rfl := Eq.symm h
   exact st_ret (gs' := []) Tryz.func22 rfl (List.Sublist.refl _) (hl8.trans hl12) ⟨rfl, rfl⟩
  ·refine ZZ 5 [1, 0] rfl rfl ?_
   obtain ⟨r13, hr14, h⟩ := h
   refine st_call (foot := []) rfl rfl rfl rfl rfl rfl (callV_fn z_en57 (conf_Line_ok hr14 τ11 (hT.up (hl8.trans hl12)))) ?_
   rintro vτ15 τ15 gsτ15 hl16 ⟨rfl, rfl⟩
   obtain ⟨hf17, h⟩ := h
   refine o_sadd rfl rfl rfl rfl (ev_str z_str42) hf17 ?_
   refine Z 3 rfl ?_
   refine st_cut (fun ρ τ18 gs => ∃ (s18 : ByteArray), script_Print_j1 s18 r ∧ τ15.Le τ18 ∧ ESub ρ [(6, .E0), (7, .I 0), (10, .string s18)] ∧ gs = []) ?_ (fun hk18 => ?_)
   ·rintro ρ18 τ18 gs18 ⟨s18, h, hl18, hρ, rfl⟩
    refine st_es hρ ?_
    refine Z 6 rfl ?_
    obtain rfl := Eq.symm h
    exact st_ret (gs' := []) Tryz.func22 rfl (List.Sublist.refl _) (((hl8.trans hl12).trans hl16).trans hl18) ⟨rfl, rfl⟩
   refine Z 3 rfl ?_
   refine o_lenI rfl rfl rfl z_slT59 rfl (hs2.up ((hl8.trans hl12).trans hl16)) ?_
   refine Z 2 rfl ?_
   obtain ⟨e19, hL19, hA19⟩ := h
   refine st_ord [] _ rfl ?_
   refine st_loop hL19 (fun (s19 : ByteArray × Int) ρ τ19 gs => τ15.Le τ19 ∧ ESub ρ [(6, .E0), (7, .I 0), (10, .string s19.1), (28, v1), (29, .I (a2.length : Int)), (30, .I s19.2)] ∧ gs = []) ⟨Sto.Le.refl _, rfl, rfl⟩ ?_
   rintro s19 o19 h he19 ρ19 τ19 gs19 ⟨hl19, hρ, rfl⟩ hn19
   refine st_es hρ ?_
   refine Z 5 rfl ?_
   refine st_if rfl h (fun h => ?_) (fun h => ?_)
   ·refine Z 5 rfl ?_
    obtain ⟨q20, hf21, h⟩ := h
    refine o_index rfl rfl rfl z_slT59 rfl rfl (hs2.up (((hl8.trans hl12).trans hl16).trans hl19)) rfl hf21 (fun b22 of23 vs hc28 hrep => ?_)
    obtain ⟨_, _, rfl, rfl, ⟨_, _, rfl, ⟨_, _, rfl, rfl, ⟨_, _, rfl, rfl, ⟨_, _, rfl, ⟨v24, rfl, hs29⟩, ⟨_, _, rfl, ⟨v25, rfl, hs30⟩, ⟨_, _, rfl, rfl, rfl⟩⟩⟩⟩⟩, ⟨_, _, rfl, ⟨_, _, rfl, rfl, ⟨_, _, rfl, rfl, ⟨_, _, rfl, rfl, ⟨_, _, rfl, rfl, ⟨v26, rfl, hs31⟩⟩⟩⟩⟩, ⟨v27, rfl, hs32⟩⟩⟩⟩ := hrep
    refine o_loadIN (vs := (lS q20 v24 v25 v26 v27)) rfl rfl rfl z_agg31 rfl rfl (celn_part 0 rfl hc28) ?_
    refine o_alloc rfl rfl rfl z_zero31 (fun b33 => ?_)
    refine o_store (j := 0) (vs := (lS q20 v24 v25 v26 v27)) (cs' := (lS q20 v24 v25 v26 v27)) rfl rfl rfl z_size31 rfl rfl rfl (ones_cons rfl (ones_cons rfl (ones_cons rfl (ones_cons rfl (ones_cons rfl (ones_cons rfl (ones_cons rfl (ones_cons rfl (ones_cons hs29.one' (ones_cons hs30.one' (ones_cons rfl (ones_cons rfl (ones_cons rfl (ones_cons rfl (ones_cons rfl (ones_cons rfl (ones_cons hs31.one' (ones_cons hs32.one' ones_nil)))))))))))))))))) rfl rfl rfl ?_
    refine ZZ 5 [0] rfl rfl ?_
    obtain ⟨r34, hr35, h⟩ := h
    refine st_call (foot := []) rfl rfl rfl rfl rfl rfl (callV_fn z_en15 (script_Check_ok hr35 τ19 hs29 hs30 hs31 hs32 (hT.up (((hl8.trans hl12).trans hl16).trans hl19)))) ?_
    rintro vτ36 τ36 gsτ36 hl37 ⟨rfl, rfl⟩
    refine Z 7 rfl ?_
    refine st_if rfl h (fun h => ?_) (fun h => ?_)
    ·refine Z 3 rfl ?_
     refine o_assign rfl rfl rfl (ev_str z_str1) ?_
     refine Z 2 rfl ?_
     refine st_ord [] _ rfl ?_
     obtain rfl := he19 _ h
     replace h := hA19
     obtain rfl := Eq.symm h
     exact st_ret (gs' := []) Tryz.func22 rfl (List.Sublist.refl _) ((((hl8.trans hl12).trans hl16).trans hl19).trans hl37) ⟨rfl, rfl⟩
    ·refine ZZ 4 [0] rfl rfl ?_
     obtain ⟨r38, hr39, h⟩ := h
     refine st_call (foot := []) rfl rfl rfl rfl rfl rfl (callV_fn z_en11 (script_Line_ok hr39 τ36 (hs29.up hl37) (hs30.up hl37) (hs31.up hl37) (hs32.up hl37) (hT.up ((((hl8.trans hl12).trans hl16).trans hl19).trans hl37)))) ?_
     rintro vτ40 τ40 gsτ40 hl41 ⟨rfl, rfl⟩
     obtain ⟨hf42, h⟩ := h
     refine o_sadd rfl rfl rfl rfl (ev_str z_str42) hf42 ?_
     obtain ⟨hf43, h⟩ := h
     refine o_sadd rfl rfl rfl rfl rfl hf43 ?_
     refine Z 7 rfl ?_
     refine st_ord [] _ rfl ?_
     exact hn19 _ _ _ _ h ⟨((hl19.trans hl37).trans hl41), rfl, rfl⟩
   ·refine st_exit rfl ?_
    obtain rfl := he19 _ h
    replace h := hA19
    exact hk18 _ _ _ ⟨s19.1, h, hl19, rfl, rfl⟩
theorem law27_known_ok  {r : Bool} (h : law27_known r) (σ : Sto) (hT : Tab Tryz.prog σ) :
    Does Tryz.prog 9 [] σ [] (fun v τ gs => gs = [] ∧ .bool r = v) := by
 refine call_of Tryz.func9 Tryz.ntmps9 rfl rfl (fun cs fs => ?_)
 refine ZZ 8 [] rfl rfl ?_
 refine o_buildA (ps := [(0, [.I 1]), (1, [.I 2]), (2, [.I 3])]) (cs := [.I 1, .I 2, .I 3, .I 0, .I 0, .I 0]) rfl rfl rfl z_arrz22 ⟨rfl, ⟨_, rfl, rfl⟩, ⟨rfl, ⟨_, rfl, rfl⟩, ⟨rfl, ⟨_, rfl, rfl⟩, trivial⟩⟩⟩ rfl ?_
 refine ZZ 2 [] rfl rfl ?_
 refine o_litE (eI .i64) [1, 2] rfl rfl rfl z_slT24 z_zero3 ⟨rfl, ⟨_, rfl, rfl⟩, ⟨rfl, ⟨_, rfl, rfl⟩, trivial⟩⟩ rfl rfl rfl rfl (fun v1 g2 ho3 => ?_)
 refine o_build (ps := [(0, [.I 4]), (3, [v1])]) (cs := [.I 4, .I 0, .I 0, .I 0, .I 0, .I 0, .I 0, .I 0, .N0, .N0, .E0, .E0, .I 0, .I 0, .I 0, .I 0, .N0, v1]) rfl rfl rfl z_struct31 ⟨rfl, ⟨_, rfl, rfl⟩, ⟨rfl, ⟨_, rfl, (oneL_ow ho3)⟩, trivial⟩⟩ rfl ?_
 refine ZZ 1 [] rfl rfl ?_
 refine st_freeze (fun τ4 hl5 hg6 => ?_)
 have hs7 := ho3.freeze hl5 hg6
 refine o_lit (dk := (kP (kI .i64) (kP (kP (kI .i64) (kP (kA .i64 6) (kP (kSl (kP (kI .i64) (kI .i64))) (kP (kSl (kI .i64)) (kP kS kS))))) (kP (kP (kI .i64) (kP (kI .i64) (kP (kI .i64) (kP (kI .i64) (kSl (kI .u8)))))) (kSl (kI .i64)))))) (xs := [(1, (2, [1, 2, 3, 0, 0, 0], [], [], (bstr []), (bstr [])), (0, 0, 0, 0, []), []), (4, (0, (List.replicate 6 0), [], [], (bstr []), (bstr [])), (0, 0, 0, 0, []), [1, 2]), (3, (0, (List.replicate 6 0), [], [], (bstr []), (bstr [])), (0, 0, 0, 0, []), [])]) (ps := [(0, [.I 1, .I 2, .I 1, .I 2, .I 3, .I 0, .I 0, .I 0, .N0, .N0, .E0, .E0, .I 0, .I 0, .I 0, .I 0, .N0, .N0]), (1, [.I 4, .I 0, .I 0, .I 0, .I 0, .I 0, .I 0, .I 0, .N0, .N0, .E0, .E0, .I 0, .I 0, .I 0, .I 0, .N0, v1]), (2, [.I 3, .I 0, .I 0, .I 0, .I 0, .I 0, .I 0, .I 0, .N0, .N0, .E0, .E0, .I 0, .I 0, .I 0, .I 0, .N0, .N0])]) (cs := ((.I 1) :: (.I 2) :: (.I 1) :: (.I 2) :: (.I 3) :: (.I 0) :: (.I 0) :: (.I 0) :: (.N0) :: (.N0) :: (.E0) :: (.E0) :: (.I 0) :: (.I 0) :: (.I 0) :: (.I 0) :: (.N0) :: (.N0) :: (.I 4) :: (.I 0) :: (.I 0) :: (.I 0) :: (.I 0) :: (.I 0) :: (.I 0) :: (.I 0) :: (.N0) :: (.N0) :: (.E0) :: (.E0) :: (.I 0) :: (.I 0) :: (.I 0) :: (.I 0) :: (.N0) :: v1 :: (.I 3) :: (.I 0) :: (.I 0) :: (.I 0) :: (.I 0) :: (.I 0) :: (.I 0) :: (.I 0) :: (.N0) :: (.N0) :: (.E0) :: (.E0) :: (.I 0) :: (.I 0) :: (.I 0) :: (.I 0) :: (.N0) :: (.N0) :: [])) rfl rfl rfl z_slT59 z_zero31 ⟨rfl, ⟨_, rfl, rfl⟩, ⟨rfl, ⟨_, rfl, rfl⟩, ⟨rfl, ⟨_, rfl, rfl⟩, trivial⟩⟩⟩ rfl rfl rfl rfl (Kd.Many.cons (d := (kP (kI .i64) (kP (kP (kI .i64) (kP (kA .i64 6) (kP (kSl (kP (kI .i64) (kI .i64))) (kP (kSl (kI .i64)) (kP kS kS))))) (kP (kP (kI .i64) (kP (kI .i64) (kP (kI .i64) (kP (kI .i64) (kSl (kI .u8)))))) (kSl (kI .i64)))))) (x := (1, (2, [1, 2, 3, 0, 0, 0], [], [], (bstr []), (bstr [])), (0, 0, 0, 0, []), [])) (a := [.I 1, .I 2, .I 1, .I 2, .I 3, .I 0, .I 0, .I 0, .N0, .N0, .E0, .E0, .I 0, .I 0, .I 0, .I 0, .N0, .N0]) ⟨[.I 1], _, rfl, rfl, ⟨[.I 2, .I 1, .I 2, .I 3, .I 0, .I 0, .I 0, .N0, .N0, .E0, .E0], _, rfl, ⟨[.I 2], _, rfl, rfl, ⟨[.I 1, .I 2, .I 3, .I 0, .I 0, .I 0], _, rfl, rfl, ⟨[.N0], _, rfl, ⟨_, rfl, Sl.nil⟩, ⟨[.N0], _, rfl, ⟨_, rfl, Sl.nil⟩, ⟨[.E0], _, rfl, rfl, rfl⟩⟩⟩⟩⟩, ⟨[.I 0, .I 0, .I 0, .I 0, .N0], _, rfl, ⟨[.I 0], _, rfl, rfl, ⟨[.I 0], _, rfl, rfl, ⟨[.I 0], _, rfl, rfl, ⟨[.I 0], _, rfl, rfl, ⟨_, rfl, Sl.nil⟩⟩⟩⟩⟩, ⟨_, rfl, Sl.nil⟩⟩⟩⟩ (Kd.Many.cons (d := (kP (kI .i64) (kP (kP (kI .i64) (kP (kA .i64 6) (kP (kSl (kP (kI .i64) (kI .i64))) (kP (kSl (kI .i64)) (kP kS kS))))) (kP (kP (kI .i64) (kP (kI .i64) (kP (kI .i64) (kP (kI .i64) (kSl (kI .u8)))))) (kSl (kI .i64)))))) (x := (4, (0, (List.replicate 6 0), [], [], (bstr []), (bstr [])), (0, 0, 0, 0, []), [1, 2])) (a := [.I 4, .I 0, .I 0, .I 0, .I 0, .I 0, .I 0, .I 0, .N0, .N0, .E0, .E0, .I 0, .I 0, .I 0, .I 0, .N0, v1]) ⟨[.I 4], _, rfl, rfl, ⟨lY, _, rfl, ⟨[.I 0], _, rfl, rfl, ⟨[.I 0, .I 0, .I 0, .I 0, .I 0, .I 0], _, rfl, rfl, ⟨[.N0], _, rfl, ⟨_, rfl, Sl.nil⟩, ⟨[.N0], _, rfl, ⟨_, rfl, Sl.nil⟩, ⟨[.E0], _, rfl, rfl, rfl⟩⟩⟩⟩⟩, ⟨[.I 0, .I 0, .I 0, .I 0, .N0], _, rfl, ⟨[.I 0], _, rfl, rfl, ⟨[.I 0], _, rfl, rfl, ⟨[.I 0], _, rfl, rfl, ⟨[.I 0], _, rfl, rfl, ⟨_, rfl, Sl.nil⟩⟩⟩⟩⟩, ⟨_, rfl, hs7⟩⟩⟩⟩ (Kd.Many.cons (d := (kP (kI .i64) (kP (kP (kI .i64) (kP (kA .i64 6) (kP (kSl (kP (kI .i64) (kI .i64))) (kP (kSl (kI .i64)) (kP kS kS))))) (kP (kP (kI .i64) (kP (kI .i64) (kP (kI .i64) (kP (kI .i64) (kSl (kI .u8)))))) (kSl (kI .i64)))))) (x := (3, (0, (List.replicate 6 0), [], [], (bstr []), (bstr [])), (0, 0, 0, 0, []), [])) (a := [.I 3, .I 0, .I 0, .I 0, .I 0, .I 0, .I 0, .I 0, .N0, .N0, .E0, .E0, .I 0, .I 0, .I 0, .I 0, .N0, .N0]) ⟨[.I 3], _, rfl, rfl, ⟨lY, _, rfl, ⟨[.I 0], _, rfl, rfl, ⟨[.I 0, .I 0, .I 0, .I 0, .I 0, .I 0], _, rfl, rfl, ⟨[.N0], _, rfl, ⟨_, rfl, Sl.nil⟩, ⟨[.N0], _, rfl, ⟨_, rfl, Sl.nil⟩, ⟨[.E0], _, rfl, rfl, rfl⟩⟩⟩⟩⟩, ⟨[.I 0, .I 0, .I 0, .I 0, .N0], _, rfl, ⟨[.I 0], _, rfl, rfl, ⟨[.I 0], _, rfl, rfl, ⟨[.I 0], _, rfl, rfl, ⟨[.I 0], _, rfl, rfl, ⟨_, rfl, Sl.nil⟩⟩⟩⟩⟩, ⟨_, rfl, Sl.nil⟩⟩⟩⟩ Kd.Many.nil))) (fun v9 g10 ho11 => ?_)
 obtain ⟨r16, hr17, h⟩ := h
 refine st_freeze (fun τ12 hl13 hg14 => ?_)
 have hs15 := ho11.freeze hl13 hg14
 refine st_call (foot := []) rfl rfl rfl rfl rfl rfl (callV_fn z_en22 (script_Print_ok hr17 τ12 hs15 (hT.up (hl5.trans hl13)))) ?_
 rintro vτ18 τ18 gsτ18 hl19 ⟨rfl, rfl⟩
 refine Z 7 rfl ?_
 refine st_cut (fun ρ τ20 gs => ∃ (s20 : Bool), law27_known_j1 s20 r ∧ τ18.Le τ20 ∧ ESub ρ [(0, .bool s20)] ∧ gs = []) ?_ (fun hk20 => ?_)
 ·rintro ρ20 τ20 gs20 ⟨s20, h, hl20, hρ, rfl⟩
  refine st_es hρ ?_
  obtain rfl := Eq.symm h
  exact st_ret (gs' := []) Tryz.func9 rfl (List.Sublist.refl _) (((hl5.trans hl13).trans hl19).trans hl20) ⟨rfl, rfl⟩
 refine Z 3 rfl ?_
 refine o_mif rfl rfl rfl rfl h (fun h => ?_) (fun h => ?_)
 ·refine o_move rfl rfl rfl rfl ?_
  refine o_sbin (v := .bool (decide (r16.1 = (bstr [108, 105, 110, 107, 32, 50, 32, 54, 52, 32, 49, 48, 32, 49, 48, 32, 52, 10, 115, 101, 110, 100, 32, 104, 111, 108, 100, 32, 114, 111, 98, 111, 116, 32, 49, 32, 114, 101, 97, 115, 111, 110, 32, 50, 32, 122, 111, 110, 101, 32, 51, 10, 99, 104, 117, 110, 107, 32, 49, 32, 50, 10, 97, 108, 108, 10])))) rfl rfl rfl rfl (ev_str z_str44) rfl ?_
  refine Z 3 rfl ?_
  exact hk20 _ _ _ ⟨(decide (r16.1 = (bstr [108, 105, 110, 107, 32, 50, 32, 54, 52, 32, 49, 48, 32, 49, 48, 32, 52, 10, 115, 101, 110, 100, 32, 104, 111, 108, 100, 32, 114, 111, 98, 111, 116, 32, 49, 32, 114, 101, 97, 115, 111, 110, 32, 50, 32, 122, 111, 110, 101, 32, 51, 10, 99, 104, 117, 110, 107, 32, 49, 32, 50, 10, 97, 108, 108, 10]))), h, (Sto.Le.refl _), rfl, rfl⟩
 ·refine Z 5 rfl ?_
  exact hk20 _ _ _ ⟨false, h, (Sto.Le.refl _), rfl, rfl⟩
theorem law17_Of_ok {a0 : TyM} {v1 : Value} {v2 : Value} {r : (TyR)} (h : law17_Of a0 r) (σ : Sto) (hs3 : Sl (kP (kI .i64) (kI .i64)) σ v1 a0.2.2.1) (hs4 : Sl (kI .i64) σ v2 a0.2.2.2.1) :
    Does Tryz.prog 39 [.agg (lM a0 v1 v2).toArray] σ [] (fun v τ gs => ∃ (v49 : Value) (v50 : Value), gs = [] ∧ .agg (lM r v49 v50).toArray = v ∧ Sl (kA .i64 2) τ v49 r.2.2.1 ∧ Sl (kI .i64) τ v50 r.2.2.2.1) := by
 refine call_of Tryz.func39 Tryz.ntmps39 rfl rfl (fun cs fs => ?_)
 refine Z 2 rfl ?_
 refine o_box (cs := (lM a0 v1 v2)) rfl rfl rfl rfl rfl (fun b5 => ?_)
 refine o_alloc rfl rfl rfl z_zero37 (fun b6 => ?_)
 refine ZZ 13 [1, 1, 1, 1, 1] rfl rfl ?_
 refine o_build (ps := [(0, [.I a0.1]), (1, [.I (a0.2.1.getD 0 0), .I (a0.2.1.getD 1 0), .I (a0.2.1.getD 2 0), .I (a0.2.1.getD 3 0), .I (a0.2.1.getD 4 0), .I (a0.2.1.getD 5 0)]), (3, [v2]), (4, [.string a0.t4.1]), (5, [.string a0.t4.2])]) (cs := (lM a0 .N0 v2)) rfl rfl rfl z_struct37 ⟨rfl, ⟨_, rfl, rfl⟩, ⟨rfl, ⟨_, rfl, rfl⟩, ⟨rfl, ⟨_, rfl, (oneL_sl hs4)⟩, ⟨rfl, ⟨_, rfl, rfl⟩, ⟨rfl, ⟨_, rfl, rfl⟩, trivial⟩⟩⟩⟩⟩ rfl ?_
 refine o_alloc rfl rfl rfl z_zero37 (fun b7 => ?_)
 refine o_store (j := 0) (vs := (lM a0 .N0 v2)) (cs' := (lM a0 .N0 v2)) rfl rfl rfl z_size37 rfl rfl rfl (ones_cons rfl (ones_cons rfl (ones_cons rfl (ones_cons rfl (ones_cons rfl (ones_cons rfl (ones_cons rfl (ones_cons rfl (ones_cons hs4.one' (ones_cons rfl (ones_cons rfl ones_nil))))))))))) rfl rfl rfl ?_
 refine Z 2 rfl ?_
 refine st_cut (fun ρ τ8 gs => ∃ (s8 : List (List Int)) (v9 : Value) (g10 : Grp), law17_Of_j1 a0 s8 r ∧ σ.Le τ8 ∧ ESub ρ [(2, .Pb b6), (3, .Pb b7)] ∧ gs = [[(b6, .cells lY.toArray 37 (0, 0))], [(b7, .cells (lM a0 v9 v2).toArray 37 (0, 0))], g10] ∧ Ow (kA .i64 2) 134 τ8 v9 s8 g10) ?_ (fun hk8 => ?_)
 ·rintro ρ8 τ8 gs8 ⟨s8, v9, g10, h, hl8, hρ, rfl, ho11⟩
  refine st_es hρ ?_
  refine ZZ 3 [1] rfl rfl ?_
  refine o_store (j := 0) (vs := (lM a0 v9 v2)) (cs' := (lM a0 v9 v2)) rfl rfl rfl z_size37 rfl rfl rfl (ones_cons rfl (ones_cons rfl (ones_cons rfl (ones_cons rfl (ones_cons rfl (ones_cons rfl (ones_cons rfl (ones_cons ho11.one' (ones_cons (hs4.up hl8).one' (ones_cons rfl (ones_cons rfl ones_nil))))))))))) rfl rfl rfl ?_
  refine st_end ?_
  refine st_ord [2, 0, 0] _ rfl ?_
  refine st_freeze (fun τ12 hl13 hg14 => ?_)
  have hs15 := ho11.freeze hl13 hg14
  obtain rfl := Eq.symm h
  exact st_retC (gs' := []) [.agg (lM a0 v9 v2).toArray] Tryz.func39 ⟨⟨_, _, _, _, rfl, mem_flat 0 rfl, fun w hw => cellOfN (vs := (lM a0 v9 v2)) z_agg37 rfl w hw⟩, trivial⟩ (by simp) (hl8.trans hl13) ⟨_, _, rfl, rfl, hs15, (hs4.up (hl8.trans hl13))⟩
 refine Z 4 rfl ?_
 obtain ⟨e18, hL18, hA18⟩ := h
 refine st_addNil ?_
 refine st_ord [3, 2, 1, 0] _ rfl ?_
 refine st_loop hL18 (fun (s18 : Int × List (List Int)) ρ τ18 gs => σ.Le τ18 ∧ ∃ (v19 : Value) (g20 : Grp), ESub ρ [(1, .Pb b5), (2, .Pb b6), (3, .Pb b7), (4, .I s18.1)] ∧ gs = [[(b5, .cells (lM a0 v1 v2).toArray 26 (0, 0))], [(b6, .cells lY.toArray 37 (0, 0))], [(b7, .cells (lM a0 v19 v2).toArray 37 (0, 0))], g20] ∧ Ow (kA .i64 2) 134 τ18 v19 s18.2 g20) ⟨Sto.Le.refl _, _, _, rfl, rfl, Ow.nil⟩ ?_
 rintro s18 o18 h he18 ρ18 τ18 gs18 ⟨hl18, v19, g20, hρ, rfl, ho21⟩ hn18
 refine st_es hρ ?_
 refine ZZ 6 [0] rfl rfl ?_
 refine o_lenI rfl rfl rfl z_slT23 rfl (hs3.up hl18) ?_
 refine Z 2 rfl ?_
 refine st_if rfl h (fun h => ?_) (fun h => ?_)
 ·refine Z 3 rfl ?_
  obtain ⟨q22, hf23, q27, hf28, hf42, hf43, h⟩ := h
  refine st_d41 [[(b5, .cells (lM a0 v1 v2).toArray 26 (0, 0))], [(b6, .cells lY.toArray 37 (0, 0))]] [[(b7, .cells (lM a0 v19 v2).toArray 37 (0, 0))], g20] 17 2 [none, some (0, 0), none, none, none, none, none, none, none, none, none, none, none, none, none, none, some (0, 1)] [none, none, none, none, none, none, none, none, none, none, none, none, none, none, none, none, none] [[none, some 24, some 39]] [.v (.pointer (some ⟨b7, 7, none⟩)), .v (v19), .v (.pointer (some ⟨b5, 7, none⟩)), .v (v1), .v (.I s18.1), .t fun τ v => ∃ (b24 : Nat) (of25 : Nat) (vsb24 : List Value), (.pointer (some ⟨b24, of25, none⟩) : Value) = v ∧ CelN τ ⟨b24, of25, none⟩ vsb24 ∧ (kP (kI .i64) (kI .i64)).rep τ vsb24 q22, .t fun τ v => ∃ (b24 : Nat) (of25 : Nat) (vsb24 : List Value), (.pointer (some ⟨b24, of25, none⟩) : Value) = v ∧ CelN τ ⟨b24, of25, none⟩ vsb24 ∧ (kP (kI .i64) (kI .i64)).rep τ vsb24 q22, .v (.I q22.1), .v (.pointer (some ⟨b5, 7, none⟩)), .v (v1), .v (.I s18.1), .t fun τ v => ∃ (b29 : Nat) (of30 : Nat) (vsb29 : List Value), (.pointer (some ⟨b29, of30, none⟩) : Value) = v ∧ CelN τ ⟨b29, of30, none⟩ vsb29 ∧ (kP (kI .i64) (kI .i64)).rep τ vsb29 q27, .t fun τ v => ∃ (b29 : Nat) (of30 : Nat) (vsb29 : List Value), (.pointer (some ⟨b29, of30 + 1, none⟩) : Value) = v ∧ CelN τ ⟨b29, of30, none⟩ vsb29 ∧ (kP (kI .i64) (kI .i64)).rep τ vsb29 q27, .v (.I q27.2), .v (.agg #[.I q22.1, .I q27.2]), .t fun τ v => ∃ (v32 : Value), (v32 : Value) = v ∧ Sl (kA .i64 2) τ v32 [[q22.1, q27.2]], .t fun _ _ => True] [[fun τ u F => F = [[(b7, .cells (lM a0 v19 v2).toArray 37 (0, 0))], g20], fun τ u F => F = [[(b7, .cells (lM a0 v19 v2).toArray 37 (0, 0))], g20], fun τ u F => ∃ (v44 : Value) (g45 : Grp), F = [g45, [(b7, .cells (lM a0 v19 v2).toArray 37 (0, 0))]] ∧ v44 = u ∧ Ow (kA .i64 2) 134 τ v44 (s18.2 ++ [[q22.1, q27.2]]) g45]] rfl z_mix rfl ⟨fun _ _ _ hl ⟨b24, of25, vsb24, hv, hc26, hrepb24⟩ => ⟨b24, of25, vsb24, hv, hc26.up hl, Kd.mono _ hl hrepb24⟩, ⟨fun _ _ _ hl ⟨b24, of25, vsb24, hv, hc26, hrepb24⟩ => ⟨b24, of25, vsb24, hv, hc26.up hl, Kd.mono _ hl hrepb24⟩, ⟨fun _ _ _ hl ⟨b29, of30, vsb29, hv, hc31, hrepb29⟩ => ⟨b29, of30, vsb29, hv, hc31.up hl, Kd.mono _ hl hrepb29⟩, ⟨fun _ _ _ hl ⟨b29, of30, vsb29, hv, hc31, hrepb29⟩ => ⟨b29, of30, vsb29, hv, hc31.up hl, Kd.mono _ hl hrepb29⟩, ⟨fun _ _ _ hl ⟨v32, hv, hs38⟩ => ⟨v32, hv, hs38.up hl⟩, ⟨fun _ _ _ _ _ => trivial, trivial⟩⟩⟩⟩⟩⟩ ⟨⟨fun _ _ _ _ hl h => h, ⟨fun _ _ _ _ hl h => h, ⟨fun _ _ _ _ hl h => (let ⟨v44, g45, hF, hU, ho46⟩ := h; ⟨v44, g45, hF, hU, ho46.up hl⟩), trivial⟩⟩⟩, trivial⟩ rfl rfl ?_ (allB_cons (allB_cons (allB_cons (allB_cons (allB_cons (allB_cons (allB_cons (allB_cons (allB_cons (allB_cons (allB_cons (allB_cons (allB_cons (allB_cons (allB_cons (allB_cons (allB_cons allB_nil (p4 dA)) ?_) (p4 dA)) ?_) (p4 dA)) ?_) ?_) ?_) (p4 dA)) ?_) (p4 dA)) ?_) ?_) ?_) ?_) ?_) ?_) ?_
  ·exact rfl
  ·intro ρ' τ u Fv pool rs hl hI hu hd hout hw hk
   obtain ⟨_, e0, rfl⟩ := hd 0 rfl _ rfl
   have hI0 := hI
   obtain rfl := hI
   refine o_load (j := 2) (v := v19) rfl rfl rfl z_sc35 e0 rfl rfl ?_
   exact hk _ _ [[(b7, .cells (lM a0 v19 v2).toArray 37 (0, 0))], g20] (Sto.Le.refl _) rfl (by exact hI0)
  ·intro ρ' τ pool rs hl hd hout hw hk
   obtain ⟨_, e2, rfl⟩ := hd 2 rfl _ rfl
   refine o_load (j := 0) (v := v1) rfl rfl rfl z_sc23 e2 rfl rfl ?_
   exact hk _ _ (Sto.Le.refl _) rfl
  ·intro ρ' τ pool rs hl hd hout hw hk
   obtain ⟨_, e3, rfl⟩ := hd 3 rfl _ rfl
   obtain ⟨_, e4, rfl⟩ := hd 4 rfl _ rfl
   refine o_index rfl rfl rfl z_slT23 rfl e3 (hs3.up (hl18.trans hl)) e4 hf23 (fun b24 of25 vsb24 hc26 hrepb24 => ?_)
   exact hk _ _ (Sto.Le.refl _) ⟨b24, of25, _, rfl, hc26, hrepb24⟩
  ·intro ρ' τ pool rs hl hd hout hw hk
   obtain ⟨_, e5, b24, of25, vsb24, rfl, hc26, hrepb24⟩ := hd 5 rfl _ rfl
   have hrepb24 := hrepb24
   obtain ⟨_, _, rfl, rfl, rfl⟩ := hrepb24
   refine o_fieldAddr rfl rfl rfl z_field149_0 e5 ?_
   exact hk _ _ (Sto.Le.refl _) ⟨b24, of25, _, rfl, hc26, hrepb24⟩
  ·intro ρ' τ pool rs hl hd hout hw hk
   obtain ⟨_, e6, b24, of25, vsb24, rfl, hc26, hrepb24⟩ := hd 6 rfl _ rfl
   have hrepb24 := hrepb24
   obtain ⟨_, _, rfl, rfl, rfl⟩ := hrepb24
   refine o_loadI (v := .I q22.1) rfl rfl rfl z_sc3 e6 (hc26 0 _ rfl) ?_
   exact hk _ _ (Sto.Le.refl _) rfl
  ·intro ρ' τ pool rs hl hd hout hw hk
   obtain ⟨_, e8, rfl⟩ := hd 8 rfl _ rfl
   refine o_load (j := 0) (v := v1) rfl rfl rfl z_sc23 e8 rfl rfl ?_
   exact hk _ _ (Sto.Le.refl _) rfl
  ·intro ρ' τ pool rs hl hd hout hw hk
   obtain ⟨_, e9, rfl⟩ := hd 9 rfl _ rfl
   obtain ⟨_, e10, rfl⟩ := hd 10 rfl _ rfl
   refine o_index rfl rfl rfl z_slT23 rfl e9 (hs3.up (hl18.trans hl)) e10 hf28 (fun b29 of30 vsb29 hc31 hrepb29 => ?_)
   exact hk _ _ (Sto.Le.refl _) ⟨b29, of30, _, rfl, hc31, hrepb29⟩
  ·intro ρ' τ pool rs hl hd hout hw hk
   obtain ⟨_, e11, b29, of30, vsb29, rfl, hc31, hrepb29⟩ := hd 11 rfl _ rfl
   have hrepb29 := hrepb29
   obtain ⟨_, _, rfl, rfl, rfl⟩ := hrepb29
   refine o_fieldAddr rfl rfl rfl z_field149_1 e11 ?_
   exact hk _ _ (Sto.Le.refl _) ⟨b29, of30, _, rfl, hc31, hrepb29⟩
  ·intro ρ' τ pool rs hl hd hout hw hk
   obtain ⟨_, e12, b29, of30, vsb29, rfl, hc31, hrepb29⟩ := hd 12 rfl _ rfl
   have hrepb29 := hrepb29
   obtain ⟨_, _, rfl, rfl, rfl⟩ := hrepb29
   refine o_loadI (v := .I q27.2) rfl rfl rfl z_sc3 e12 (hc31 1 _ rfl) ?_
   exact hk _ _ (Sto.Le.refl _) rfl
  ·intro ρ' τ pool rs hl hd hout hw hk
   obtain ⟨_, e7, rfl⟩ := hd 7 rfl _ rfl
   obtain ⟨_, e13, rfl⟩ := hd 13 rfl _ rfl
   refine o_buildA (ps := [(0, [.I q22.1]), (1, [.I q27.2])]) (cs := [.I q22.1, .I q27.2]) rfl rfl rfl z_arrz134 ⟨rfl, ⟨_, e7, rfl⟩, ⟨rfl, ⟨_, e13, rfl⟩, trivial⟩⟩ (fill_all [.I q22.1, .I q27.2] _ rfl) ?_
   exact hk _ _ (Sto.Le.refl _) rfl
  ·intro ρ' τ pool rs hl hd hout hw hk
   obtain ⟨_, e14, rfl⟩ := hd 14 rfl _ rfl
   refine o_litE (eA .i64 2) [[q22.1, q27.2]] rfl rfl rfl z_slT35 z_zero134 ⟨rfl, ⟨_, e14, rfl⟩, trivial⟩ rfl rfl rfl rfl (fun v32 g33 ho34 => ?_)
   refine st_freeze (fun τ35 hl36 hg37 => ?_)
   have hs38 := ho34.freeze hl36 hg37
   exact hk _ _ hl36 ⟨v32, rfl, hs38⟩
  ·intro ρ' τ u Fv pool rs hl hI hu hd hout hw hk
   obtain ⟨_, e1, rfl⟩ := hd 1 rfl _ rfl
   obtain ⟨_, e15, v32, rfl, hs38⟩ := hd 15 rfl _ rfl
   have hI0 := hI
   obtain rfl := hI
   refine st_ord [3, 0, 0, 0, 0] _ rfl ?_
   refine o_append (dk := (kA .i64 2)) (xs := s18.2) (ys := [[q22.1, q27.2]]) rfl rfl rfl rfl z_slT35 e1 (ho21.up hl) e15 (Sl.src hs38) hf42 hf43 (fun v39 g40 ho41 => ?_)
   refine st_ord [1, 1, 0, 0, 0] _ rfl ?_
   exact hk _ _ [g40, [(b7, .cells (lM a0 v19 v2).toArray 37 (0, 0))]] (Sto.Le.refl _) trivial (by exact ⟨v39, g40, rfl, rfl, ho41⟩)
  intro ρ' τ47 vals u Fv hl47 hI hu hv hout
  obtain ⟨v44, g45, rfl, rfl, ho46⟩ := hI
  refine st_env (ρ' := [(1, .Pb b5), (2, .Pb b6), (3, .Pb b7), (4, .I s18.1), (39, v44)]) ⟨(hout 1 rfl).trans rfl, (hout 2 rfl).trans rfl, (hout 3 rfl).trans rfl, (hout 4 rfl).trans rfl, (by exact hu _ rfl), trivial⟩ ?_
  refine o_fieldAddr rfl rfl rfl z_field37_2 rfl ?_
  refine o_store (j := 3) (vs := [v44]) (cs' := (lM a0 v44 v2)) rfl rfl rfl z_size35 rfl rfl (oneL_ow ho46) (ones_cons ho46.one' ones_nil) rfl rfl rfl ?_
  refine Z 7 rfl ?_
  refine st_ord [0, 0, 1, 0] _ rfl ?_
  exact hn18 _ _ _ _ h ⟨(hl18.trans hl47), _, _, rfl, rfl, ho46⟩
 ·refine st_exit rfl ?_
  obtain rfl := he18 _ h
  replace h := hA18
  refine st_ord [1, 1, 1] _ rfl ?_
  exact hk8 _ _ _ ⟨s18.2, _, _, h, hl18, rfl, rfl, ho21⟩
theorem law26_Of_ok {a0 : TyI} {v1 : Value} {r : (TyI)} (h : law26_Of a0 r) (σ : Sto) (hs2 : Sl (kI .u8) σ v1 a0.t4) :
    Does Tryz.prog 40 [.agg (lI a0 v1).toArray] σ [] (fun v τ gs => ∃ (v5 : Value), gs = [] ∧ .agg (lI r v5).toArray = v ∧ Sl (kI .u8) τ v5 r.t4) := by
 refine call_of Tryz.func40 Tryz.ntmps40 rfl rfl (fun cs fs => ?_)
 refine Z 2 rfl ?_
 refine o_box (cs := (lI a0 v1)) rfl rfl rfl rfl rfl (fun b3 => ?_)
 refine o_alloc rfl rfl rfl z_zero38 (fun b4 => ?_)
 refine ZZ 13 [1, 1, 1, 1, 1] rfl rfl ?_
 refine o_build (ps := [(0, [.I a0.1]), (1, [.I a0.2.1]), (2, [.I a0.2.2.1]), (3, [.I a0.2.2.2.1]), (4, [v1])]) (cs := (lI a0 v1)) rfl rfl rfl z_struct38 ⟨rfl, ⟨_, rfl, rfl⟩, ⟨rfl, ⟨_, rfl, rfl⟩, ⟨rfl, ⟨_, rfl, rfl⟩, ⟨rfl, ⟨_, rfl, rfl⟩, ⟨rfl, ⟨_, rfl, (oneL_sl hs2)⟩, trivial⟩⟩⟩⟩⟩ rfl ?_
 refine o_store (j := 0) (vs := (lI a0 v1)) (cs' := (lI a0 v1)) rfl rfl rfl z_size38 rfl rfl rfl (ones_cons rfl (ones_cons rfl (ones_cons rfl (ones_cons rfl (ones_cons hs2.one' ones_nil))))) rfl rfl rfl ?_
 refine st_end ?_
 obtain rfl := Eq.symm h
 exact st_retC (gs' := []) [.agg (lI a0 v1).toArray] Tryz.func40 ⟨⟨_, _, _, _, rfl, mem_flat 0 rfl, fun w hw => cellOfN (vs := (lI a0 v1)) z_agg38 rfl w hw⟩, trivial⟩ (by simp) (Sto.Le.refl _) ⟨_, rfl, rfl, hs2⟩
theorem law27_Of_ok {a0 : TyS} {v1 : Value} {v2 : Value} {v3 : Value} {v4 : Value} {r : (TyZ)} (h : law27_Of a0 r) (σ : Sto) (hs5 : Sl (kP (kI .i64) (kI .i64)) σ v1 a0.2.1.2.2.1) (hs6 : Sl (kI .i64) σ v2 a0.2.1.2.2.2.1) (hs7 : Sl (kI .u8) σ v3 a0.2.2.1.t4) (hs8 : Sl (kI .i64) σ v4 a0.2.2.2) :
    Does Tryz.prog 14 [.agg (lS a0 v1 v2 v3 v4).toArray] σ [] (fun v τ gs => ∃ (v26 : Value) (v27 : Value) (v28 : Value) (v29 : Value), gs = [] ∧ .agg (lS r v26 v27 v28 v29).toArray = v ∧ Sl (kA .i64 2) τ v26 r.2.1.2.2.1 ∧ Sl (kI .i64) τ v27 r.2.1.2.2.2.1 ∧ Sl (kI .u8) τ v28 r.2.2.1.t4 ∧ Sl (kI .i64) τ v29 r.2.2.2) := by
 refine call_of Tryz.func14 Tryz.ntmps14 rfl rfl (fun cs fs => ?_)
 refine Z 2 rfl ?_
 refine o_box (cs := (lS a0 v1 v2 v3 v4)) rfl rfl rfl rfl rfl (fun b9 => ?_)
 refine o_alloc rfl rfl rfl z_zero40 (fun b10 => ?_)
 refine Z 2 rfl ?_
 obtain ⟨r11, hr12, r19, hr20, h⟩ := h
 refine st_draw 11 (dl [.v (.Pb b9), .v (.I a0.1), .v (.pointer (some ⟨b9, 1, none⟩)), .v (.agg (lM a0.2.1 v1 v2).toArray), .t fun τ v => ∃ (v15 : Value) (v16 : Value), (.agg (lM r11 v15 v16).toArray : Value) = v ∧ Sl (kA .i64 2) τ v15 r11.2.2.1 ∧ Sl (kI .i64) τ v16 r11.2.2.2.1, .v (.pointer (some ⟨b9, 12, none⟩)), .v (.agg (lI a0.2.2.1 v3).toArray), .t fun τ v => ∃ (v23 : Value), (.agg (lI r19 v23).toArray : Value) = v ∧ Sl (kI .u8) τ v23 r19.t4, .v (.pointer (some ⟨b9, 17, none⟩)), .v (v4), .t fun τ v => ∃ (v15 : Value) (v16 : Value) (v23 : Value), (.agg #[.I a0.1, .I r11.1, .I (r11.2.1.getD 0 0), .I (r11.2.1.getD 1 0), .I (r11.2.1.getD 2 0), .I (r11.2.1.getD 3 0), .I (r11.2.1.getD 4 0), .I (r11.2.1.getD 5 0), v15, v16, .string r11.t4.1, .string r11.t4.2, .I r19.1, .I r19.2.1, .I r19.2.2.1, .I r19.2.2.2.1, v23, v4] : Value) = v ∧ Sl (kA .i64 2) τ v15 r11.2.2.1 ∧ Sl (kI .i64) τ v16 r11.2.2.2.1 ∧ Sl (kI .u8) τ v23 r19.t4]) (fun _ _ => []) z_mix rfl (dl_mono ⟨fun _ _ _ hl ⟨v15, v16, hv, hs17, hs18⟩ => ⟨v15, v16, hv, hs17.up hl, hs18.up hl⟩, ⟨fun _ _ _ hl ⟨v23, hv, hs24⟩ => ⟨v23, hv, hs24.up hl⟩, ⟨fun _ _ _ hl ⟨v15, v16, v23, hv, hs17, hs18, hs24⟩ => ⟨v15, v16, v23, hv, hs17.up hl, hs18.up hl, hs24.up hl⟩, trivial⟩⟩⟩) (allB_cons (allB_cons (allB_cons (allB_cons (allB_cons (allB_cons (allB_cons (allB_cons (allB_cons (allB_cons (allB_cons allB_nil (p1 dA)) ?_) (p1 dA)) ?_) ?_) (p1 dA)) ?_) ?_) (p1 dA)) ?_) ?_) ?_
 ·intro ρ' τ pool rs hl hd hout hk
  obtain ⟨_, e0, rfl⟩ := hd 0 rfl
  refine o_load (j := 1) (v := .I a0.1) rfl rfl rfl z_sc3 e0 rfl rfl ?_
  exact st_addNil (hk _ _ (Sto.Le.refl _) rfl)
 ·intro ρ' τ pool rs hl hd hout hk
  obtain ⟨_, e2, rfl⟩ := hd 2 rfl
  refine o_loadN (j := 1) (vs := (lM a0.2.1 v1 v2)) rfl rfl rfl z_agg26 e2 rfl rfl ?_
  exact st_addNil (hk _ _ (Sto.Le.refl _) rfl)
 ·intro ρ' τ pool rs hl hd hout hk
  obtain ⟨_, e3, rfl⟩ := hd 3 rfl
  refine st_call (foot := []) rfl rfl rfl rfl (evs_cons e3 rfl) rfl (callV_fn z_en39 (law17_Of_ok hr12 τ (hs5.up hl) (hs6.up hl))) ?_
  rintro vτ13 τ13 gsτ13 hl14 ⟨v15, v16, rfl, rfl, hs17, hs18⟩
  exact st_addNil (hk _ _ hl14 ⟨v15, v16, rfl, hs17, hs18⟩)
 ·intro ρ' τ pool rs hl hd hout hk
  obtain ⟨_, e5, rfl⟩ := hd 5 rfl
  refine o_loadN (j := 1) (vs := (lI a0.2.2.1 v3)) rfl rfl rfl z_agg29 e5 rfl rfl ?_
  exact st_addNil (hk _ _ (Sto.Le.refl _) rfl)
 ·intro ρ' τ pool rs hl hd hout hk
  obtain ⟨_, e6, rfl⟩ := hd 6 rfl
  refine st_call (foot := []) rfl rfl rfl rfl (evs_cons e6 rfl) rfl (callV_fn z_en40 (law26_Of_ok hr20 τ (hs7.up hl))) ?_
  rintro vτ21 τ21 gsτ21 hl22 ⟨v23, rfl, rfl, hs24⟩
  exact st_addNil (hk _ _ hl22 ⟨v23, rfl, hs24⟩)
 ·intro ρ' τ pool rs hl hd hout hk
  obtain ⟨_, e8, rfl⟩ := hd 8 rfl
  refine o_load (j := 1) (v := v4) rfl rfl rfl z_sc24 e8 rfl rfl ?_
  exact st_addNil (hk _ _ (Sto.Le.refl _) rfl)
 ·intro ρ' τ pool rs hl hd hout hk
  obtain ⟨_, e1, rfl⟩ := hd 1 rfl
  obtain ⟨_, e4, v15, v16, rfl, hs17, hs18⟩ := hd 4 rfl
  obtain ⟨_, e7, v23, rfl, hs24⟩ := hd 7 rfl
  obtain ⟨_, e9, rfl⟩ := hd 9 rfl
  refine o_build (ps := [(0, [.I a0.1]), (1, (lM r11 v15 v16)), (2, (lI r19 v23)), (3, [v4])]) (cs := [.I a0.1, .I r11.1, .I (r11.2.1.getD 0 0), .I (r11.2.1.getD 1 0), .I (r11.2.1.getD 2 0), .I (r11.2.1.getD 3 0), .I (r11.2.1.getD 4 0), .I (r11.2.1.getD 5 0), v15, v16, .string r11.t4.1, .string r11.t4.2, .I r19.1, .I r19.2.1, .I r19.2.2.1, .I r19.2.2.2.1, v23, v4]) rfl rfl rfl z_struct40 ⟨rfl, ⟨_, e1, rfl⟩, ⟨rfl, ⟨_, e4, rfl⟩, ⟨rfl, ⟨_, e7, rfl⟩, ⟨rfl, ⟨_, e9, (oneL_sl (hs8.up hl))⟩, trivial⟩⟩⟩⟩ rfl ?_
  exact st_addNil (hk _ _ (Sto.Le.refl _) ⟨v15, v16, v23, rfl, hs17, hs18, hs24⟩)
 intro ρ' τ25 vals hl25 hv hout
 obtain ⟨l10, v15, v16, v23, t10, hs17, hs18, hs24⟩ := hv 10 (by decide)
 replace l10 : Eng.look ρ' 13 = some (.agg #[.I a0.1, .I r11.1, .I (r11.2.1.getD 0 0), .I (r11.2.1.getD 1 0), .I (r11.2.1.getD 2 0), .I (r11.2.1.getD 3 0), .I (r11.2.1.getD 4 0), .I (r11.2.1.getD 5 0), v15, v16, .string r11.t4.1, .string r11.t4.2, .I r19.1, .I r19.2.1, .I r19.2.2.1, .I r19.2.2.2.1, v23, v4]) := l10.trans (congrArg some (Eq.symm t10))
 refine st_ord [0, 0] _ rfl ?_
 refine st_env (ρ' := [(13, .agg #[.I a0.1, .I r11.1, .I (r11.2.1.getD 0 0), .I (r11.2.1.getD 1 0), .I (r11.2.1.getD 2 0), .I (r11.2.1.getD 3 0), .I (r11.2.1.getD 4 0), .I (r11.2.1.getD 5 0), v15, v16, .string r11.t4.1, .string r11.t4.2, .I r19.1, .I r19.2.1, .I r19.2.2.1, .I r19.2.2.2.1, v23, v4]), (2, .Pb b10)]) ⟨l10, (hout 2 rfl).trans rfl, trivial⟩ ?_
 refine o_store (j := 0) (vs := [.I a0.1, .I r11.1, .I (r11.2.1.getD 0 0), .I (r11.2.1.getD 1 0), .I (r11.2.1.getD 2 0), .I (r11.2.1.getD 3 0), .I (r11.2.1.getD 4 0), .I (r11.2.1.getD 5 0), v15, v16, .string r11.t4.1, .string r11.t4.2, .I r19.1, .I r19.2.1, .I r19.2.2.1, .I r19.2.2.2.1, v23, v4]) (cs' := [.I a0.1, .I r11.1, .I (r11.2.1.getD 0 0), .I (r11.2.1.getD 1 0), .I (r11.2.1.getD 2 0), .I (r11.2.1.getD 3 0), .I (r11.2.1.getD 4 0), .I (r11.2.1.getD 5 0), v15, v16, .string r11.t4.1, .string r11.t4.2, .I r19.1, .I r19.2.1, .I r19.2.2.1, .I r19.2.2.2.1, v23, v4]) rfl rfl rfl z_size40 rfl rfl rfl (ones_cons rfl (ones_cons rfl (ones_cons rfl (ones_cons rfl (ones_cons rfl (ones_cons rfl (ones_cons rfl (ones_cons rfl (ones_cons hs17.one' (ones_cons hs18.one' (ones_cons rfl (ones_cons rfl (ones_cons rfl (ones_cons rfl (ones_cons rfl (ones_cons rfl (ones_cons hs24.one' (ones_cons (hs8.up hl25).one' ones_nil)))))))))))))))))) rfl rfl rfl ?_
 refine st_end ?_
 obtain rfl := Eq.symm h
 exact st_retC (gs' := []) [.agg #[.I a0.1, .I r11.1, .I (r11.2.1.getD 0 0), .I (r11.2.1.getD 1 0), .I (r11.2.1.getD 2 0), .I (r11.2.1.getD 3 0), .I (r11.2.1.getD 4 0), .I (r11.2.1.getD 5 0), v15, v16, .string r11.t4.1, .string r11.t4.2, .I r19.1, .I r19.2.1, .I r19.2.2.1, .I r19.2.2.2.1, v23, v4]] Tryz.func14 ⟨⟨_, _, _, _, rfl, mem_flat 0 rfl, fun w hw => cellOfN (vs := [.I a0.1, .I r11.1, .I (r11.2.1.getD 0 0), .I (r11.2.1.getD 1 0), .I (r11.2.1.getD 2 0), .I (r11.2.1.getD 3 0), .I (r11.2.1.getD 4 0), .I (r11.2.1.getD 5 0), v15, v16, .string r11.t4.1, .string r11.t4.2, .I r19.1, .I r19.2.1, .I r19.2.2.1, .I r19.2.2.2.1, v23, v4]) z_agg40 rfl w hw⟩, trivial⟩ (by simp) hl25 ⟨_, _, _, _, rfl, rfl, hs17, hs18, hs24, (hs8.up hl25)⟩
theorem law17_Cut_ok {a0 : TyM} {v1 : Value} {v2 : Value} {r : (TyM)} (h : law17_Cut a0 r) (σ : Sto) (hs3 : Sl (kP (kI .i64) (kI .i64)) σ v1 a0.2.2.1) (hs4 : Sl (kI .i64) σ v2 a0.2.2.2.1) :
    Does Tryz.prog 36 [.agg (lM a0 v1 v2).toArray] σ [] (fun v τ gs => ∃ (v23 : Value) (v24 : Value), gs = [] ∧ .agg (lM r v23 v24).toArray = v ∧ Sl (kP (kI .i64) (kI .i64)) τ v23 r.2.2.1 ∧ Sl (kI .i64) τ v24 r.2.2.2.1) := by
 refine call_of Tryz.func36 Tryz.ntmps36 rfl rfl (fun cs fs => ?_)
 refine Z 2 rfl ?_
 refine o_box (cs := (lM a0 v1 v2)) rfl rfl rfl rfl rfl (fun b5 => ?_)
 refine o_alloc rfl rfl rfl z_zero26 (fun b6 => ?_)
 refine Z 2 rfl ?_
 obtain ⟨hf7, hf8, hf11, hf12, h⟩ := h
 refine st_d41 [[(b6, .cells lY.toArray 26 (0, 0))]] [[(b5, .cells (lM a0 v1 v2).toArray 26 (0, 0))]] 16 1 [none, none, none, none, none, none, none, none, none, none, none, none, none, none, none, some (0, 0)] [none, some (0, 0), none, some (0, 0), none, none, none, none, some (0, 0), none, some (0, 0), none, none, none, none, none] [[none, none]] [.v (.pointer (some ⟨b5, 7, none⟩)), .v (v1), .v (.pointer (some ⟨b5, 7, none⟩)), .v (v1), .v (.I (a0.2.2.1.length : Int)), .v (.I (min (a0.2.2.1.length : Int) 40)), .t fun τ v => ∃ (v9 : Value), (v9 : Value) = v ∧ Sl (kP (kI .i64) (kI .i64)) τ v9 ((a0.2.2.1.drop (0 : Int).toNat).take (((min (a0.2.2.1.length : Int) 40) : Int) - 0).toNat), .v (.pointer (some ⟨b5, 8, none⟩)), .v (v2), .v (.pointer (some ⟨b5, 8, none⟩)), .v (v2), .v (.I (a0.2.2.2.1.length : Int)), .v (.I (min (a0.2.2.2.1.length : Int) 40)), .t fun τ v => ∃ (v13 : Value), (v13 : Value) = v ∧ Sl (kI .i64) τ v13 ((a0.2.2.2.1.drop (0 : Int).toNat).take (((min (a0.2.2.2.1.length : Int) 40) : Int) - 0).toNat), .v (.pointer (some ⟨b5, 7, none⟩)), .t fun _ _ => True] [[fun τ u F => F = [[(b5, .cells (lM a0 v1 v2).toArray 26 (0, 0))]], fun τ u F => ∃ (v15 : Value), F = [[(b5, .cells (lM a0 v15 v2).toArray 26 (0, 0))]] ∧ Sl (kP (kI .i64) (kI .i64)) τ v15 ((a0.2.2.1.drop (0 : Int).toNat).take (((min (a0.2.2.1.length : Int) 40) : Int) - 0).toNat)]] rfl z_mix rfl ⟨fun _ _ _ hl ⟨v9, hv, hs10⟩ => ⟨v9, hv, hs10.up hl⟩, ⟨fun _ _ _ hl ⟨v13, hv, hs14⟩ => ⟨v13, hv, hs14.up hl⟩, ⟨fun _ _ _ _ _ => trivial, trivial⟩⟩⟩ ⟨⟨fun _ _ _ _ hl h => h, ⟨fun _ _ _ _ hl h => (let ⟨v15, hF, hs16⟩ := h; ⟨v15, hF, hs16.up hl⟩), trivial⟩⟩, trivial⟩ rfl rfl ?_ (allB_cons (allB_cons (allB_cons (allB_cons (allB_cons (allB_cons (allB_cons (allB_cons (allB_cons (allB_cons (allB_cons (allB_cons (allB_cons (allB_cons (allB_cons (allB_cons allB_nil (p4 dA)) ?_) (p4 dA)) ?_) ?_) (p4 dA)) ?_) (p4 dA)) ?_) (p4 dA)) ?_) ?_) (p4 dA)) ?_) (p4 dA)) ?_) ?_
 ·exact rfl
 ·intro ρ' τ u Fv pool rs hl hI hu hd hout hw hk
  obtain ⟨_, e0, rfl⟩ := hd 0 rfl _ rfl
  have hI0 := hI
  obtain rfl := hI
  refine o_load (j := 1) (v := v1) rfl rfl rfl z_sc23 e0 rfl rfl ?_
  exact hk _ _ (Sto.Le.refl _) rfl
 ·intro ρ' τ u Fv pool rs hl hI hu hd hout hw hk
  obtain ⟨_, e2, rfl⟩ := hd 2 rfl _ rfl
  have hI0 := hI
  obtain rfl := hI
  refine o_load (j := 1) (v := v1) rfl rfl rfl z_sc23 e2 rfl rfl ?_
  exact hk _ _ (Sto.Le.refl _) rfl
 ·intro ρ' τ pool rs hl hd hout hw hk
  obtain ⟨_, e3, rfl⟩ := hd 3 rfl _ rfl
  refine o_lenI rfl rfl rfl z_slT23 e3 (hs3.up hl) ?_
  exact hk _ _ (Sto.Le.refl _) rfl
 ·intro ρ' τ pool rs hl hd hout hw hk
  obtain ⟨_, e1, rfl⟩ := hd 1 rfl _ rfl
  obtain ⟨_, e5, rfl⟩ := hd 5 rfl _ rfl
  refine o_slice (L := 0) (H := (min (a0.2.2.1.length : Int) 40)) rfl rfl rfl z_slT23 rfl e1 (hs3.up hl) rfl ⟨_, e5⟩ (by decide) hf7 hf8 trivial (by simp) (fun v9 hs10 => ?_)
  exact hk _ _ (Sto.Le.refl _) ⟨v9, rfl, hs10⟩
 ·intro ρ' τ u Fv pool rs hl hI hu hd hout hw hk
  obtain ⟨_, e7, rfl⟩ := hd 7 rfl _ rfl
  have hI0 := hI
  obtain rfl := hI
  refine o_load (j := 1) (v := v2) rfl rfl rfl z_sc24 e7 rfl rfl ?_
  exact hk _ _ (Sto.Le.refl _) rfl
 ·intro ρ' τ u Fv pool rs hl hI hu hd hout hw hk
  obtain ⟨_, e9, rfl⟩ := hd 9 rfl _ rfl
  have hI0 := hI
  obtain rfl := hI
  refine o_load (j := 1) (v := v2) rfl rfl rfl z_sc24 e9 rfl rfl ?_
  exact hk _ _ (Sto.Le.refl _) rfl
 ·intro ρ' τ pool rs hl hd hout hw hk
  obtain ⟨_, e10, rfl⟩ := hd 10 rfl _ rfl
  refine o_lenI rfl rfl rfl z_slT24 e10 (hs4.up hl) ?_
  exact hk _ _ (Sto.Le.refl _) rfl
 ·intro ρ' τ pool rs hl hd hout hw hk
  obtain ⟨_, e8, rfl⟩ := hd 8 rfl _ rfl
  obtain ⟨_, e12, rfl⟩ := hd 12 rfl _ rfl
  refine o_slice (L := 0) (H := (min (a0.2.2.2.1.length : Int) 40)) rfl rfl rfl z_slT24 rfl e8 (hs4.up hl) rfl ⟨_, e12⟩ (by decide) hf11 hf12 trivial (by simp) (fun v13 hs14 => ?_)
  exact hk _ _ (Sto.Le.refl _) ⟨v13, rfl, hs14⟩
 ·intro ρ' τ u Fv pool rs hl hI hu hd hout hw hk
  obtain ⟨_, e6, v9, rfl, hs10⟩ := hd 6 rfl _ rfl
  obtain ⟨_, e14, rfl⟩ := hd 14 rfl _ rfl
  have hI0 := hI
  obtain rfl := hI
  refine o_store (j := 1) (vs := [v9]) (cs' := (lM a0 v9 v2)) rfl rfl rfl z_size23 e14 e6 (oneL_sl hs10) (ones_cons hs10.one' ones_nil) rfl rfl rfl ?_
  exact hk _ _ [[(b5, .cells (lM a0 v9 v2).toArray 26 (0, 0))]] (Sto.Le.refl _) trivial (by exact ⟨v9, rfl, hs10⟩)
 intro ρ' τ17 vals u Fv hl17 hI hu hv hout
 obtain ⟨l13, v13, t13, hs14⟩ := hv 13 (by decide)
 replace l13 := l13 _ rfl
 replace l13 : Eng.look ρ' 16 = some (v13) := l13.trans (congrArg some (Eq.symm t13))
 obtain ⟨v15, rfl, hs16⟩ := hI
 refine st_env (ρ' := [(16, v13), (1, .Pb b5), (2, .Pb b6)]) ⟨l13, (hout 1 rfl).trans rfl, (hout 2 rfl).trans rfl, trivial⟩ ?_
 refine o_fieldAddr rfl rfl rfl z_field26_3 rfl ?_
 refine o_store (j := 1) (vs := [v13]) (cs' := (lM a0 v15 v13)) rfl rfl rfl z_size24 rfl rfl (oneL_sl hs14) (ones_cons hs14.one' ones_nil) rfl rfl rfl ?_
 refine Z 2 rfl ?_
 obtain ⟨hf18, hf19, hf20, hf21, h⟩ := h
 refine st_d41 [[(b6, .cells lY.toArray 26 (0, 0))]] [[(b5, .cells (lM a0 v15 v13).toArray 26 (0, 0))]] 16 1 [none, none, none, none, none, none, none, none, none, none, none, none, none, none, none, some (0, 0)] [none, some (0, 0), none, some (0, 0), none, none, none, none, some (0, 0), none, some (0, 0), none, none, none, none, none] [[none, none]] [.v (.pointer (some ⟨b5, 9, none⟩)), .v (.string a0.t4.1), .v (.pointer (some ⟨b5, 9, none⟩)), .v (.string a0.t4.1), .v (.I (a0.t4.1.size : Int)), .v (.I (min (a0.t4.1.size : Int) 80)), .v (.string (a0.t4.1.extract 0 (min (a0.t4.1.size : Int) 80).toNat)), .v (.pointer (some ⟨b5, 10, none⟩)), .v (.string a0.t4.2), .v (.pointer (some ⟨b5, 10, none⟩)), .v (.string a0.t4.2), .v (.I (a0.t4.2.size : Int)), .v (.I (min (a0.t4.2.size : Int) 80)), .v (.string (a0.t4.2.extract 0 (min (a0.t4.2.size : Int) 80).toNat)), .v (.pointer (some ⟨b5, 9, none⟩)), .t fun _ _ => True] [[fun τ u F => F = [[(b5, .cells (lM a0 v15 v13).toArray 26 (0, 0))]], fun τ u F => F = [[(b5, .cells #[.I a0.1, .I (a0.2.1.getD 0 0), .I (a0.2.1.getD 1 0), .I (a0.2.1.getD 2 0), .I (a0.2.1.getD 3 0), .I (a0.2.1.getD 4 0), .I (a0.2.1.getD 5 0), v15, v13, .string (a0.t4.1.extract 0 (min (a0.t4.1.size : Int) 80).toNat), .string a0.t4.2] 26 (0, 0))]]]] rfl z_mix rfl ⟨fun _ _ _ _ _ => trivial, trivial⟩ ⟨⟨fun _ _ _ _ hl h => h, ⟨fun _ _ _ _ hl h => h, trivial⟩⟩, trivial⟩ rfl rfl ?_ (allB_cons (allB_cons (allB_cons (allB_cons (allB_cons (allB_cons (allB_cons (allB_cons (allB_cons (allB_cons (allB_cons (allB_cons (allB_cons (allB_cons (allB_cons (allB_cons allB_nil (p4 dA)) ?_) (p4 dA)) ?_) (p4 dA)) (p4 dA)) ?_) (p4 dA)) ?_) (p4 dA)) ?_) (p4 dA)) (p4 dA)) ?_) (p4 dA)) ?_) ?_
 ·exact rfl
 ·intro ρ' τ u Fv pool rs hl hI hu hd hout hw hk
  obtain ⟨_, e0, rfl⟩ := hd 0 rfl _ rfl
  have hI0 := hI
  obtain rfl := hI
  refine o_load (j := 1) (v := .string a0.t4.1) rfl rfl rfl z_sc9 e0 rfl rfl ?_
  exact hk _ _ (Sto.Le.refl _) rfl
 ·intro ρ' τ u Fv pool rs hl hI hu hd hout hw hk
  obtain ⟨_, e2, rfl⟩ := hd 2 rfl _ rfl
  have hI0 := hI
  obtain rfl := hI
  refine o_load (j := 1) (v := .string a0.t4.1) rfl rfl rfl z_sc9 e2 rfl rfl ?_
  exact hk _ _ (Sto.Le.refl _) rfl
 ·intro ρ' τ pool rs hl hd hout hw hk
  obtain ⟨_, e1, rfl⟩ := hd 1 rfl _ rfl
  obtain ⟨_, e5, rfl⟩ := hd 5 rfl _ rfl
  refine o_sliceSh rfl rfl rfl Tryz.underlying9 e1 e5 hf18 hf19 ?_
  exact hk _ _ (Sto.Le.refl _) rfl
 ·intro ρ' τ u Fv pool rs hl hI hu hd hout hw hk
  obtain ⟨_, e7, rfl⟩ := hd 7 rfl _ rfl
  have hI0 := hI
  obtain rfl := hI
  refine o_load (j := 1) (v := .string a0.t4.2) rfl rfl rfl z_sc9 e7 rfl rfl ?_
  exact hk _ _ (Sto.Le.refl _) rfl
 ·intro ρ' τ u Fv pool rs hl hI hu hd hout hw hk
  obtain ⟨_, e9, rfl⟩ := hd 9 rfl _ rfl
  have hI0 := hI
  obtain rfl := hI
  refine o_load (j := 1) (v := .string a0.t4.2) rfl rfl rfl z_sc9 e9 rfl rfl ?_
  exact hk _ _ (Sto.Le.refl _) rfl
 ·intro ρ' τ pool rs hl hd hout hw hk
  obtain ⟨_, e8, rfl⟩ := hd 8 rfl _ rfl
  obtain ⟨_, e12, rfl⟩ := hd 12 rfl _ rfl
  refine o_sliceSh rfl rfl rfl Tryz.underlying9 e8 e12 hf20 hf21 ?_
  exact hk _ _ (Sto.Le.refl _) rfl
 ·intro ρ' τ u Fv pool rs hl hI hu hd hout hw hk
  obtain ⟨_, e6, rfl⟩ := hd 6 rfl _ rfl
  obtain ⟨_, e14, rfl⟩ := hd 14 rfl _ rfl
  have hI0 := hI
  obtain rfl := hI
  refine o_store (j := 1) (vs := [.string (a0.t4.1.extract 0 (min (a0.t4.1.size : Int) 80).toNat)]) (cs' := [.I a0.1, .I (a0.2.1.getD 0 0), .I (a0.2.1.getD 1 0), .I (a0.2.1.getD 2 0), .I (a0.2.1.getD 3 0), .I (a0.2.1.getD 4 0), .I (a0.2.1.getD 5 0), v15, v13, .string (a0.t4.1.extract 0 (min (a0.t4.1.size : Int) 80).toNat), .string a0.t4.2]) rfl rfl rfl z_size9 e14 e6 rfl (ones_cons rfl ones_nil) rfl rfl rfl ?_
  exact hk _ _ [[(b5, .cells #[.I a0.1, .I (a0.2.1.getD 0 0), .I (a0.2.1.getD 1 0), .I (a0.2.1.getD 2 0), .I (a0.2.1.getD 3 0), .I (a0.2.1.getD 4 0), .I (a0.2.1.getD 5 0), v15, v13, .string (a0.t4.1.extract 0 (min (a0.t4.1.size : Int) 80).toNat), .string a0.t4.2] 26 (0, 0))]] (Sto.Le.refl _) trivial (by exact rfl)
 intro ρ' τ22 vals u Fv hl22 hI hu hv hout
 obtain rfl := hI
 refine st_env (ρ' := [(32, .string (a0.t4.2.extract 0 (min (a0.t4.2.size : Int) 80).toNat)), (1, .Pb b5), (2, .Pb b6)]) ⟨(lv4 hv 13 rfl rfl rfl), (hout 1 rfl).trans rfl, (hout 2 rfl).trans rfl, trivial⟩ ?_
 refine ZZ 6 [1, 1] rfl rfl ?_
 refine o_store (j := 0) (vs := [.I a0.1, .I (a0.2.1.getD 0 0), .I (a0.2.1.getD 1 0), .I (a0.2.1.getD 2 0), .I (a0.2.1.getD 3 0), .I (a0.2.1.getD 4 0), .I (a0.2.1.getD 5 0), v15, v13, .string (a0.t4.1.extract 0 (min (a0.t4.1.size : Int) 80).toNat), .string (a0.t4.2.extract 0 (min (a0.t4.2.size : Int) 80).toNat)]) (cs' := [.I a0.1, .I (a0.2.1.getD 0 0), .I (a0.2.1.getD 1 0), .I (a0.2.1.getD 2 0), .I (a0.2.1.getD 3 0), .I (a0.2.1.getD 4 0), .I (a0.2.1.getD 5 0), v15, v13, .string (a0.t4.1.extract 0 (min (a0.t4.1.size : Int) 80).toNat), .string (a0.t4.2.extract 0 (min (a0.t4.2.size : Int) 80).toNat)]) rfl rfl rfl z_size26 rfl rfl rfl (ones_cons rfl (ones_cons rfl (ones_cons rfl (ones_cons rfl (ones_cons rfl (ones_cons rfl (ones_cons rfl (ones_cons (hs16.up hl22).one' (ones_cons (hs14.up hl22).one' (ones_cons rfl (ones_cons rfl ones_nil))))))))))) rfl rfl rfl ?_
 refine st_end ?_
 obtain rfl := Eq.symm h
 exact st_retC (gs' := []) [.agg #[.I a0.1, .I (a0.2.1.getD 0 0), .I (a0.2.1.getD 1 0), .I (a0.2.1.getD 2 0), .I (a0.2.1.getD 3 0), .I (a0.2.1.getD 4 0), .I (a0.2.1.getD 5 0), v15, v13, .string (a0.t4.1.extract 0 (min (a0.t4.1.size : Int) 80).toNat), .string (a0.t4.2.extract 0 (min (a0.t4.2.size : Int) 80).toNat)]] Tryz.func36 ⟨⟨_, _, _, _, rfl, mem_flat 0 rfl, fun w hw => cellOfN (vs := [.I a0.1, .I (a0.2.1.getD 0 0), .I (a0.2.1.getD 1 0), .I (a0.2.1.getD 2 0), .I (a0.2.1.getD 3 0), .I (a0.2.1.getD 4 0), .I (a0.2.1.getD 5 0), v15, v13, .string (a0.t4.1.extract 0 (min (a0.t4.1.size : Int) 80).toNat), .string (a0.t4.2.extract 0 (min (a0.t4.2.size : Int) 80).toNat)]) z_agg26 rfl w hw⟩, trivial⟩ (by simp) (hl17.trans hl22) ⟨_, _, rfl, rfl, (hs16.up hl22), (hs14.up hl22)⟩
theorem law26_Cut_ok {a0 : TyI} {v1 : Value} {r : (TyI)} (h : law26_Cut a0 r) (σ : Sto) (hs2 : Sl (kI .u8) σ v1 a0.t4) :
    Does Tryz.prog 37 [.agg (lI a0 v1).toArray] σ [] (fun v τ gs => ∃ (v9 : Value), gs = [] ∧ .agg (lI r v9).toArray = v ∧ Sl (kI .u8) τ v9 r.t4) := by
 refine call_of Tryz.func37 Tryz.ntmps37 rfl rfl (fun cs fs => ?_)
 refine Z 2 rfl ?_
 refine o_box (cs := (lI a0 v1)) rfl rfl rfl rfl rfl (fun b3 => ?_)
 refine o_alloc rfl rfl rfl z_zero29 (fun b4 => ?_)
 refine ZZ 7 [1, 1] rfl rfl ?_
 refine o_lenI rfl rfl rfl z_slT27 rfl hs2 ?_
 refine o_min2 rfl rfl rfl rfl rfl ?_
 obtain ⟨hf5, hf6, h⟩ := h
 refine o_slice (L := 0) (H := (min (a0.t4.length : Int) 300)) rfl rfl rfl z_slT27 rfl rfl hs2 rfl ⟨_, rfl⟩ (by decide) hf5 hf6 trivial (by simp) (fun v7 hs8 => ?_)
 refine o_fieldAddr rfl rfl rfl z_field29_4 rfl ?_
 refine o_store (j := 1) (vs := [v7]) (cs' := (lI a0 v7)) rfl rfl rfl z_size27 rfl rfl (oneL_sl hs8) (ones_cons hs8.one' ones_nil) rfl rfl rfl ?_
 refine ZZ 4 [1] rfl rfl ?_
 refine o_store (j := 0) (vs := (lI a0 v7)) (cs' := (lI a0 v7)) rfl rfl rfl z_size29 rfl rfl rfl (ones_cons rfl (ones_cons rfl (ones_cons rfl (ones_cons rfl (ones_cons hs8.one' ones_nil))))) rfl rfl rfl ?_
 refine st_end ?_
 obtain rfl := Eq.symm h
 exact st_retC (gs' := []) [.agg (lI a0 v7).toArray] Tryz.func37 ⟨⟨_, _, _, _, rfl, mem_flat 0 rfl, fun w hw => cellOfN (vs := (lI a0 v7)) z_agg29 rfl w hw⟩, trivial⟩ (by simp) (Sto.Le.refl _) ⟨_, rfl, rfl, hs8⟩
end Go.Rel
