import Derived.Test.YthglcjhdmoljjaaDoorURel
import Derived.Test.YthglcjhdmoljjaaDoorUFacts
import Derived.Test.YthglcjhdmoljjaaDoorUWalk0
/-! The walks. -/
set_option linter.unusedVariables false
set_option linter.unusedSimpArgs false
set_option maxRecDepth 4000
set_option maxHeartbeats 4000000
namespace Go.Rel
open Go Go.Eng Go.Proofs
theorem law25_TallyMerges_ok {a0 : List (Int × Int × Int × Int × (Int × List Int × List (Int × Int) × List Int × ByteArray × ByteArray))} {a1 : List (Int × Int × Int × Int × (Int × List Int × List (Int × Int) × List Int × ByteArray × ByteArray))} {v1 : Value} {v3 : Value} {r : Bool} (h : law25_TallyMerges a0 a1 r) (σ : Sto) (hs2 : Sl (kP (kI .i64) (kP (kI .u32) (kP (kI .i64) (kP (kI .i64) (kP (kI .i64) (kP (kA .i64 6) (kP (kSl (kP (kI .i64) (kI .i64))) (kP (kSl (kI .i64)) (kP kS kS))))))))) σ v1 a0) (hs4 : Sl (kP (kI .i64) (kP (kI .u32) (kP (kI .i64) (kP (kI .i64) (kP (kI .i64) (kP (kA .i64 6) (kP (kSl (kP (kI .i64) (kI .i64))) (kP (kSl (kI .i64)) (kP kS kS))))))))) σ v3 a1) (hT : Tab Tryd.prog σ) :
    Does Tryd.prog 5 [v1, v3] σ [] (fun v τ gs => gs = [] ∧ .bool r = v) := by
 refine call_of Tryd.func5 Tryd.ntmps5 rfl rfl (fun cs fs => ?_)
 refine Z 7 rfl ?_
 obtain ⟨r5, hr6, h⟩ := h
 refine st_call (foot := []) rfl rfl rfl rfl rfl rfl (callV_fn z_en17 (law25_cut_ok hr6 σ hs2)) ?_
 rintro vτ7 τ7 gsτ7 hl8 ⟨v9, rfl, rfl, hs10⟩
 refine o_move rfl rfl rfl rfl ?_
 obtain ⟨r11, hr12, h⟩ := h
 refine st_call (foot := []) rfl rfl rfl rfl rfl rfl (callV_fn z_en17 (law25_cut_ok hr12 τ7 (hs4.up hl8))) ?_
 rintro vτ13 τ13 gsτ13 hl14 ⟨v15, rfl, rfl, hs16⟩
 refine Z 5 rfl ?_
 obtain ⟨r17, hr18, h⟩ := h
 refine st_call (foot := []) rfl rfl rfl rfl rfl rfl (callV_fn z_en19 (tally_New_ok hr18 τ13)) ?_
 rintro vτ19 τ19 gsτ19 hl20 ⟨b21, v22, g23, rfl, rfl, ho24⟩
 obtain ⟨r25, hr26, h⟩ := h
 refine st_call (foot := []) rfl rfl rfl rfl rfl rfl (callV_fn z_en19 (tally_New_ok hr26 τ19)) ?_
 rintro vτ27 τ27 gsτ27 hl28 ⟨b29, v30, g31, rfl, rfl, ho32⟩
 obtain ⟨r33, hr34, h⟩ := h
 refine st_call (foot := []) rfl rfl rfl rfl rfl rfl (callV_fn z_en19 (tally_New_ok hr34 τ27)) ?_
 rintro vτ35 τ35 gsτ35 hl36 ⟨b37, v38, g39, rfl, rfl, ho40⟩
 obtain ⟨r41, hr42, h⟩ := h
 refine st_call (foot := []) rfl rfl rfl rfl rfl rfl (callV_fn z_en19 (tally_New_ok hr42 τ35)) ?_
 rintro vτ43 τ43 gsτ43 hl44 ⟨b45, v46, g47, rfl, rfl, ho48⟩
 obtain ⟨r49, hr50, h⟩ := h
 refine st_call (foot := []) rfl rfl rfl rfl rfl rfl (callV_fn z_en19 (tally_New_ok hr50 τ43)) ?_
 rintro vτ51 τ51 gsτ51 hl52 ⟨b53, v54, g55, rfl, rfl, ho56⟩
 refine Z 10 rfl ?_
 obtain ⟨r57, hr58, h⟩ := h
 refine st_ord [8, 8, 0, 0, 0, 0, 0, 0, 0, 0] _ rfl ?_
 refine st_call (foot := [[(b21, .cells #[.int .i64 r17.1, .int .i64 r17.2.1, .int .i64 (r17.2.2.1.getD 0 0), .int .i64 (r17.2.2.1.getD 1 0), .int .i64 (r17.2.2.1.getD 2 0), .int .i64 (r17.2.2.1.getD 3 0), .int .i64 (r17.2.2.1.getD 4 0), .int .i64 (r17.2.2.1.getD 5 0), v22] 78 (0, 0))], g23]) rfl rfl rfl rfl rfl rfl (callV_fn z_en16 (tally_Tally_Add_ok hr58 τ51 (ho24.up (((hl28.trans hl36).trans hl44).trans hl52)) (hs10.up (((((hl14.trans hl20).trans hl28).trans hl36).trans hl44).trans hl52)))) ?_
 rintro vτ59 τ59 gsτ59 hl60 ⟨v61, g62, rfl, rfl, ho63⟩
 refine Z 5 rfl ?_
 obtain ⟨r64, hr65, h⟩ := h
 refine st_ord [8, 8, 0, 0, 0, 0, 0, 0, 0, 0] _ rfl ?_
 refine st_call (foot := [[(b29, .cells #[.int .i64 r25.1, .int .i64 r25.2.1, .int .i64 (r25.2.2.1.getD 0 0), .int .i64 (r25.2.2.1.getD 1 0), .int .i64 (r25.2.2.1.getD 2 0), .int .i64 (r25.2.2.1.getD 3 0), .int .i64 (r25.2.2.1.getD 4 0), .int .i64 (r25.2.2.1.getD 5 0), v30] 78 (0, 0))], g31]) rfl rfl rfl rfl rfl rfl (callV_fn z_en16 (tally_Tally_Add_ok hr65 τ59 (ho32.up (((hl36.trans hl44).trans hl52).trans hl60)) (hs16.up (((((hl20.trans hl28).trans hl36).trans hl44).trans hl52).trans hl60)))) ?_
 rintro vτ66 τ66 gsτ66 hl67 ⟨v68, g69, rfl, rfl, ho70⟩
 refine Z 4 rfl ?_
 refine o_lit (dk := (kP (kI .i64) (kP (kI .u32) (kP (kI .i64) (kP (kI .i64) (kP (kI .i64) (kP (kA .i64 6) (kP (kSl (kP (kI .i64) (kI .i64))) (kP (kSl (kI .i64)) (kP kS kS)))))))))) (xs := ([] : List (Int × Int × Int × Int × (Int × List Int × List (Int × Int) × List Int × ByteArray × ByteArray)))) (ps := []) (cs := []) rfl rfl rfl z_slT47 z_zero31 trivial rfl rfl rfl rfl Kd.Many.nil (fun v71 g72 ho73 => ?_)
 refine o_move rfl rfl rfl rfl ?_
 obtain ⟨hf77, hf78, h⟩ := h
 refine o_append (dk := (kP (kI .i64) (kP (kI .u32) (kP (kI .i64) (kP (kI .i64) (kP (kI .i64) (kP (kA .i64 6) (kP (kSl (kP (kI .i64) (kI .i64))) (kP (kSl (kI .i64)) (kP kS kS)))))))))) (xs := ([] : List (Int × Int × Int × Int × (Int × List Int × List (Int × Int) × List Int × ByteArray × ByteArray)))) (ys := r5) rfl rfl rfl rfl z_slT47 rfl ho73 rfl (Sl.src (hs10.up (((((((hl14.trans hl20).trans hl28).trans hl36).trans hl44).trans hl52).trans hl60).trans hl67))) hf77 hf78 (fun v74 g75 ho76 => ?_)
 refine o_move rfl rfl rfl rfl ?_
 obtain ⟨hf82, hf83, h⟩ := h
 refine o_append (dk := (kP (kI .i64) (kP (kI .u32) (kP (kI .i64) (kP (kI .i64) (kP (kI .i64) (kP (kA .i64 6) (kP (kSl (kP (kI .i64) (kI .i64))) (kP (kSl (kI .i64)) (kP kS kS)))))))))) (xs := (([] : List (Int × Int × Int × Int × (Int × List Int × List (Int × Int) × List Int × ByteArray × ByteArray))) ++ r5)) (ys := r11) rfl rfl rfl rfl z_slT47 rfl ho76 rfl (Sl.src (hs16.up ((((((hl20.trans hl28).trans hl36).trans hl44).trans hl52).trans hl60).trans hl67))) hf82 hf83 (fun v79 g80 ho81 => ?_)
 obtain ⟨r88, hr89, h⟩ := h
 refine st_freeze (fun τ84 hl85 hg86 => ?_)
 have hs87 := ho81.freeze hl85 hg86
 refine st_ord [8, 8, 0, 0, 0, 0, 0, 0, 0, 0] _ rfl ?_
 refine st_call (foot := [[(b37, .cells #[.int .i64 r33.1, .int .i64 r33.2.1, .int .i64 (r33.2.2.1.getD 0 0), .int .i64 (r33.2.2.1.getD 1 0), .int .i64 (r33.2.2.1.getD 2 0), .int .i64 (r33.2.2.1.getD 3 0), .int .i64 (r33.2.2.1.getD 4 0), .int .i64 (r33.2.2.1.getD 5 0), v38] 78 (0, 0))], g39]) rfl rfl rfl rfl rfl rfl (callV_fn z_en16 (tally_Tally_Add_ok hr89 τ84 (ho40.up ((((hl44.trans hl52).trans hl60).trans hl67).trans hl85)) hs87)) ?_
 rintro vτ90 τ90 gsτ90 hl91 ⟨v92, g93, rfl, rfl, ho94⟩
 refine Z 4 rfl ?_
 refine o_lit (dk := (kP (kI .i64) (kP (kI .u32) (kP (kI .i64) (kP (kI .i64) (kP (kI .i64) (kP (kA .i64 6) (kP (kSl (kP (kI .i64) (kI .i64))) (kP (kSl (kI .i64)) (kP kS kS)))))))))) (xs := ([] : List (Int × Int × Int × Int × (Int × List Int × List (Int × Int) × List Int × ByteArray × ByteArray)))) (ps := []) (cs := []) rfl rfl rfl z_slT47 z_zero31 trivial rfl rfl rfl rfl Kd.Many.nil (fun v95 g96 ho97 => ?_)
 refine o_move rfl rfl rfl rfl ?_
 obtain ⟨hf101, hf102, h⟩ := h
 refine o_append (dk := (kP (kI .i64) (kP (kI .u32) (kP (kI .i64) (kP (kI .i64) (kP (kI .i64) (kP (kA .i64 6) (kP (kSl (kP (kI .i64) (kI .i64))) (kP (kSl (kI .i64)) (kP kS kS)))))))))) (xs := ([] : List (Int × Int × Int × Int × (Int × List Int × List (Int × Int) × List Int × ByteArray × ByteArray)))) (ys := r11) rfl rfl rfl rfl z_slT47 rfl ho97 rfl (Sl.src (hs16.up ((((((((hl20.trans hl28).trans hl36).trans hl44).trans hl52).trans hl60).trans hl67).trans hl85).trans hl91))) hf101 hf102 (fun v98 g99 ho100 => ?_)
 refine o_move rfl rfl rfl rfl ?_
 obtain ⟨hf106, hf107, h⟩ := h
 refine o_append (dk := (kP (kI .i64) (kP (kI .u32) (kP (kI .i64) (kP (kI .i64) (kP (kI .i64) (kP (kA .i64 6) (kP (kSl (kP (kI .i64) (kI .i64))) (kP (kSl (kI .i64)) (kP kS kS)))))))))) (xs := (([] : List (Int × Int × Int × Int × (Int × List Int × List (Int × Int) × List Int × ByteArray × ByteArray))) ++ r11)) (ys := r5) rfl rfl rfl rfl z_slT47 rfl ho100 rfl (Sl.src (hs10.up (((((((((hl14.trans hl20).trans hl28).trans hl36).trans hl44).trans hl52).trans hl60).trans hl67).trans hl85).trans hl91))) hf106 hf107 (fun v103 g104 ho105 => ?_)
 obtain ⟨r112, hr113, h⟩ := h
 refine st_freeze (fun τ108 hl109 hg110 => ?_)
 have hs111 := ho105.freeze hl109 hg110
 refine st_ord [8, 8, 0, 0, 0, 0, 0, 0, 0, 0] _ rfl ?_
 refine st_call (foot := [[(b45, .cells #[.int .i64 r41.1, .int .i64 r41.2.1, .int .i64 (r41.2.2.1.getD 0 0), .int .i64 (r41.2.2.1.getD 1 0), .int .i64 (r41.2.2.1.getD 2 0), .int .i64 (r41.2.2.1.getD 3 0), .int .i64 (r41.2.2.1.getD 4 0), .int .i64 (r41.2.2.1.getD 5 0), v46] 78 (0, 0))], g47]) rfl rfl rfl rfl rfl rfl (callV_fn z_en16 (tally_Tally_Add_ok hr113 τ108 (ho48.up (((((hl52.trans hl60).trans hl67).trans hl85).trans hl91).trans hl109)) hs111)) ?_
 rintro vτ114 τ114 gsτ114 hl115 ⟨v116, g117, rfl, rfl, ho118⟩
 refine Z 4 rfl ?_
 refine o_lit (dk := (kP (kI .i64) (kP (kI .u32) (kP (kI .i64) (kP (kI .i64) (kP (kI .i64) (kP (kA .i64 6) (kP (kSl (kP (kI .i64) (kI .i64))) (kP (kSl (kI .i64)) (kP kS kS)))))))))) (xs := ([] : List (Int × Int × Int × Int × (Int × List Int × List (Int × Int) × List Int × ByteArray × ByteArray)))) (ps := []) (cs := []) rfl rfl rfl z_slT47 z_zero31 trivial rfl rfl rfl rfl Kd.Many.nil (fun v119 g120 ho121 => ?_)
 refine o_move rfl rfl rfl rfl ?_
 obtain ⟨hf125, hf126, h⟩ := h
 refine o_append (dk := (kP (kI .i64) (kP (kI .u32) (kP (kI .i64) (kP (kI .i64) (kP (kI .i64) (kP (kA .i64 6) (kP (kSl (kP (kI .i64) (kI .i64))) (kP (kSl (kI .i64)) (kP kS kS)))))))))) (xs := ([] : List (Int × Int × Int × Int × (Int × List Int × List (Int × Int) × List Int × ByteArray × ByteArray)))) (ys := r11) rfl rfl rfl rfl z_slT47 rfl ho121 rfl (Sl.src (hs16.up ((((((((((hl20.trans hl28).trans hl36).trans hl44).trans hl52).trans hl60).trans hl67).trans hl85).trans hl91).trans hl109).trans hl115))) hf125 hf126 (fun v122 g123 ho124 => ?_)
 refine o_move rfl rfl rfl rfl ?_
 obtain ⟨hf130, hf131, h⟩ := h
 refine o_append (dk := (kP (kI .i64) (kP (kI .u32) (kP (kI .i64) (kP (kI .i64) (kP (kI .i64) (kP (kA .i64 6) (kP (kSl (kP (kI .i64) (kI .i64))) (kP (kSl (kI .i64)) (kP kS kS)))))))))) (xs := (([] : List (Int × Int × Int × Int × (Int × List Int × List (Int × Int) × List Int × ByteArray × ByteArray))) ++ r11)) (ys := r11) rfl rfl rfl rfl z_slT47 rfl ho124 rfl (Sl.src (hs16.up ((((((((((hl20.trans hl28).trans hl36).trans hl44).trans hl52).trans hl60).trans hl67).trans hl85).trans hl91).trans hl109).trans hl115))) hf130 hf131 (fun v127 g128 ho129 => ?_)
 obtain ⟨r136, hr137, h⟩ := h
 refine st_freeze (fun τ132 hl133 hg134 => ?_)
 have hs135 := ho129.freeze hl133 hg134
 refine st_ord [8, 8, 0, 0, 0, 0, 0, 0, 0, 0] _ rfl ?_
 refine st_call (foot := [[(b53, .cells #[.int .i64 r49.1, .int .i64 r49.2.1, .int .i64 (r49.2.2.1.getD 0 0), .int .i64 (r49.2.2.1.getD 1 0), .int .i64 (r49.2.2.1.getD 2 0), .int .i64 (r49.2.2.1.getD 3 0), .int .i64 (r49.2.2.1.getD 4 0), .int .i64 (r49.2.2.1.getD 5 0), v54] 78 (0, 0))], g55]) rfl rfl rfl rfl rfl rfl (callV_fn z_en16 (tally_Tally_Add_ok hr137 τ132 (ho56.up ((((((hl60.trans hl67).trans hl85).trans hl91).trans hl109).trans hl115).trans hl133)) hs135)) ?_
 rintro vτ138 τ138 gsτ138 hl139 ⟨v140, g141, rfl, rfl, ho142⟩
 refine Z 5 rfl ?_
 obtain ⟨r143, hr144, h⟩ := h
 refine st_ord [8, 8, 6, 6, 0, 0, 0, 0, 0, 0] _ rfl ?_
 refine st_call (foot := [[(b21, .cells #[.int .i64 r57.1, .int .i64 r57.2.1, .int .i64 (r57.2.2.1.getD 0 0), .int .i64 (r57.2.2.1.getD 1 0), .int .i64 (r57.2.2.1.getD 2 0), .int .i64 (r57.2.2.1.getD 3 0), .int .i64 (r57.2.2.1.getD 4 0), .int .i64 (r57.2.2.1.getD 5 0), v61] 78 (0, 0))], g62, [(b29, .cells #[.int .i64 r64.1, .int .i64 r64.2.1, .int .i64 (r64.2.2.1.getD 0 0), .int .i64 (r64.2.2.1.getD 1 0), .int .i64 (r64.2.2.1.getD 2 0), .int .i64 (r64.2.2.1.getD 3 0), .int .i64 (r64.2.2.1.getD 4 0), .int .i64 (r64.2.2.1.getD 5 0), v68] 78 (0, 0))], g69]) rfl rfl rfl rfl rfl rfl (callV_fn z_en18 (tally_Tally_Merge_ok hr144 τ138 (ho63.up ((((((hl67.trans hl85).trans hl91).trans hl109).trans hl115).trans hl133).trans hl139)) (ho70.up (((((hl85.trans hl91).trans hl109).trans hl115).trans hl133).trans hl139)))) ?_
 rintro vτ145 τ145 gsτ145 hl146 ⟨v147, g148, rfl, rfl, ho149⟩
 refine Z 4 rfl ?_
 obtain ⟨r150, hr151, h⟩ := h
 refine st_call (foot := [[(b21, .cells #[.int .i64 r143.1, .int .i64 r143.2.1, .int .i64 (r143.2.2.1.getD 0 0), .int .i64 (r143.2.2.1.getD 1 0), .int .i64 (r143.2.2.1.getD 2 0), .int .i64 (r143.2.2.1.getD 3 0), .int .i64 (r143.2.2.1.getD 4 0), .int .i64 (r143.2.2.1.getD 5 0), v147] 78 (0, 0))], g148]) rfl rfl rfl rfl rfl rfl (callV_fn z_en18 (tally_Tally_Merge_nil1_ok hr151 τ145 ho149)) ?_
 rintro vτ152 τ152 gsτ152 hl153 ⟨rfl, rfl⟩
 refine Z 3 rfl ?_
 refine st_cut (fun ρ τ154 gs => ∃ (s154 : Bool × Int × Int × Int × Int × Int × Int × Int × Int × (List (Int × Int))) (v155 : Value) (g156 : Grp), law25_TallyMerges_j1 r136 r143 s154 r ∧ τ152.Le τ154 ∧ ESub ρ [(4, .bool false), (5, .pointer (some ⟨b21, 0, none⟩)), (6, .pointer (some ⟨b29, 0, none⟩)), (9, .pointer (some ⟨b53, 0, none⟩)), (73, .bool s154.1)] ∧ gs = [[(b21, .cells #[.int .i64 r143.1, .int .i64 r143.2.1, .int .i64 (r143.2.2.1.getD 0 0), .int .i64 (r143.2.2.1.getD 1 0), .int .i64 (r143.2.2.1.getD 2 0), .int .i64 (r143.2.2.1.getD 3 0), .int .i64 (r143.2.2.1.getD 4 0), .int .i64 (r143.2.2.1.getD 5 0), v147] 78 (0, 0))], [(b29, .cells #[.int .i64 s154.2.1, .int .i64 s154.2.2.1, .int .i64 s154.2.2.2.1, .int .i64 s154.2.2.2.2.1, .int .i64 s154.2.2.2.2.2.1, .int .i64 s154.2.2.2.2.2.2.1, .int .i64 s154.2.2.2.2.2.2.2.1, .int .i64 s154.2.2.2.2.2.2.2.2.1, v155] 78 (0, 0))], [(b53, .cells #[.int .i64 r136.1, .int .i64 r136.2.1, .int .i64 (r136.2.2.1.getD 0 0), .int .i64 (r136.2.2.1.getD 1 0), .int .i64 (r136.2.2.1.getD 2 0), .int .i64 (r136.2.2.1.getD 3 0), .int .i64 (r136.2.2.1.getD 4 0), .int .i64 (r136.2.2.1.getD 5 0), v140] 78 (0, 0))], g148, g141, g156] ∧ Mp (Value.int .i64) (rF (Value.int .i64)) τ154 v155 s154.2.2.2.2.2.2.2.2.2 g156) ?_ (fun hk154 => ?_)
 ·rintro ρ154 τ154 gs154 ⟨s154, v155, g156, h, hl154, hρ, rfl, ho157⟩
  refine st_es hρ ?_
  refine st_if rfl h (fun h => ?_) (fun h => ?_)
  ·refine Z 4 rfl ?_
   refine st_ord [] _ rfl ?_
   obtain rfl := Eq.symm h
   exact st_ret (gs' := []) Tryd.func5 rfl (List.Sublist.refl _) (((((((((((((((((hl8.trans hl14).trans hl20).trans hl28).trans hl36).trans hl44).trans hl52).trans hl60).trans hl67).trans hl85).trans hl91).trans hl109).trans hl115).trans hl133).trans hl139).trans hl146).trans hl153).trans hl154) ⟨rfl, rfl⟩
  ·refine Z 5 rfl ?_
   obtain ⟨r158, hr159, h⟩ := h
   refine st_ord [1, 4, 0, 0, 0, 0] _ rfl ?_
   refine st_call (foot := [[(b29, .cells #[.int .i64 s154.2.1, .int .i64 s154.2.2.1, .int .i64 s154.2.2.2.1, .int .i64 s154.2.2.2.2.1, .int .i64 s154.2.2.2.2.2.1, .int .i64 s154.2.2.2.2.2.2.1, .int .i64 s154.2.2.2.2.2.2.2.1, .int .i64 s154.2.2.2.2.2.2.2.2.1, v155] 78 (0, 0))], g156]) rfl rfl rfl rfl rfl rfl (callV_fn z_en18 (tally_Tally_Merge_eq0_1_ok hr159 τ154 ho157)) ?_
   rintro vτ160 τ160 gsτ160 hl161 ⟨v162, g163, rfl, rfl, ho164⟩
   refine Z 2 rfl ?_
   refine st_cut (fun ρ τ165 gs => ∃ (s165 : Bool), law25_TallyMerges_j2 s165 r ∧ τ160.Le τ165 ∧ ESub ρ [(4, .bool s165)] ∧ gs = []) ?_ (fun hk165 => ?_)
   ·rintro ρ165 τ165 gs165 ⟨s165, h, hl165, hρ, rfl⟩
    refine st_es hρ ?_
    obtain rfl := Eq.symm h
    exact st_ret (gs' := []) Tryd.func5 rfl (List.Sublist.refl _) (((((((((((((((((((hl8.trans hl14).trans hl20).trans hl28).trans hl36).trans hl44).trans hl52).trans hl60).trans hl67).trans hl85).trans hl91).trans hl109).trans hl115).trans hl133).trans hl139).trans hl146).trans hl153).trans hl154).trans hl161).trans hl165) ⟨rfl, rfl⟩
   refine st_region ?_
   obtain ⟨r166, hr167, h⟩ := h
   refine st_call (foot := []) rfl rfl rfl rfl rfl rfl (callV_fn z_en21 (law25_known_ok hr167 τ160 (hT.up ((((((((((((((((((hl8.trans hl14).trans hl20).trans hl28).trans hl36).trans hl44).trans hl52).trans hl60).trans hl67).trans hl85).trans hl91).trans hl109).trans hl115).trans hl133).trans hl139).trans hl146).trans hl153).trans hl154).trans hl161)))) ?_
   rintro vτ168 τ168 gsτ168 hl169 ⟨rfl, rfl⟩
   refine o_mif rfl rfl rfl rfl h (fun h => ?_) (fun h => ?_)
   ·refine Z 2 rfl ?_
    obtain ⟨r170, hr171, h⟩ := h
    refine st_ord [0, 0, 1, 2, 0, 0] _ rfl ?_
    refine st_call (foot := [[(b29, .cells #[.int .i64 r158.1, .int .i64 r158.2.1, .int .i64 (r158.2.2.1.getD 0 0), .int .i64 (r158.2.2.1.getD 1 0), .int .i64 (r158.2.2.1.getD 2 0), .int .i64 (r158.2.2.1.getD 3 0), .int .i64 (r158.2.2.1.getD 4 0), .int .i64 (r158.2.2.1.getD 5 0), v162] 78 (0, 0))], g163, [(b53, .cells #[.int .i64 r136.1, .int .i64 r136.2.1, .int .i64 (r136.2.2.1.getD 0 0), .int .i64 (r136.2.2.1.getD 1 0), .int .i64 (r136.2.2.1.getD 2 0), .int .i64 (r136.2.2.1.getD 3 0), .int .i64 (r136.2.2.1.getD 4 0), .int .i64 (r136.2.2.1.getD 5 0), v140] 78 (0, 0))], g141]) rfl rfl rfl rfl rfl rfl (callV_fn z_en29 (tally_Same_ok hr171 τ168 (ho164.up hl169) (ho142.up ((((hl146.trans hl153).trans hl154).trans hl161).trans hl169)))) ?_
    rintro vτ172 τ172 gsτ172 hl173 ⟨rfl, rfl⟩
    refine o_pick rfl rfl rfl rfl rfl ?_
    refine o_mif rfl rfl rfl rfl h (fun h => ?_) (fun h => ?_)
    ·obtain ⟨r174, hr175, h⟩ := h
     refine st_call (foot := []) rfl rfl rfl rfl rfl rfl (callV_fn z_en19 (tally_New_ok hr175 τ172)) ?_
     rintro vτ176 τ176 gsτ176 hl177 ⟨b178, v179, g180, rfl, rfl, ho181⟩
     obtain ⟨r182, hr183, h⟩ := h
     refine st_call (foot := [[(b178, .cells #[.int .i64 r174.1, .int .i64 r174.2.1, .int .i64 (r174.2.2.1.getD 0 0), .int .i64 (r174.2.2.1.getD 1 0), .int .i64 (r174.2.2.1.getD 2 0), .int .i64 (r174.2.2.1.getD 3 0), .int .i64 (r174.2.2.1.getD 4 0), .int .i64 (r174.2.2.1.getD 5 0), v179] 78 (0, 0))], g180]) rfl rfl rfl rfl rfl rfl (callV_fn z_en29 (tally_Same_nil_ok hr183 τ176 ho181)) ?_
     rintro vτ184 τ184 gsτ184 hl185 ⟨rfl, rfl⟩
     refine o_pick rfl rfl rfl rfl rfl ?_
     refine o_mif rfl rfl rfl rfl h (fun h => ?_) (fun h => ?_)
     ·refine Z 2 rfl ?_
      obtain ⟨r186, hr187, h⟩ := h
      refine st_ord [6, 6, 0, 0, 0, 0, 0, 0] _ rfl ?_
      refine st_call (foot := [[(b21, .cells #[.int .i64 r143.1, .int .i64 r143.2.1, .int .i64 (r143.2.2.1.getD 0 0), .int .i64 (r143.2.2.1.getD 1 0), .int .i64 (r143.2.2.1.getD 2 0), .int .i64 (r143.2.2.1.getD 3 0), .int .i64 (r143.2.2.1.getD 4 0), .int .i64 (r143.2.2.1.getD 5 0), v147] 78 (0, 0))], g148]) rfl rfl rfl rfl rfl rfl (callV_fn z_en28 (tally_Tally_Copy_ok hr187 τ184 (ho149.up ((((((hl153.trans hl154).trans hl161).trans hl169).trans hl173).trans hl177).trans hl185)))) ?_
      rintro vτ188 τ188 gsτ188 hl189 ⟨b190, v191, g192, rfl, rfl, ho193⟩
      obtain ⟨r194, hr195, h⟩ := h
      refine st_call (foot := [[(b21, .cells #[.int .i64 r143.1, .int .i64 r143.2.1, .int .i64 (r143.2.2.1.getD 0 0), .int .i64 (r143.2.2.1.getD 1 0), .int .i64 (r143.2.2.1.getD 2 0), .int .i64 (r143.2.2.1.getD 3 0), .int .i64 (r143.2.2.1.getD 4 0), .int .i64 (r143.2.2.1.getD 5 0), v147] 78 (0, 0))], g148, [(b190, .cells #[.int .i64 r186.1, .int .i64 r186.2.1, .int .i64 (r186.2.2.1.getD 0 0), .int .i64 (r186.2.2.1.getD 1 0), .int .i64 (r186.2.2.1.getD 2 0), .int .i64 (r186.2.2.1.getD 3 0), .int .i64 (r186.2.2.1.getD 4 0), .int .i64 (r186.2.2.1.getD 5 0), v191] 78 (0, 0))], g192]) rfl rfl rfl rfl rfl rfl (callV_fn z_en29 (tally_Same_ok hr195 τ188 (ho149.up (((((((hl153.trans hl154).trans hl161).trans hl169).trans hl173).trans hl177).trans hl185).trans hl189)) ho193)) ?_
      rintro vτ196 τ196 gsτ196 hl197 ⟨rfl, rfl⟩
      refine Z 3 rfl ?_
      refine st_ord [] _ rfl ?_
      exact hk165 _ _ _ ⟨r194, h, (((((hl169.trans hl173).trans hl177).trans hl185).trans hl189).trans hl197), rfl, rfl⟩
     ·refine Z 7 rfl ?_
      refine st_ord [] _ rfl ?_
      exact hk165 _ _ _ ⟨false, h, (((hl169.trans hl173).trans hl177).trans hl185), rfl, rfl⟩
    ·refine Z 11 rfl ?_
     refine st_ord [] _ rfl ?_
     exact hk165 _ _ _ ⟨false, h, (hl169.trans hl173), rfl, rfl⟩
   ·refine Z 16 rfl ?_
    refine st_ord [] _ rfl ?_
    exact hk165 _ _ _ ⟨false, h, hl169, rfl, rfl⟩
 refine Z 3 rfl ?_
 obtain ⟨r198, hr199, h⟩ := h
 refine st_ord [0, 0, 6, 6, 0, 0, 0, 0, 0, 0] _ rfl ?_
 refine st_call (foot := [[(b21, .cells #[.int .i64 r143.1, .int .i64 r143.2.1, .int .i64 (r143.2.2.1.getD 0 0), .int .i64 (r143.2.2.1.getD 1 0), .int .i64 (r143.2.2.1.getD 2 0), .int .i64 (r143.2.2.1.getD 3 0), .int .i64 (r143.2.2.1.getD 4 0), .int .i64 (r143.2.2.1.getD 5 0), v147] 78 (0, 0))], g148, [(b37, .cells #[.int .i64 r88.1, .int .i64 r88.2.1, .int .i64 (r88.2.2.1.getD 0 0), .int .i64 (r88.2.2.1.getD 1 0), .int .i64 (r88.2.2.1.getD 2 0), .int .i64 (r88.2.2.1.getD 3 0), .int .i64 (r88.2.2.1.getD 4 0), .int .i64 (r88.2.2.1.getD 5 0), v92] 78 (0, 0))], g93]) rfl rfl rfl rfl rfl rfl (callV_fn z_en29 (tally_Same_ok hr199 τ152 (ho149.up hl153) (ho94.up (((((hl109.trans hl115).trans hl133).trans hl139).trans hl146).trans hl153)))) ?_
 rintro vτ200 τ200 gsτ200 hl201 ⟨rfl, rfl⟩
 refine o_not rfl rfl rfl rfl ?_
 refine o_mif rfl rfl rfl rfl h (fun h => ?_) (fun h => ?_)
 ·refine Z 19 rfl ?_
  refine st_ord [0, 3, 4, 0, 3, 2] _ rfl ?_
  exact hk154 _ _ _ ⟨(true, r64.1, r64.2.1, (r64.2.2.1.getD 0 0), (r64.2.2.1.getD 1 0), (r64.2.2.1.getD 2 0), (r64.2.2.1.getD 3 0), (r64.2.2.1.getD 4 0), (r64.2.2.1.getD 5 0), r64.2.2.2), _, _, h, hl201, rfl, rfl, (ho70.up ((((((((hl85.trans hl91).trans hl109).trans hl115).trans hl133).trans hl139).trans hl146).trans hl153).trans hl201))⟩
 ·refine Z 2 rfl ?_
  obtain ⟨r202, hr203, h⟩ := h
  refine st_ord [2, 2, 6, 6, 0, 0, 0, 0, 0, 0] _ rfl ?_
  refine st_call (foot := [[(b37, .cells #[.int .i64 r88.1, .int .i64 r88.2.1, .int .i64 (r88.2.2.1.getD 0 0), .int .i64 (r88.2.2.1.getD 1 0), .int .i64 (r88.2.2.1.getD 2 0), .int .i64 (r88.2.2.1.getD 3 0), .int .i64 (r88.2.2.1.getD 4 0), .int .i64 (r88.2.2.1.getD 5 0), v92] 78 (0, 0))], g93, [(b45, .cells #[.int .i64 r112.1, .int .i64 r112.2.1, .int .i64 (r112.2.2.1.getD 0 0), .int .i64 (r112.2.2.1.getD 1 0), .int .i64 (r112.2.2.1.getD 2 0), .int .i64 (r112.2.2.1.getD 3 0), .int .i64 (r112.2.2.1.getD 4 0), .int .i64 (r112.2.2.1.getD 5 0), v116] 78 (0, 0))], g117]) rfl rfl rfl rfl rfl rfl (callV_fn z_en29 (tally_Same_ok hr203 τ200 (ho94.up ((((((hl109.trans hl115).trans hl133).trans hl139).trans hl146).trans hl153).trans hl201)) (ho118.up ((((hl133.trans hl139).trans hl146).trans hl153).trans hl201)))) ?_
  rintro vτ204 τ204 gsτ204 hl205 ⟨rfl, rfl⟩
  refine Z 2 rfl ?_
  refine o_mif rfl rfl rfl rfl h (fun h => ?_) (fun h => ?_)
  ·refine Z 13 rfl ?_
   refine st_ord [4, 5, 6, 4, 5, 4] _ rfl ?_
   exact hk154 _ _ _ ⟨(true, r64.1, r64.2.1, (r64.2.2.1.getD 0 0), (r64.2.2.1.getD 1 0), (r64.2.2.1.getD 2 0), (r64.2.2.1.getD 3 0), (r64.2.2.1.getD 4 0), (r64.2.2.1.getD 5 0), r64.2.2.2), _, _, h, (hl201.trans hl205), rfl, rfl, (ho70.up (((((((((hl85.trans hl91).trans hl109).trans hl115).trans hl133).trans hl139).trans hl146).trans hl153).trans hl201).trans hl205))⟩
  ·refine o_move rfl rfl rfl rfl ?_
   obtain ⟨r206, hr207, h⟩ := h
   refine st_ord [6, 6, 0, 0, 0, 0, 0, 0, 0, 0] _ rfl ?_
   refine st_call (foot := [[(b29, .cells #[.int .i64 r64.1, .int .i64 r64.2.1, .int .i64 (r64.2.2.1.getD 0 0), .int .i64 (r64.2.2.1.getD 1 0), .int .i64 (r64.2.2.1.getD 2 0), .int .i64 (r64.2.2.1.getD 3 0), .int .i64 (r64.2.2.1.getD 4 0), .int .i64 (r64.2.2.1.getD 5 0), v68] 78 (0, 0))], g69]) rfl rfl rfl rfl rfl rfl (callV_fn z_en22 (tally_Tally_Delivered_ok hr207 τ204 (ho70.up (((((((((hl85.trans hl91).trans hl109).trans hl115).trans hl133).trans hl139).trans hl146).trans hl153).trans hl201).trans hl205)))) ?_
   rintro vτ208 τ208 gsτ208 hl209 ⟨rfl, rfl⟩
   refine o_move rfl rfl rfl rfl ?_
   obtain ⟨r210, hr211, h⟩ := h
   refine st_call (foot := [[(b29, .cells #[.int .i64 r64.1, .int .i64 r64.2.1, .int .i64 (r64.2.2.1.getD 0 0), .int .i64 (r64.2.2.1.getD 1 0), .int .i64 (r64.2.2.1.getD 2 0), .int .i64 (r64.2.2.1.getD 3 0), .int .i64 (r64.2.2.1.getD 4 0), .int .i64 (r64.2.2.1.getD 5 0), v68] 78 (0, 0))], g69]) rfl rfl rfl rfl rfl rfl (callV_fn z_en23 (tally_Tally_Rejected_ok hr211 τ208 (ho70.up ((((((((((hl85.trans hl91).trans hl109).trans hl115).trans hl133).trans hl139).trans hl146).trans hl153).trans hl201).trans hl205).trans hl209)))) ?_
   rintro vτ212 τ212 gsτ212 hl213 ⟨v214, g215, rfl, rfl, ho216⟩
   refine Z 2 rfl ?_
   obtain ⟨r217, hr218, h⟩ := h
   refine st_call (foot := [[(b29, .cells #[.int .i64 r210.2.1, .int .i64 r210.2.2.1, .int .i64 (r210.2.2.2.1.getD 0 0), .int .i64 (r210.2.2.2.1.getD 1 0), .int .i64 (r210.2.2.2.1.getD 2 0), .int .i64 (r210.2.2.2.1.getD 3 0), .int .i64 (r210.2.2.2.1.getD 4 0), .int .i64 (r210.2.2.2.1.getD 5 0), v214] 78 (0, 0))], g215]) rfl rfl rfl rfl rfl rfl (callV_fn z_en24 (tally_Tally_Evicted_ok hr218 τ212 ho216)) ?_
   rintro vτ219 τ219 gsτ219 hl220 ⟨rfl, rfl⟩
   refine Z 2 rfl ?_
   refine o_lenI rfl rfl rfl z_slT47 rfl (hs16.up (((((((((((((((((((hl20.trans hl28).trans hl36).trans hl44).trans hl52).trans hl60).trans hl67).trans hl85).trans hl91).trans hl109).trans hl115).trans hl133).trans hl139).trans hl146).trans hl153).trans hl201).trans hl205).trans hl209).trans hl213).trans hl220)) ?_
   refine Z 3 rfl ?_
   refine st_ord [6, 0, 6, 5, 5, 0] _ rfl ?_
   exact hk154 _ _ _ ⟨((decide ((r11.length : Int) < (IntKind.i64.wrap ((IntKind.i64.wrap (r206 + r210.1)) + r217)))), r210.2.1, r210.2.2.1, (r210.2.2.2.1.getD 0 0), (r210.2.2.2.1.getD 1 0), (r210.2.2.2.1.getD 2 0), (r210.2.2.2.1.getD 3 0), (r210.2.2.2.1.getD 4 0), (r210.2.2.2.1.getD 5 0), r210.2.2.2.2), _, _, h, ((((hl201.trans hl205).trans hl209).trans hl213).trans hl220), rfl, rfl, (ho216.up hl220)⟩
end Go.Rel
