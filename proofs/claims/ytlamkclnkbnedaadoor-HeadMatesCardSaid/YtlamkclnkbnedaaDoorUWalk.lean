import Derived.Test.YtlamkclnkbnedaaDoorURel
import Derived.Test.YtlamkclnkbnedaaDoorUFacts
/-! The walks. -/
set_option linter.unusedVariables false
set_option linter.unusedSimpArgs false
set_option maxRecDepth 4000
namespace Go.Rel
open Go Go.Eng Go.Proofs
theorem head_wrong_1_ok {c0 : Int × Int × Int × Int × Int} {bc0 : Nat} {σ0 : Sto} (hc0_0 : Cel σ0 ⟨bc0, 0, none⟩ (.int .i64 c0.1)) (hc0_1 : Cel σ0 ⟨bc0, 1, none⟩ (.int .i64 c0.2.1)) (hc0_2 : Cel σ0 ⟨bc0, 2, none⟩ (.int .u32 c0.2.2.1)) (hc0_3 : Cel σ0 ⟨bc0, 3, none⟩ (.int .i64 c0.2.2.2.1)) (hc0_4 : Cel σ0 ⟨bc0, 4, none⟩ (.int .i64 c0.2.2.2.2)) :
    IterV Tryd.prog (fun _ x vx => vx = [.int .i64 x.1, .bool x.2]) (.func (.func 71) #[] [.pointer (some ⟨bc0, 0, none⟩)].toArray) σ0 [] (fun (_ : Unit) _ f => f = []) (head_wrong_1 c0) := by
  intro S Y I y hyc hyo hIm hY s s' o hR σ g hle hIg
  obtain ⟨r, hr0⟩ : ∃ r, r = (s', o) := ⟨_, rfl⟩
  rw [← hr0] at hR
  have h := hR
  refine callV_of (caps := [.pointer (some ⟨bc0, 0, none⟩)]) z_en71 ?_
  refine call_of Tryd.func71 Tryd.ntmps71 rfl rfl (fun cs fs => ?_)
  refine st_ord [0] [g] rfl ?_
  refine st_region ?_
  refine o_move rfl rfl rfl rfl ?_
  refine o_fieldAddr rfl rfl rfl z_field24_0 rfl ?_
  refine o_loadI (v := .int .i64 c0.1) rfl rfl rfl z_sc3 rfl (Cel.up hc0_0 hle) ?_
  refine o_ibin (v := .bool (decide (c0.1 < 1))) rfl rfl rfl rfl rfl rfl ?_
  refine o_moveB rfl rfl rfl rfl (fun hc => ?_) (fun hc => ?_)
  · replace h := (if_pos hc).mp h
    refine st_pass rfl rfl rfl rfl rfl rfl ?_
    refine st_pass rfl rfl rfl rfl rfl rfl ?_
    refine st_pass rfl rfl rfl rfl rfl rfl ?_
    refine o_pick rfl rfl rfl rfl rfl ?_
    obtain ⟨y1, u2, hy3, h⟩ := h
    refine st_call (foot := [g]) rfl rfl rfl rfl rfl rfl (hY (10, true) s _ _ _ _ _ (hle.trans (Sto.Le.refl _)) hy3 rfl hIg) ?_
    rintro vτ4 τ4 gsτ4 hl5 ⟨rfl, g6, rfl, hI7⟩
    refine o_moveB rfl rfl rfl rfl (fun hc => ?_) (fun hc => ?_)
    · replace h := (if_pos hc).mp h
      refine o_move rfl rfl rfl rfl ?_
      refine o_fieldAddr rfl rfl rfl z_field24_1 rfl ?_
      refine o_loadI (v := .int .i64 c0.2.1) rfl rfl rfl z_sc3 rfl (Cel.up hc0_1 (hle.trans hl5)) ?_
      refine o_ibin (v := .bool (decide (c0.2.1 < 1))) rfl rfl rfl rfl rfl rfl ?_
      refine o_moveB rfl rfl rfl rfl (fun hc => ?_) (fun hc => ?_)
      · replace h := (if_pos hc).mp h
        refine st_pass rfl rfl rfl rfl rfl rfl ?_
        refine st_pass rfl rfl rfl rfl rfl rfl ?_
        refine st_pass rfl rfl rfl rfl rfl rfl ?_
        refine o_pick rfl rfl rfl rfl rfl ?_
        obtain ⟨y8, u9, hy10, h⟩ := h
        refine st_call (foot := [g6]) rfl rfl rfl rfl rfl rfl (hY (9, true) u2 _ _ _ _ _ (hle.trans hl5) hy10 rfl hI7) ?_
        rintro vτ11 τ11 gsτ11 hl12 ⟨rfl, g13, rfl, hI14⟩
        refine o_pick rfl rfl rfl rfl rfl ?_
        refine o_moveB rfl rfl rfl rfl (fun hc => ?_) (fun hc => ?_)
        · replace h := (if_pos hc).mp h
          refine o_move rfl rfl rfl rfl ?_
          refine o_fieldAddr rfl rfl rfl z_field24_4 rfl ?_
          refine o_loadI (v := .int .i64 c0.2.2.2.2) rfl rfl rfl z_sc3 rfl (Cel.up hc0_4 ((hle.trans hl5).trans hl12)) ?_
          refine o_ibin (v := .bool (decide (c0.2.2.2.2 < 1))) rfl rfl rfl rfl rfl rfl ?_
          refine o_moveB rfl rfl rfl rfl (fun hc => ?_) (fun hc => ?_)
          · replace h := (if_pos hc).mp h
            refine st_pass rfl rfl rfl rfl rfl rfl ?_
            refine st_pass rfl rfl rfl rfl rfl rfl ?_
            refine st_pass rfl rfl rfl rfl rfl rfl ?_
            refine o_pick rfl rfl rfl rfl rfl ?_
            refine o_move rfl rfl rfl rfl ?_
            refine st_pass rfl rfl rfl rfl rfl rfl ?_
            refine st_pass rfl rfl rfl rfl rfl rfl ?_
            refine st_pass rfl rfl rfl rfl rfl rfl ?_
            refine o_pick rfl rfl rfl rfl rfl ?_
            refine o_move rfl rfl rfl rfl ?_
            refine st_pass rfl rfl rfl rfl rfl rfl ?_
            refine st_pass rfl rfl rfl rfl rfl rfl ?_
            refine st_pass rfl rfl rfl rfl rfl rfl ?_
            refine st_pass rfl rfl rfl rfl rfl rfl ?_
            refine st_pass rfl rfl rfl rfl rfl rfl ?_
            refine o_pick rfl rfl rfl rfl rfl ?_
            obtain ⟨y15, u16, hy17, h⟩ := h
            refine st_call (foot := [g13]) rfl rfl rfl rfl rfl rfl (hY (3, true) u9 _ _ _ _ _ (hle.trans (hl5.trans hl12)) hy17 rfl hI14) ?_
            rintro vτ18 τ18 gsτ18 hl19 ⟨rfl, g20, rfl, hI21⟩
            refine o_pick rfl rfl rfl rfl rfl ?_
            refine st_end ?_
            obtain rfl := Eq.symm h
            cases hr0
            exact st_fin (gs' := [g20, []]) Tryd.func71 rfl (by simp) ((hl5.trans hl12).trans hl19) ⟨g20, _, rfl, hI21, rfl⟩
          · replace h := (if_neg (ne_t hc)).mp h
            refine o_fieldAddr rfl rfl rfl z_field24_4 rfl ?_
            refine o_loadI (v := .int .i64 c0.2.2.2.2) rfl rfl rfl z_sc3 rfl (Cel.up hc0_4 ((hle.trans hl5).trans hl12)) ?_
            refine o_ibin (v := .bool (decide (255 < c0.2.2.2.2))) rfl rfl rfl rfl rfl rfl ?_
            refine o_pick rfl rfl rfl rfl rfl ?_
            refine o_moveB rfl rfl rfl rfl (fun hc => ?_) (fun hc => ?_)
            · replace h := (if_pos hc).mp h
              refine st_pass rfl rfl rfl rfl rfl rfl ?_
              refine st_pass rfl rfl rfl rfl rfl rfl ?_
              refine st_pass rfl rfl rfl rfl rfl rfl ?_
              refine o_pick rfl rfl rfl rfl rfl ?_
              refine o_move rfl rfl rfl rfl ?_
              refine st_pass rfl rfl rfl rfl rfl rfl ?_
              refine st_pass rfl rfl rfl rfl rfl rfl ?_
              refine st_pass rfl rfl rfl rfl rfl rfl ?_
              refine st_pass rfl rfl rfl rfl rfl rfl ?_
              refine st_pass rfl rfl rfl rfl rfl rfl ?_
              refine o_pick rfl rfl rfl rfl rfl ?_
              obtain ⟨y22, u23, hy24, h⟩ := h
              refine st_call (foot := [g13]) rfl rfl rfl rfl rfl rfl (hY (3, true) u9 _ _ _ _ _ (hle.trans (hl5.trans hl12)) hy24 rfl hI14) ?_
              rintro vτ25 τ25 gsτ25 hl26 ⟨rfl, g27, rfl, hI28⟩
              refine o_pick rfl rfl rfl rfl rfl ?_
              refine st_end ?_
              obtain rfl := Eq.symm h
              cases hr0
              exact st_fin (gs' := [g27, []]) Tryd.func71 rfl (by simp) ((hl5.trans hl12).trans hl26) ⟨g27, _, rfl, hI28, rfl⟩
            · replace h := (if_neg (ne_t hc)).mp h
              refine o_fieldAddr rfl rfl rfl z_field24_3 rfl ?_
              refine o_loadI (v := .int .i64 c0.2.2.2.1) rfl rfl rfl z_sc3 rfl (Cel.up hc0_3 ((hle.trans hl5).trans hl12)) ?_
              refine o_ibin (v := .bool (decide (c0.2.2.2.1 < 0))) rfl rfl rfl rfl rfl rfl ?_
              refine o_pick rfl rfl rfl rfl rfl ?_
              refine o_moveB rfl rfl rfl rfl (fun hc => ?_) (fun hc => ?_)
              · replace h := (if_pos hc).mp h
                refine st_pass rfl rfl rfl rfl rfl rfl ?_
                refine st_pass rfl rfl rfl rfl rfl rfl ?_
                refine st_pass rfl rfl rfl rfl rfl rfl ?_
                refine st_pass rfl rfl rfl rfl rfl rfl ?_
                refine st_pass rfl rfl rfl rfl rfl rfl ?_
                refine o_pick rfl rfl rfl rfl rfl ?_
                obtain ⟨y29, u30, hy31, h⟩ := h
                refine st_call (foot := [g13]) rfl rfl rfl rfl rfl rfl (hY (3, true) u9 _ _ _ _ _ (hle.trans (hl5.trans hl12)) hy31 rfl hI14) ?_
                rintro vτ32 τ32 gsτ32 hl33 ⟨rfl, g34, rfl, hI35⟩
                refine o_pick rfl rfl rfl rfl rfl ?_
                refine st_end ?_
                obtain rfl := Eq.symm h
                cases hr0
                exact st_fin (gs' := [g34, []]) Tryd.func71 rfl (by simp) ((hl5.trans hl12).trans hl33) ⟨g34, _, rfl, hI35, rfl⟩
              · replace h := (if_neg (ne_t hc)).mp h
                refine o_fieldAddr rfl rfl rfl z_field24_3 rfl ?_
                refine o_loadI (v := .int .i64 c0.2.2.2.1) rfl rfl rfl z_sc3 rfl (Cel.up hc0_3 ((hle.trans hl5).trans hl12)) ?_
                refine o_fieldAddr rfl rfl rfl z_field24_4 rfl ?_
                refine o_loadI (v := .int .i64 c0.2.2.2.2) rfl rfl rfl z_sc3 rfl (Cel.up hc0_4 ((hle.trans hl5).trans hl12)) ?_
                refine o_ibin (v := .bool (decide (c0.2.2.2.2 ≤ c0.2.2.2.1))) rfl rfl rfl rfl rfl rfl ?_
                refine o_pick rfl rfl rfl rfl rfl ?_
                obtain ⟨y36, u37, hy38, h⟩ := h
                refine st_call (foot := [g13]) rfl rfl rfl rfl rfl rfl (hY (3, (decide (c0.2.2.2.2 ≤ c0.2.2.2.1))) u9 _ _ _ _ _ (hle.trans (hl5.trans hl12)) hy38 rfl hI14) ?_
                rintro vτ39 τ39 gsτ39 hl40 ⟨rfl, g41, rfl, hI42⟩
                refine o_pick rfl rfl rfl rfl rfl ?_
                refine st_end ?_
                obtain rfl := Eq.symm h
                cases hr0
                exact st_fin (gs' := [g41, []]) Tryd.func71 rfl (by simp) ((hl5.trans hl12).trans hl40) ⟨g41, _, rfl, hI42, rfl⟩
        · replace h := (if_neg (ne_t hc)).mp h
          refine st_pass rfl rfl rfl rfl rfl rfl ?_
          refine st_pass rfl rfl rfl rfl rfl rfl ?_
          refine st_pass rfl rfl rfl rfl rfl rfl ?_
          refine st_pass rfl rfl rfl rfl rfl rfl ?_
          refine st_pass rfl rfl rfl rfl rfl rfl ?_
          refine st_passU rfl rfl rfl rfl rfl ?_
          refine st_passU rfl rfl rfl rfl rfl ?_
          refine st_passU rfl rfl rfl rfl rfl ?_
          refine st_pass rfl rfl rfl rfl rfl rfl ?_
          refine st_pass rfl rfl rfl rfl rfl rfl ?_
          refine st_passU rfl rfl rfl rfl rfl ?_
          refine st_passU rfl rfl rfl rfl rfl ?_
          refine st_passU rfl rfl rfl rfl rfl ?_
          refine st_pass rfl rfl rfl rfl rfl rfl ?_
          refine st_pass rfl rfl rfl rfl rfl rfl ?_
          refine st_passU rfl rfl rfl rfl rfl ?_
          refine st_passU rfl rfl rfl rfl rfl ?_
          refine st_passU rfl rfl rfl rfl rfl ?_
          refine st_passU rfl rfl rfl rfl rfl ?_
          refine st_passU rfl rfl rfl rfl rfl ?_
          refine st_pass rfl rfl rfl rfl rfl rfl ?_
          refine st_pass rfl rfl rfl rfl rfl rfl ?_
          refine o_pick rfl rfl rfl rfl rfl ?_
          refine st_end ?_
          obtain rfl := Eq.symm h
          cases hr0
          exact st_fin (gs' := [g13, []]) Tryd.func71 rfl (by simp) (hl5.trans hl12) ⟨g13, _, rfl, hI14, rfl⟩
      · replace h := (if_neg (ne_t hc)).mp h
        refine o_fieldAddr rfl rfl rfl z_field24_1 rfl ?_
        refine o_loadI (v := .int .i64 c0.2.1) rfl rfl rfl z_sc3 rfl (Cel.up hc0_1 (hle.trans hl5)) ?_
        refine o_ibin (v := .bool (decide (5 < c0.2.1))) rfl rfl rfl rfl rfl rfl ?_
        refine o_pick rfl rfl rfl rfl rfl ?_
        obtain ⟨y43, u44, hy45, h⟩ := h
        refine st_call (foot := [g6]) rfl rfl rfl rfl rfl rfl (hY (9, (decide (5 < c0.2.1))) u2 _ _ _ _ _ (hle.trans hl5) hy45 rfl hI7) ?_
        rintro vτ46 τ46 gsτ46 hl47 ⟨rfl, g48, rfl, hI49⟩
        refine o_pick rfl rfl rfl rfl rfl ?_
        refine o_moveB rfl rfl rfl rfl (fun hc => ?_) (fun hc => ?_)
        · replace h := (if_pos hc).mp h
          refine o_move rfl rfl rfl rfl ?_
          refine o_fieldAddr rfl rfl rfl z_field24_4 rfl ?_
          refine o_loadI (v := .int .i64 c0.2.2.2.2) rfl rfl rfl z_sc3 rfl (Cel.up hc0_4 ((hle.trans hl5).trans hl47)) ?_
          refine o_ibin (v := .bool (decide (c0.2.2.2.2 < 1))) rfl rfl rfl rfl rfl rfl ?_
          refine o_moveB rfl rfl rfl rfl (fun hc => ?_) (fun hc => ?_)
          · replace h := (if_pos hc).mp h
            refine st_pass rfl rfl rfl rfl rfl rfl ?_
            refine st_pass rfl rfl rfl rfl rfl rfl ?_
            refine st_pass rfl rfl rfl rfl rfl rfl ?_
            refine o_pick rfl rfl rfl rfl rfl ?_
            refine o_move rfl rfl rfl rfl ?_
            refine st_pass rfl rfl rfl rfl rfl rfl ?_
            refine st_pass rfl rfl rfl rfl rfl rfl ?_
            refine st_pass rfl rfl rfl rfl rfl rfl ?_
            refine o_pick rfl rfl rfl rfl rfl ?_
            refine o_move rfl rfl rfl rfl ?_
            refine st_pass rfl rfl rfl rfl rfl rfl ?_
            refine st_pass rfl rfl rfl rfl rfl rfl ?_
            refine st_pass rfl rfl rfl rfl rfl rfl ?_
            refine st_pass rfl rfl rfl rfl rfl rfl ?_
            refine st_pass rfl rfl rfl rfl rfl rfl ?_
            refine o_pick rfl rfl rfl rfl rfl ?_
            obtain ⟨y50, u51, hy52, h⟩ := h
            refine st_call (foot := [g48]) rfl rfl rfl rfl rfl rfl (hY (3, true) u44 _ _ _ _ _ (hle.trans (hl5.trans hl47)) hy52 rfl hI49) ?_
            rintro vτ53 τ53 gsτ53 hl54 ⟨rfl, g55, rfl, hI56⟩
            refine o_pick rfl rfl rfl rfl rfl ?_
            refine st_end ?_
            obtain rfl := Eq.symm h
            cases hr0
            exact st_fin (gs' := [g55, []]) Tryd.func71 rfl (by simp) ((hl5.trans hl47).trans hl54) ⟨g55, _, rfl, hI56, rfl⟩
          · replace h := (if_neg (ne_t hc)).mp h
            refine o_fieldAddr rfl rfl rfl z_field24_4 rfl ?_
            refine o_loadI (v := .int .i64 c0.2.2.2.2) rfl rfl rfl z_sc3 rfl (Cel.up hc0_4 ((hle.trans hl5).trans hl47)) ?_
            refine o_ibin (v := .bool (decide (255 < c0.2.2.2.2))) rfl rfl rfl rfl rfl rfl ?_
            refine o_pick rfl rfl rfl rfl rfl ?_
            refine o_moveB rfl rfl rfl rfl (fun hc => ?_) (fun hc => ?_)
            · replace h := (if_pos hc).mp h
              refine st_pass rfl rfl rfl rfl rfl rfl ?_
              refine st_pass rfl rfl rfl rfl rfl rfl ?_
              refine st_pass rfl rfl rfl rfl rfl rfl ?_
              refine o_pick rfl rfl rfl rfl rfl ?_
              refine o_move rfl rfl rfl rfl ?_
              refine st_pass rfl rfl rfl rfl rfl rfl ?_
              refine st_pass rfl rfl rfl rfl rfl rfl ?_
              refine st_pass rfl rfl rfl rfl rfl rfl ?_
              refine st_pass rfl rfl rfl rfl rfl rfl ?_
              refine st_pass rfl rfl rfl rfl rfl rfl ?_
              refine o_pick rfl rfl rfl rfl rfl ?_
              obtain ⟨y57, u58, hy59, h⟩ := h
              refine st_call (foot := [g48]) rfl rfl rfl rfl rfl rfl (hY (3, true) u44 _ _ _ _ _ (hle.trans (hl5.trans hl47)) hy59 rfl hI49) ?_
              rintro vτ60 τ60 gsτ60 hl61 ⟨rfl, g62, rfl, hI63⟩
              refine o_pick rfl rfl rfl rfl rfl ?_
              refine st_end ?_
              obtain rfl := Eq.symm h
              cases hr0
              exact st_fin (gs' := [g62, []]) Tryd.func71 rfl (by simp) ((hl5.trans hl47).trans hl61) ⟨g62, _, rfl, hI63, rfl⟩
            · replace h := (if_neg (ne_t hc)).mp h
              refine o_fieldAddr rfl rfl rfl z_field24_3 rfl ?_
              refine o_loadI (v := .int .i64 c0.2.2.2.1) rfl rfl rfl z_sc3 rfl (Cel.up hc0_3 ((hle.trans hl5).trans hl47)) ?_
              refine o_ibin (v := .bool (decide (c0.2.2.2.1 < 0))) rfl rfl rfl rfl rfl rfl ?_
              refine o_pick rfl rfl rfl rfl rfl ?_
              refine o_moveB rfl rfl rfl rfl (fun hc => ?_) (fun hc => ?_)
              · replace h := (if_pos hc).mp h
                refine st_pass rfl rfl rfl rfl rfl rfl ?_
                refine st_pass rfl rfl rfl rfl rfl rfl ?_
                refine st_pass rfl rfl rfl rfl rfl rfl ?_
                refine st_pass rfl rfl rfl rfl rfl rfl ?_
                refine st_pass rfl rfl rfl rfl rfl rfl ?_
                refine o_pick rfl rfl rfl rfl rfl ?_
                obtain ⟨y64, u65, hy66, h⟩ := h
                refine st_call (foot := [g48]) rfl rfl rfl rfl rfl rfl (hY (3, true) u44 _ _ _ _ _ (hle.trans (hl5.trans hl47)) hy66 rfl hI49) ?_
                rintro vτ67 τ67 gsτ67 hl68 ⟨rfl, g69, rfl, hI70⟩
                refine o_pick rfl rfl rfl rfl rfl ?_
                refine st_end ?_
                obtain rfl := Eq.symm h
                cases hr0
                exact st_fin (gs' := [g69, []]) Tryd.func71 rfl (by simp) ((hl5.trans hl47).trans hl68) ⟨g69, _, rfl, hI70, rfl⟩
              · replace h := (if_neg (ne_t hc)).mp h
                refine o_fieldAddr rfl rfl rfl z_field24_3 rfl ?_
                refine o_loadI (v := .int .i64 c0.2.2.2.1) rfl rfl rfl z_sc3 rfl (Cel.up hc0_3 ((hle.trans hl5).trans hl47)) ?_
                refine o_fieldAddr rfl rfl rfl z_field24_4 rfl ?_
                refine o_loadI (v := .int .i64 c0.2.2.2.2) rfl rfl rfl z_sc3 rfl (Cel.up hc0_4 ((hle.trans hl5).trans hl47)) ?_
                refine o_ibin (v := .bool (decide (c0.2.2.2.2 ≤ c0.2.2.2.1))) rfl rfl rfl rfl rfl rfl ?_
                refine o_pick rfl rfl rfl rfl rfl ?_
                obtain ⟨y71, u72, hy73, h⟩ := h
                refine st_call (foot := [g48]) rfl rfl rfl rfl rfl rfl (hY (3, (decide (c0.2.2.2.2 ≤ c0.2.2.2.1))) u44 _ _ _ _ _ (hle.trans (hl5.trans hl47)) hy73 rfl hI49) ?_
                rintro vτ74 τ74 gsτ74 hl75 ⟨rfl, g76, rfl, hI77⟩
                refine o_pick rfl rfl rfl rfl rfl ?_
                refine st_end ?_
                obtain rfl := Eq.symm h
                cases hr0
                exact st_fin (gs' := [g76, []]) Tryd.func71 rfl (by simp) ((hl5.trans hl47).trans hl75) ⟨g76, _, rfl, hI77, rfl⟩
        · replace h := (if_neg (ne_t hc)).mp h
          refine st_pass rfl rfl rfl rfl rfl rfl ?_
          refine st_pass rfl rfl rfl rfl rfl rfl ?_
          refine st_pass rfl rfl rfl rfl rfl rfl ?_
          refine st_pass rfl rfl rfl rfl rfl rfl ?_
          refine st_pass rfl rfl rfl rfl rfl rfl ?_
          refine st_passU rfl rfl rfl rfl rfl ?_
          refine st_passU rfl rfl rfl rfl rfl ?_
          refine st_passU rfl rfl rfl rfl rfl ?_
          refine st_pass rfl rfl rfl rfl rfl rfl ?_
          refine st_pass rfl rfl rfl rfl rfl rfl ?_
          refine st_passU rfl rfl rfl rfl rfl ?_
          refine st_passU rfl rfl rfl rfl rfl ?_
          refine st_passU rfl rfl rfl rfl rfl ?_
          refine st_pass rfl rfl rfl rfl rfl rfl ?_
          refine st_pass rfl rfl rfl rfl rfl rfl ?_
          refine st_passU rfl rfl rfl rfl rfl ?_
          refine st_passU rfl rfl rfl rfl rfl ?_
          refine st_passU rfl rfl rfl rfl rfl ?_
          refine st_passU rfl rfl rfl rfl rfl ?_
          refine st_passU rfl rfl rfl rfl rfl ?_
          refine st_pass rfl rfl rfl rfl rfl rfl ?_
          refine st_pass rfl rfl rfl rfl rfl rfl ?_
          refine o_pick rfl rfl rfl rfl rfl ?_
          refine st_end ?_
          obtain rfl := Eq.symm h
          cases hr0
          exact st_fin (gs' := [g48, []]) Tryd.func71 rfl (by simp) (hl5.trans hl47) ⟨g48, _, rfl, hI49, rfl⟩
    · replace h := (if_neg (ne_t hc)).mp h
      refine st_pass rfl rfl rfl rfl rfl rfl ?_
      refine st_pass rfl rfl rfl rfl rfl rfl ?_
      refine st_pass rfl rfl rfl rfl rfl rfl ?_
      refine st_pass rfl rfl rfl rfl rfl rfl ?_
      refine st_pass rfl rfl rfl rfl rfl rfl ?_
      refine st_passU rfl rfl rfl rfl rfl ?_
      refine st_passU rfl rfl rfl rfl rfl ?_
      refine st_passU rfl rfl rfl rfl rfl ?_
      refine st_pass rfl rfl rfl rfl rfl rfl ?_
      refine st_pass rfl rfl rfl rfl rfl rfl ?_
      refine o_pick rfl rfl rfl rfl rfl ?_
      refine o_move rfl rfl rfl rfl ?_
      refine st_pass rfl rfl rfl rfl rfl rfl ?_
      refine st_pass rfl rfl rfl rfl rfl rfl ?_
      refine st_pass rfl rfl rfl rfl rfl rfl ?_
      refine st_pass rfl rfl rfl rfl rfl rfl ?_
      refine st_pass rfl rfl rfl rfl rfl rfl ?_
      refine st_passU rfl rfl rfl rfl rfl ?_
      refine st_passU rfl rfl rfl rfl rfl ?_
      refine st_passU rfl rfl rfl rfl rfl ?_
      refine st_pass rfl rfl rfl rfl rfl rfl ?_
      refine st_pass rfl rfl rfl rfl rfl rfl ?_
      refine st_passU rfl rfl rfl rfl rfl ?_
      refine st_passU rfl rfl rfl rfl rfl ?_
      refine st_passU rfl rfl rfl rfl rfl ?_
      refine st_pass rfl rfl rfl rfl rfl rfl ?_
      refine st_pass rfl rfl rfl rfl rfl rfl ?_
      refine st_passU rfl rfl rfl rfl rfl ?_
      refine st_passU rfl rfl rfl rfl rfl ?_
      refine st_passU rfl rfl rfl rfl rfl ?_
      refine st_passU rfl rfl rfl rfl rfl ?_
      refine st_passU rfl rfl rfl rfl rfl ?_
      refine st_pass rfl rfl rfl rfl rfl rfl ?_
      refine st_pass rfl rfl rfl rfl rfl rfl ?_
      refine o_pick rfl rfl rfl rfl rfl ?_
      refine st_end ?_
      obtain rfl := Eq.symm h
      cases hr0
      exact st_fin (gs' := [g6, []]) Tryd.func71 rfl (by simp) hl5 ⟨g6, _, rfl, hI7, rfl⟩
  · replace h := (if_neg (ne_t hc)).mp h
    refine o_fieldAddr rfl rfl rfl z_field24_0 rfl ?_
    refine o_loadI (v := .int .i64 c0.1) rfl rfl rfl z_sc3 rfl (Cel.up hc0_0 hle) ?_
    refine o_ibin (v := .bool (decide (2 < c0.1))) rfl rfl rfl rfl rfl rfl ?_
    refine o_pick rfl rfl rfl rfl rfl ?_
    obtain ⟨y78, u79, hy80, h⟩ := h
    refine st_call (foot := [g]) rfl rfl rfl rfl rfl rfl (hY (10, (decide (2 < c0.1))) s _ _ _ _ _ (hle.trans (Sto.Le.refl _)) hy80 rfl hIg) ?_
    rintro vτ81 τ81 gsτ81 hl82 ⟨rfl, g83, rfl, hI84⟩
    refine o_moveB rfl rfl rfl rfl (fun hc => ?_) (fun hc => ?_)
    · replace h := (if_pos hc).mp h
      refine o_move rfl rfl rfl rfl ?_
      refine o_fieldAddr rfl rfl rfl z_field24_1 rfl ?_
      refine o_loadI (v := .int .i64 c0.2.1) rfl rfl rfl z_sc3 rfl (Cel.up hc0_1 (hle.trans hl82)) ?_
      refine o_ibin (v := .bool (decide (c0.2.1 < 1))) rfl rfl rfl rfl rfl rfl ?_
      refine o_moveB rfl rfl rfl rfl (fun hc => ?_) (fun hc => ?_)
      · replace h := (if_pos hc).mp h
        refine st_pass rfl rfl rfl rfl rfl rfl ?_
        refine st_pass rfl rfl rfl rfl rfl rfl ?_
        refine st_pass rfl rfl rfl rfl rfl rfl ?_
        refine o_pick rfl rfl rfl rfl rfl ?_
        obtain ⟨y85, u86, hy87, h⟩ := h
        refine st_call (foot := [g83]) rfl rfl rfl rfl rfl rfl (hY (9, true) u79 _ _ _ _ _ (hle.trans hl82) hy87 rfl hI84) ?_
        rintro vτ88 τ88 gsτ88 hl89 ⟨rfl, g90, rfl, hI91⟩
        refine o_pick rfl rfl rfl rfl rfl ?_
        refine o_moveB rfl rfl rfl rfl (fun hc => ?_) (fun hc => ?_)
        · replace h := (if_pos hc).mp h
          refine o_move rfl rfl rfl rfl ?_
          refine o_fieldAddr rfl rfl rfl z_field24_4 rfl ?_
          refine o_loadI (v := .int .i64 c0.2.2.2.2) rfl rfl rfl z_sc3 rfl (Cel.up hc0_4 ((hle.trans hl82).trans hl89)) ?_
          refine o_ibin (v := .bool (decide (c0.2.2.2.2 < 1))) rfl rfl rfl rfl rfl rfl ?_
          refine o_moveB rfl rfl rfl rfl (fun hc => ?_) (fun hc => ?_)
          · replace h := (if_pos hc).mp h
            refine st_pass rfl rfl rfl rfl rfl rfl ?_
            refine st_pass rfl rfl rfl rfl rfl rfl ?_
            refine st_pass rfl rfl rfl rfl rfl rfl ?_
            refine o_pick rfl rfl rfl rfl rfl ?_
            refine o_move rfl rfl rfl rfl ?_
            refine st_pass rfl rfl rfl rfl rfl rfl ?_
            refine st_pass rfl rfl rfl rfl rfl rfl ?_
            refine st_pass rfl rfl rfl rfl rfl rfl ?_
            refine o_pick rfl rfl rfl rfl rfl ?_
            refine o_move rfl rfl rfl rfl ?_
            refine st_pass rfl rfl rfl rfl rfl rfl ?_
            refine st_pass rfl rfl rfl rfl rfl rfl ?_
            refine st_pass rfl rfl rfl rfl rfl rfl ?_
            refine st_pass rfl rfl rfl rfl rfl rfl ?_
            refine st_pass rfl rfl rfl rfl rfl rfl ?_
            refine o_pick rfl rfl rfl rfl rfl ?_
            obtain ⟨y92, u93, hy94, h⟩ := h
            refine st_call (foot := [g90]) rfl rfl rfl rfl rfl rfl (hY (3, true) u86 _ _ _ _ _ (hle.trans (hl82.trans hl89)) hy94 rfl hI91) ?_
            rintro vτ95 τ95 gsτ95 hl96 ⟨rfl, g97, rfl, hI98⟩
            refine o_pick rfl rfl rfl rfl rfl ?_
            refine st_end ?_
            obtain rfl := Eq.symm h
            cases hr0
            exact st_fin (gs' := [g97, []]) Tryd.func71 rfl (by simp) ((hl82.trans hl89).trans hl96) ⟨g97, _, rfl, hI98, rfl⟩
          · replace h := (if_neg (ne_t hc)).mp h
            refine o_fieldAddr rfl rfl rfl z_field24_4 rfl ?_
            refine o_loadI (v := .int .i64 c0.2.2.2.2) rfl rfl rfl z_sc3 rfl (Cel.up hc0_4 ((hle.trans hl82).trans hl89)) ?_
            refine o_ibin (v := .bool (decide (255 < c0.2.2.2.2))) rfl rfl rfl rfl rfl rfl ?_
            refine o_pick rfl rfl rfl rfl rfl ?_
            refine o_moveB rfl rfl rfl rfl (fun hc => ?_) (fun hc => ?_)
            · replace h := (if_pos hc).mp h
              refine st_pass rfl rfl rfl rfl rfl rfl ?_
              refine st_pass rfl rfl rfl rfl rfl rfl ?_
              refine st_pass rfl rfl rfl rfl rfl rfl ?_
              refine o_pick rfl rfl rfl rfl rfl ?_
              refine o_move rfl rfl rfl rfl ?_
              refine st_pass rfl rfl rfl rfl rfl rfl ?_
              refine st_pass rfl rfl rfl rfl rfl rfl ?_
              refine st_pass rfl rfl rfl rfl rfl rfl ?_
              refine st_pass rfl rfl rfl rfl rfl rfl ?_
              refine st_pass rfl rfl rfl rfl rfl rfl ?_
              refine o_pick rfl rfl rfl rfl rfl ?_
              obtain ⟨y99, u100, hy101, h⟩ := h
              refine st_call (foot := [g90]) rfl rfl rfl rfl rfl rfl (hY (3, true) u86 _ _ _ _ _ (hle.trans (hl82.trans hl89)) hy101 rfl hI91) ?_
              rintro vτ102 τ102 gsτ102 hl103 ⟨rfl, g104, rfl, hI105⟩
              refine o_pick rfl rfl rfl rfl rfl ?_
              refine st_end ?_
              obtain rfl := Eq.symm h
              cases hr0
              exact st_fin (gs' := [g104, []]) Tryd.func71 rfl (by simp) ((hl82.trans hl89).trans hl103) ⟨g104, _, rfl, hI105, rfl⟩
            · replace h := (if_neg (ne_t hc)).mp h
              refine o_fieldAddr rfl rfl rfl z_field24_3 rfl ?_
              refine o_loadI (v := .int .i64 c0.2.2.2.1) rfl rfl rfl z_sc3 rfl (Cel.up hc0_3 ((hle.trans hl82).trans hl89)) ?_
              refine o_ibin (v := .bool (decide (c0.2.2.2.1 < 0))) rfl rfl rfl rfl rfl rfl ?_
              refine o_pick rfl rfl rfl rfl rfl ?_
              refine o_moveB rfl rfl rfl rfl (fun hc => ?_) (fun hc => ?_)
              · replace h := (if_pos hc).mp h
                refine st_pass rfl rfl rfl rfl rfl rfl ?_
                refine st_pass rfl rfl rfl rfl rfl rfl ?_
                refine st_pass rfl rfl rfl rfl rfl rfl ?_
                refine st_pass rfl rfl rfl rfl rfl rfl ?_
                refine st_pass rfl rfl rfl rfl rfl rfl ?_
                refine o_pick rfl rfl rfl rfl rfl ?_
                obtain ⟨y106, u107, hy108, h⟩ := h
                refine st_call (foot := [g90]) rfl rfl rfl rfl rfl rfl (hY (3, true) u86 _ _ _ _ _ (hle.trans (hl82.trans hl89)) hy108 rfl hI91) ?_
                rintro vτ109 τ109 gsτ109 hl110 ⟨rfl, g111, rfl, hI112⟩
                refine o_pick rfl rfl rfl rfl rfl ?_
                refine st_end ?_
                obtain rfl := Eq.symm h
                cases hr0
                exact st_fin (gs' := [g111, []]) Tryd.func71 rfl (by simp) ((hl82.trans hl89).trans hl110) ⟨g111, _, rfl, hI112, rfl⟩
              · replace h := (if_neg (ne_t hc)).mp h
                refine o_fieldAddr rfl rfl rfl z_field24_3 rfl ?_
                refine o_loadI (v := .int .i64 c0.2.2.2.1) rfl rfl rfl z_sc3 rfl (Cel.up hc0_3 ((hle.trans hl82).trans hl89)) ?_
                refine o_fieldAddr rfl rfl rfl z_field24_4 rfl ?_
                refine o_loadI (v := .int .i64 c0.2.2.2.2) rfl rfl rfl z_sc3 rfl (Cel.up hc0_4 ((hle.trans hl82).trans hl89)) ?_
                refine o_ibin (v := .bool (decide (c0.2.2.2.2 ≤ c0.2.2.2.1))) rfl rfl rfl rfl rfl rfl ?_
                refine o_pick rfl rfl rfl rfl rfl ?_
                obtain ⟨y113, u114, hy115, h⟩ := h
                refine st_call (foot := [g90]) rfl rfl rfl rfl rfl rfl (hY (3, (decide (c0.2.2.2.2 ≤ c0.2.2.2.1))) u86 _ _ _ _ _ (hle.trans (hl82.trans hl89)) hy115 rfl hI91) ?_
                rintro vτ116 τ116 gsτ116 hl117 ⟨rfl, g118, rfl, hI119⟩
                refine o_pick rfl rfl rfl rfl rfl ?_
                refine st_end ?_
                obtain rfl := Eq.symm h
                cases hr0
                exact st_fin (gs' := [g118, []]) Tryd.func71 rfl (by simp) ((hl82.trans hl89).trans hl117) ⟨g118, _, rfl, hI119, rfl⟩
        · replace h := (if_neg (ne_t hc)).mp h
          refine st_pass rfl rfl rfl rfl rfl rfl ?_
          refine st_pass rfl rfl rfl rfl rfl rfl ?_
          refine st_pass rfl rfl rfl rfl rfl rfl ?_
          refine st_pass rfl rfl rfl rfl rfl rfl ?_
          refine st_pass rfl rfl rfl rfl rfl rfl ?_
          refine st_passU rfl rfl rfl rfl rfl ?_
          refine st_passU rfl rfl rfl rfl rfl ?_
          refine st_passU rfl rfl rfl rfl rfl ?_
          refine st_pass rfl rfl rfl rfl rfl rfl ?_
          refine st_pass rfl rfl rfl rfl rfl rfl ?_
          refine st_passU rfl rfl rfl rfl rfl ?_
          refine st_passU rfl rfl rfl rfl rfl ?_
          refine st_passU rfl rfl rfl rfl rfl ?_
          refine st_pass rfl rfl rfl rfl rfl rfl ?_
          refine st_pass rfl rfl rfl rfl rfl rfl ?_
          refine st_passU rfl rfl rfl rfl rfl ?_
          refine st_passU rfl rfl rfl rfl rfl ?_
          refine st_passU rfl rfl rfl rfl rfl ?_
          refine st_passU rfl rfl rfl rfl rfl ?_
          refine st_passU rfl rfl rfl rfl rfl ?_
          refine st_pass rfl rfl rfl rfl rfl rfl ?_
          refine st_pass rfl rfl rfl rfl rfl rfl ?_
          refine o_pick rfl rfl rfl rfl rfl ?_
          refine st_end ?_
          obtain rfl := Eq.symm h
          cases hr0
          exact st_fin (gs' := [g90, []]) Tryd.func71 rfl (by simp) (hl82.trans hl89) ⟨g90, _, rfl, hI91, rfl⟩
      · replace h := (if_neg (ne_t hc)).mp h
        refine o_fieldAddr rfl rfl rfl z_field24_1 rfl ?_
        refine o_loadI (v := .int .i64 c0.2.1) rfl rfl rfl z_sc3 rfl (Cel.up hc0_1 (hle.trans hl82)) ?_
        refine o_ibin (v := .bool (decide (5 < c0.2.1))) rfl rfl rfl rfl rfl rfl ?_
        refine o_pick rfl rfl rfl rfl rfl ?_
        obtain ⟨y120, u121, hy122, h⟩ := h
        refine st_call (foot := [g83]) rfl rfl rfl rfl rfl rfl (hY (9, (decide (5 < c0.2.1))) u79 _ _ _ _ _ (hle.trans hl82) hy122 rfl hI84) ?_
        rintro vτ123 τ123 gsτ123 hl124 ⟨rfl, g125, rfl, hI126⟩
        refine o_pick rfl rfl rfl rfl rfl ?_
        refine o_moveB rfl rfl rfl rfl (fun hc => ?_) (fun hc => ?_)
        · replace h := (if_pos hc).mp h
          refine o_move rfl rfl rfl rfl ?_
          refine o_fieldAddr rfl rfl rfl z_field24_4 rfl ?_
          refine o_loadI (v := .int .i64 c0.2.2.2.2) rfl rfl rfl z_sc3 rfl (Cel.up hc0_4 ((hle.trans hl82).trans hl124)) ?_
          refine o_ibin (v := .bool (decide (c0.2.2.2.2 < 1))) rfl rfl rfl rfl rfl rfl ?_
          refine o_moveB rfl rfl rfl rfl (fun hc => ?_) (fun hc => ?_)
          · replace h := (if_pos hc).mp h
            refine st_pass rfl rfl rfl rfl rfl rfl ?_
            refine st_pass rfl rfl rfl rfl rfl rfl ?_
            refine st_pass rfl rfl rfl rfl rfl rfl ?_
            refine o_pick rfl rfl rfl rfl rfl ?_
            refine o_move rfl rfl rfl rfl ?_
            refine st_pass rfl rfl rfl rfl rfl rfl ?_
            refine st_pass rfl rfl rfl rfl rfl rfl ?_
            refine st_pass rfl rfl rfl rfl rfl rfl ?_
            refine o_pick rfl rfl rfl rfl rfl ?_
            refine o_move rfl rfl rfl rfl ?_
            refine st_pass rfl rfl rfl rfl rfl rfl ?_
            refine st_pass rfl rfl rfl rfl rfl rfl ?_
            refine st_pass rfl rfl rfl rfl rfl rfl ?_
            refine st_pass rfl rfl rfl rfl rfl rfl ?_
            refine st_pass rfl rfl rfl rfl rfl rfl ?_
            refine o_pick rfl rfl rfl rfl rfl ?_
            obtain ⟨y127, u128, hy129, h⟩ := h
            refine st_call (foot := [g125]) rfl rfl rfl rfl rfl rfl (hY (3, true) u121 _ _ _ _ _ (hle.trans (hl82.trans hl124)) hy129 rfl hI126) ?_
            rintro vτ130 τ130 gsτ130 hl131 ⟨rfl, g132, rfl, hI133⟩
            refine o_pick rfl rfl rfl rfl rfl ?_
            refine st_end ?_
            obtain rfl := Eq.symm h
            cases hr0
            exact st_fin (gs' := [g132, []]) Tryd.func71 rfl (by simp) ((hl82.trans hl124).trans hl131) ⟨g132, _, rfl, hI133, rfl⟩
          · replace h := (if_neg (ne_t hc)).mp h
            refine o_fieldAddr rfl rfl rfl z_field24_4 rfl ?_
            refine o_loadI (v := .int .i64 c0.2.2.2.2) rfl rfl rfl z_sc3 rfl (Cel.up hc0_4 ((hle.trans hl82).trans hl124)) ?_
            refine o_ibin (v := .bool (decide (255 < c0.2.2.2.2))) rfl rfl rfl rfl rfl rfl ?_
            refine o_pick rfl rfl rfl rfl rfl ?_
            refine o_moveB rfl rfl rfl rfl (fun hc => ?_) (fun hc => ?_)
            · replace h := (if_pos hc).mp h
              refine st_pass rfl rfl rfl rfl rfl rfl ?_
              refine st_pass rfl rfl rfl rfl rfl rfl ?_
              refine st_pass rfl rfl rfl rfl rfl rfl ?_
              refine o_pick rfl rfl rfl rfl rfl ?_
              refine o_move rfl rfl rfl rfl ?_
              refine st_pass rfl rfl rfl rfl rfl rfl ?_
              refine st_pass rfl rfl rfl rfl rfl rfl ?_
              refine st_pass rfl rfl rfl rfl rfl rfl ?_
              refine st_pass rfl rfl rfl rfl rfl rfl ?_
              refine st_pass rfl rfl rfl rfl rfl rfl ?_
              refine o_pick rfl rfl rfl rfl rfl ?_
              obtain ⟨y134, u135, hy136, h⟩ := h
              refine st_call (foot := [g125]) rfl rfl rfl rfl rfl rfl (hY (3, true) u121 _ _ _ _ _ (hle.trans (hl82.trans hl124)) hy136 rfl hI126) ?_
              rintro vτ137 τ137 gsτ137 hl138 ⟨rfl, g139, rfl, hI140⟩
              refine o_pick rfl rfl rfl rfl rfl ?_
              refine st_end ?_
              obtain rfl := Eq.symm h
              cases hr0
              exact st_fin (gs' := [g139, []]) Tryd.func71 rfl (by simp) ((hl82.trans hl124).trans hl138) ⟨g139, _, rfl, hI140, rfl⟩
            · replace h := (if_neg (ne_t hc)).mp h
              refine o_fieldAddr rfl rfl rfl z_field24_3 rfl ?_
              refine o_loadI (v := .int .i64 c0.2.2.2.1) rfl rfl rfl z_sc3 rfl (Cel.up hc0_3 ((hle.trans hl82).trans hl124)) ?_
              refine o_ibin (v := .bool (decide (c0.2.2.2.1 < 0))) rfl rfl rfl rfl rfl rfl ?_
              refine o_pick rfl rfl rfl rfl rfl ?_
              refine o_moveB rfl rfl rfl rfl (fun hc => ?_) (fun hc => ?_)
              · replace h := (if_pos hc).mp h
                refine st_pass rfl rfl rfl rfl rfl rfl ?_
                refine st_pass rfl rfl rfl rfl rfl rfl ?_
                refine st_pass rfl rfl rfl rfl rfl rfl ?_
                refine st_pass rfl rfl rfl rfl rfl rfl ?_
                refine st_pass rfl rfl rfl rfl rfl rfl ?_
                refine o_pick rfl rfl rfl rfl rfl ?_
                obtain ⟨y141, u142, hy143, h⟩ := h
                refine st_call (foot := [g125]) rfl rfl rfl rfl rfl rfl (hY (3, true) u121 _ _ _ _ _ (hle.trans (hl82.trans hl124)) hy143 rfl hI126) ?_
                rintro vτ144 τ144 gsτ144 hl145 ⟨rfl, g146, rfl, hI147⟩
                refine o_pick rfl rfl rfl rfl rfl ?_
                refine st_end ?_
                obtain rfl := Eq.symm h
                cases hr0
                exact st_fin (gs' := [g146, []]) Tryd.func71 rfl (by simp) ((hl82.trans hl124).trans hl145) ⟨g146, _, rfl, hI147, rfl⟩
              · replace h := (if_neg (ne_t hc)).mp h
                refine o_fieldAddr rfl rfl rfl z_field24_3 rfl ?_
                refine o_loadI (v := .int .i64 c0.2.2.2.1) rfl rfl rfl z_sc3 rfl (Cel.up hc0_3 ((hle.trans hl82).trans hl124)) ?_
                refine o_fieldAddr rfl rfl rfl z_field24_4 rfl ?_
                refine o_loadI (v := .int .i64 c0.2.2.2.2) rfl rfl rfl z_sc3 rfl (Cel.up hc0_4 ((hle.trans hl82).trans hl124)) ?_
                refine o_ibin (v := .bool (decide (c0.2.2.2.2 ≤ c0.2.2.2.1))) rfl rfl rfl rfl rfl rfl ?_
                refine o_pick rfl rfl rfl rfl rfl ?_
                obtain ⟨y148, u149, hy150, h⟩ := h
                refine st_call (foot := [g125]) rfl rfl rfl rfl rfl rfl (hY (3, (decide (c0.2.2.2.2 ≤ c0.2.2.2.1))) u121 _ _ _ _ _ (hle.trans (hl82.trans hl124)) hy150 rfl hI126) ?_
                rintro vτ151 τ151 gsτ151 hl152 ⟨rfl, g153, rfl, hI154⟩
                refine o_pick rfl rfl rfl rfl rfl ?_
                refine st_end ?_
                obtain rfl := Eq.symm h
                cases hr0
                exact st_fin (gs' := [g153, []]) Tryd.func71 rfl (by simp) ((hl82.trans hl124).trans hl152) ⟨g153, _, rfl, hI154, rfl⟩
        · replace h := (if_neg (ne_t hc)).mp h
          refine st_pass rfl rfl rfl rfl rfl rfl ?_
          refine st_pass rfl rfl rfl rfl rfl rfl ?_
          refine st_pass rfl rfl rfl rfl rfl rfl ?_
          refine st_pass rfl rfl rfl rfl rfl rfl ?_
          refine st_pass rfl rfl rfl rfl rfl rfl ?_
          refine st_passU rfl rfl rfl rfl rfl ?_
          refine st_passU rfl rfl rfl rfl rfl ?_
          refine st_passU rfl rfl rfl rfl rfl ?_
          refine st_pass rfl rfl rfl rfl rfl rfl ?_
          refine st_pass rfl rfl rfl rfl rfl rfl ?_
          refine st_passU rfl rfl rfl rfl rfl ?_
          refine st_passU rfl rfl rfl rfl rfl ?_
          refine st_passU rfl rfl rfl rfl rfl ?_
          refine st_pass rfl rfl rfl rfl rfl rfl ?_
          refine st_pass rfl rfl rfl rfl rfl rfl ?_
          refine st_passU rfl rfl rfl rfl rfl ?_
          refine st_passU rfl rfl rfl rfl rfl ?_
          refine st_passU rfl rfl rfl rfl rfl ?_
          refine st_passU rfl rfl rfl rfl rfl ?_
          refine st_passU rfl rfl rfl rfl rfl ?_
          refine st_pass rfl rfl rfl rfl rfl rfl ?_
          refine st_pass rfl rfl rfl rfl rfl rfl ?_
          refine o_pick rfl rfl rfl rfl rfl ?_
          refine st_end ?_
          obtain rfl := Eq.symm h
          cases hr0
          exact st_fin (gs' := [g125, []]) Tryd.func71 rfl (by simp) (hl82.trans hl124) ⟨g125, _, rfl, hI126, rfl⟩
    · replace h := (if_neg (ne_t hc)).mp h
      refine st_pass rfl rfl rfl rfl rfl rfl ?_
      refine st_pass rfl rfl rfl rfl rfl rfl ?_
      refine st_pass rfl rfl rfl rfl rfl rfl ?_
      refine st_pass rfl rfl rfl rfl rfl rfl ?_
      refine st_pass rfl rfl rfl rfl rfl rfl ?_
      refine st_passU rfl rfl rfl rfl rfl ?_
      refine st_passU rfl rfl rfl rfl rfl ?_
      refine st_passU rfl rfl rfl rfl rfl ?_
      refine st_pass rfl rfl rfl rfl rfl rfl ?_
      refine st_pass rfl rfl rfl rfl rfl rfl ?_
      refine o_pick rfl rfl rfl rfl rfl ?_
      refine o_move rfl rfl rfl rfl ?_
      refine st_pass rfl rfl rfl rfl rfl rfl ?_
      refine st_pass rfl rfl rfl rfl rfl rfl ?_
      refine st_pass rfl rfl rfl rfl rfl rfl ?_
      refine st_pass rfl rfl rfl rfl rfl rfl ?_
      refine st_pass rfl rfl rfl rfl rfl rfl ?_
      refine st_passU rfl rfl rfl rfl rfl ?_
      refine st_passU rfl rfl rfl rfl rfl ?_
      refine st_passU rfl rfl rfl rfl rfl ?_
      refine st_pass rfl rfl rfl rfl rfl rfl ?_
      refine st_pass rfl rfl rfl rfl rfl rfl ?_
      refine st_passU rfl rfl rfl rfl rfl ?_
      refine st_passU rfl rfl rfl rfl rfl ?_
      refine st_passU rfl rfl rfl rfl rfl ?_
      refine st_pass rfl rfl rfl rfl rfl rfl ?_
      refine st_pass rfl rfl rfl rfl rfl rfl ?_
      refine st_passU rfl rfl rfl rfl rfl ?_
      refine st_passU rfl rfl rfl rfl rfl ?_
      refine st_passU rfl rfl rfl rfl rfl ?_
      refine st_passU rfl rfl rfl rfl rfl ?_
      refine st_passU rfl rfl rfl rfl rfl ?_
      refine st_pass rfl rfl rfl rfl rfl rfl ?_
      refine st_pass rfl rfl rfl rfl rfl rfl ?_
      refine o_pick rfl rfl rfl rfl rfl ?_
      refine st_end ?_
      obtain rfl := Eq.symm h
      cases hr0
      exact st_fin (gs' := [g83, []]) Tryd.func71 rfl (by simp) hl82 ⟨g83, _, rfl, hI84, rfl⟩
theorem head_wrong_ok {a0 : Int × Int × Int × Int × Int} {r : (((S : Type) → ((Int × Bool) → S → Bool × S → Prop) → S → S × Unit → Prop))} (h : head_wrong a0 r) (σ : Sto)  :
    Does Tryd.prog 42 [.agg [.int .i64 a0.1, .int .i64 a0.2.1, .int .u32 a0.2.2.1, .int .i64 a0.2.2.2.1, .int .i64 a0.2.2.2.2].toArray] σ [] (fun v τ gs => ∃ (f5 : Nat) (q6 : Array Value), gs = [] ∧ .func (.func f5) #[] q6 = v ∧ IterV Tryd.prog (fun _ x vx => vx = [.int .i64 x.1, .bool x.2]) (.func (.func f5) #[] q6) τ [] (fun (_ : Unit) _ f => f = []) r) := by
  refine call_of Tryd.func42 Tryd.ntmps42 rfl rfl (fun cs fs => ?_)
  refine st_seq ?_
  refine st_region ?_
  refine o_box (cs := [.int .i64 a0.1, .int .i64 a0.2.1, .int .u32 a0.2.2.1, .int .i64 a0.2.2.2.1, .int .i64 a0.2.2.2.2]) rfl rfl rfl rfl rfl (fun b1 => ?_)
  refine o_assign rfl rfl rfl rfl ?_
  refine st_end ?_
  refine st_seq ?_
  refine st_region ?_
  refine st_freeze (fun τ2 hl3 hg4 => ?_)
  refine o_func rfl rfl rfl rfl rfl ?_
  refine o_assign rfl rfl rfl rfl ?_
  refine st_end ?_
  obtain rfl := Eq.symm h
  exact st_ret (gs' := []) Tryd.func42 rfl (List.Sublist.refl _) hl3 ⟨_, _, rfl, rfl, (head_wrong_1_ok (cel_of hg4 rfl) (cel_of hg4 rfl) (cel_of hg4 rfl) (cel_of hg4 rfl) (cel_of hg4 rfl))⟩
theorem head_Check_ok {a0 : Int × Int × Int × Int × Int} {r : Int} (h : head_Check a0 r) (σ : Sto)  :
    Does Tryd.prog 17 [.agg [.int .i64 a0.1, .int .i64 a0.2.1, .int .u32 a0.2.2.1, .int .i64 a0.2.2.2.1, .int .i64 a0.2.2.2.2].toArray] σ [] (fun v τ gs => gs = [] ∧ .int .i64 r = v) := by
  refine call_of Tryd.func17 Tryd.ntmps17 rfl rfl (fun cs fs => ?_)
  refine st_seq ?_
  refine st_region ?_
  refine o_box (cs := [.int .i64 a0.1, .int .i64 a0.2.1, .int .u32 a0.2.2.1, .int .i64 a0.2.2.2.1, .int .i64 a0.2.2.2.2]) rfl rfl rfl rfl rfl (fun b1 => ?_)
  refine o_assign rfl rfl rfl rfl ?_
  refine st_end ?_
  refine st_scope ?_
  refine st_seq ?_
  refine st_region ?_
  refine o_alloc rfl rfl rfl z_zero32 (fun b2 => ?_)
  refine o_store (j := 0) (vs := [.int .i64 0]) (cs' := [.int .i64 0]) rfl rfl rfl z_size32 rfl rfl rfl (ones_cons rfl ones_nil) rfl rfl rfl ?_
  refine st_gs [[(b2, .cells [.int .i64 0].toArray 32 (0, 0))], [(b1, .cells [.int .i64 a0.1, .int .i64 a0.2.1, .int .u32 a0.2.2.1, .int .i64 a0.2.2.2.1, .int .i64 a0.2.2.2.2].toArray 24 (0, 0))]] rfl ?_
  refine st_end ?_
  refine st_seq ?_
  refine st_label ?_
  refine st_seq ?_
  refine st_cut (fun ρ τ3 gs => ∃ (s3 : Int), head_Check_j1 s3 r ∧ σ.Le τ3 ∧ ρ = [(2, .int .i64 0), (3, .pointer (some ⟨b2, 0, none⟩))] ∧ gs = [[(b2, .cells [.int .i64 s3].toArray 32 (0, 0))]]) ?_ (fun hk3 => ?_)
  · rintro ρ3 τ3 gs3 ⟨s3, h, hl3, rfl, rfl⟩
    refine st_seq ?_
    refine st_region ?_
    refine o_load (j := 0) (v := .int .i64 s3) rfl rfl rfl z_sc32 rfl rfl rfl ?_
    refine o_assign rfl rfl rfl rfl ?_
    refine st_end ?_
    refine st_ord [] [] rfl ?_
    obtain rfl := Eq.symm h
    exact st_ret (gs' := []) Tryd.func17 rfl (List.Sublist.refl _) hl3 ⟨rfl, rfl⟩
  refine st_seq ?_
  refine st_region ?_
  refine o_loadN (j := 1) (vs := [.int .i64 a0.1, .int .i64 a0.2.1, .int .u32 a0.2.2.1, .int .i64 a0.2.2.2.1, .int .i64 a0.2.2.2.2]) rfl rfl rfl z_agg24 rfl rfl rfl ?_
  obtain ⟨r4, hr5, h⟩ := h
  refine st_call (foot := []) rfl rfl rfl rfl rfl rfl (callV_fn z_en42 (head_wrong_ok hr5 σ)) ?_
  rintro vτ6 τ6 gsτ6 hl7 ⟨f8, q9, rfl, rfl, hit10⟩
  refine st_end ?_
  refine st_block ?_
  obtain ⟨t11, w11, hR11, hA11⟩ := h
  refine st_env (ρ' := [(2, .int .i64 0), (3, .pointer (some ⟨b2, 0, none⟩)), (7, .func (.func f8) #[] q9)]) ⟨rfl, rfl, rfl, trivial⟩ ?_
  refine st_ord [0] [[(b2, .cells [.int .i64 0].toArray 32 (0, 0))]] rfl ?_
  refine st_addNil ?_
  refine st_range (B := head_Check_l2) (s0 := ()) ranges_fctx rfl hit10 (Sto.Le.refl _) hR11 rfl (fun _ _ _ h => by cases h; rfl) (fun (s11 : Unit) τ11 gs => τ6.Le τ11 ∧ gs = [[(b2, .cells [.int .i64 0].toArray 32 (0, 0))]]) (fun (p12 : Int) cd τ13 gs => cd = .exit 0 ∧ τ6.Le τ13 ∧ gs = [[(b2, .cells [.int .i64 p12].toArray 32 (0, 0))]]) (fun _ _ _ _ hl ⟨hb, hg⟩ => ⟨hb.trans hl, hg⟩) (fun _ _ _ _ _ hl ⟨hc, hb, hg⟩ => ⟨hc, hb.trans hl, hg⟩) ⟨Sto.Le.refl _, rfl⟩ ?_ ?_ ?_
  · rintro x11 s11 o11 τ11 gs11 vx11 hl11 h rfl ⟨hb11, rfl⟩ l11 rc11 caller11 cs11 fs11
    refine st_seq ?_
    refine st_region ?_
    refine o_assign rfl rfl rfl rfl ?_
    refine st_end ?_
    refine st_region ?_
    refine o_assign rfl rfl rfl rfl ?_
    refine st_end ?_
    refine st_begin ?_
    refine st_block ?_
    refine st_seq ?_
    refine st_region ?_
    refine o_move rfl rfl rfl rfl ?_
    refine st_end ?_
    refine st_cond rfl (fun hc => ?_) (fun hc => ?_)
    · replace h := (if_pos hc).mp h
      refine st_seq ?_
      refine st_region ?_
      refine o_move rfl rfl rfl rfl ?_
      refine o_store (j := 0) (vs := [.int .i64 x11.1]) (cs' := [.int .i64 x11.1]) rfl rfl rfl z_size32 rfl rfl rfl (ones_cons rfl ones_nil) rfl rfl rfl ?_
      refine st_gs [[(b2, .cells [.int .i64 x11.1].toArray 32 (0, 0))]] rfl ?_
      refine st_end ?_
      exact st_rexit rfl (List.Sublist.refl _) (Sto.Le.refl _) ⟨_, h, rfl, hl11, rfl⟩
    · replace h := (if_neg (ne_t hc)).mp h
      refine st_skip ?_
      refine st_inBlock ?_
      exact st_rend (List.Sublist.refl _) (Sto.Le.refl _) ⟨_, h, hl11, rfl⟩
  · rintro p15 τ16 gs11 f11 ht hl17 ⟨hb, rfl⟩ rfl
    subst ht
    replace h := hA11
    refine st_ord [1] [[(b2, .cells [.int .i64 0].toArray 32 (0, 0))]] rfl ?_
    refine st_inBlock ?_
    refine st_env (ρ' := [(2, .int .i64 0), (3, .pointer (some ⟨b2, 0, none⟩))]) ⟨rfl, rfl, trivial⟩ ?_
    exact hk3 _ _ _ ⟨0, h, (hl7.trans hl17), rfl, rfl⟩
  · rintro p12 cd11 τ13 gs11 f11 ht hl14 ⟨rfl, hb, rfl⟩ rfl
    subst ht
    replace h := hA11
    refine st_ord [1] [[(b2, .cells [.int .i64 p12].toArray 32 (0, 0))]] rfl ?_
    refine st_exit rfl ?_
    refine st_env (ρ' := [(2, .int .i64 0), (3, .pointer (some ⟨b2, 0, none⟩))]) ⟨rfl, rfl, trivial⟩ ?_
    exact hk3 _ _ _ ⟨p12, h, (hl7.trans hl14), rfl, rfl⟩
theorem head_Bytes_ok {a0 : Int × Int × Int × Int × Int} {r : List Int × Int} (h : head_Bytes a0 r) (σ : Sto)  :
    Does Tryd.prog 14 [.agg [.int .i64 a0.1, .int .i64 a0.2.1, .int .u32 a0.2.2.1, .int .i64 a0.2.2.2.1, .int .i64 a0.2.2.2.2].toArray] σ [] (fun v τ gs => ∃ (v13 : Value), gs = [] ∧ .tuple [v13, .int .i64 r.2].toArray = v ∧ Sl (kI .u8) τ v13 r.1 ∧ Full v13) := by
  refine call_of Tryd.func14 Tryd.ntmps14 rfl rfl (fun cs fs => ?_)
  refine st_seq ?_
  refine st_region ?_
  refine o_box (cs := [.int .i64 a0.1, .int .i64 a0.2.1, .int .u32 a0.2.2.1, .int .i64 a0.2.2.2.1, .int .i64 a0.2.2.2.2]) rfl rfl rfl rfl rfl (fun b1 => ?_)
  refine o_assign rfl rfl rfl rfl ?_
  refine o_assign rfl rfl rfl rfl ?_
  refine st_end ?_
  refine st_seq ?_
  refine st_seq ?_
  refine st_region ?_
  refine o_loadN (j := 0) (vs := [.int .i64 a0.1, .int .i64 a0.2.1, .int .u32 a0.2.2.1, .int .i64 a0.2.2.2.1, .int .i64 a0.2.2.2.2]) rfl rfl rfl z_agg24 rfl rfl rfl ?_
  obtain ⟨r2, hr3, h⟩ := h
  refine st_call (foot := []) rfl rfl rfl rfl rfl rfl (callV_fn z_en17 (head_Check_ok hr3 σ)) ?_
  rintro vτ4 τ4 gsτ4 hl5 ⟨rfl, rfl⟩
  refine o_assign rfl rfl rfl rfl ?_
  refine st_end ?_
  refine st_seq ?_
  refine st_region ?_
  refine o_move rfl rfl rfl rfl ?_
  refine o_ibin (v := .bool (!(decide (r2 = 0)))) rfl rfl rfl rfl rfl rfl ?_
  refine st_end ?_
  refine st_cond rfl (fun hc => ?_) (fun hc => ?_)
  · replace h := (if_pos hc).mp h
    refine st_seq ?_
    refine st_region ?_
    refine o_move rfl rfl rfl rfl ?_
    refine o_assign rfl rfl rfl rfl ?_
    refine o_assign rfl rfl rfl rfl ?_
    refine st_end ?_
    refine st_ord [] [] rfl ?_
    obtain rfl := Eq.symm h
    exact st_ret (gs' := []) Tryd.func14 rfl (List.Sublist.refl _) hl5 ⟨_, rfl, rfl, Sl.nil, full_nil⟩
  · replace h := (if_neg (ne_t hc)).mp h
    refine st_skip ?_
    refine st_seq ?_
    refine st_region ?_
    refine o_fieldAddr rfl rfl rfl z_field24_0 rfl ?_
    refine o_load (j := 0) (v := .int .i64 a0.1) rfl rfl rfl z_sc3 rfl rfl rfl ?_
    refine o_conv rfl rfl rfl Tryd.underlying3 Tryd.underlying5 rfl ?_
    refine o_fieldAddr rfl rfl rfl z_field24_1 rfl ?_
    refine o_load (j := 0) (v := .int .i64 a0.2.1) rfl rfl rfl z_sc3 rfl rfl rfl ?_
    refine o_conv rfl rfl rfl Tryd.underlying3 Tryd.underlying5 rfl ?_
    refine o_fieldAddr rfl rfl rfl z_field24_2 rfl ?_
    refine o_load (j := 0) (v := .int .u32 a0.2.2.1) rfl rfl rfl z_sc22 rfl rfl rfl ?_
    refine o_conv rfl rfl rfl Tryd.underlying22 Tryd.underlying5 rfl ?_
    refine o_fieldAddr rfl rfl rfl z_field24_2 rfl ?_
    refine o_load (j := 0) (v := .int .u32 a0.2.2.1) rfl rfl rfl z_sc22 rfl rfl rfl ?_
    refine o_shr rfl rfl rfl rfl rfl (by decide) ?_
    refine o_conv rfl rfl rfl Tryd.underlying22 Tryd.underlying5 rfl ?_
    refine o_fieldAddr rfl rfl rfl z_field24_2 rfl ?_
    refine o_load (j := 0) (v := .int .u32 a0.2.2.1) rfl rfl rfl z_sc22 rfl rfl rfl ?_
    refine o_shr rfl rfl rfl rfl rfl (by decide) ?_
    refine o_conv rfl rfl rfl Tryd.underlying22 Tryd.underlying5 rfl ?_
    refine o_fieldAddr rfl rfl rfl z_field24_2 rfl ?_
    refine o_load (j := 0) (v := .int .u32 a0.2.2.1) rfl rfl rfl z_sc22 rfl rfl rfl ?_
    refine o_shr rfl rfl rfl rfl rfl (by decide) ?_
    refine o_conv rfl rfl rfl Tryd.underlying22 Tryd.underlying5 rfl ?_
    refine o_fieldAddr rfl rfl rfl z_field24_3 rfl ?_
    refine o_load (j := 0) (v := .int .i64 a0.2.2.2.1) rfl rfl rfl z_sc3 rfl rfl rfl ?_
    refine o_conv rfl rfl rfl Tryd.underlying3 Tryd.underlying5 rfl ?_
    refine o_fieldAddr rfl rfl rfl z_field24_4 rfl ?_
    refine o_load (j := 0) (v := .int .i64 a0.2.2.2.2) rfl rfl rfl z_sc3 rfl rfl rfl ?_
    refine o_conv rfl rfl rfl Tryd.underlying3 Tryd.underlying5 rfl ?_
    refine o_buildA (ps := [(0, [.int .u8 (IntKind.u8.wrap a0.1)]), (1, [.int .u8 (IntKind.u8.wrap a0.2.1)]), (2, [.int .u8 (IntKind.u8.wrap a0.2.2.1)]), (3, [.int .u8 (IntKind.u8.wrap (ishr .u32 a0.2.2.1 8))]), (4, [.int .u8 (IntKind.u8.wrap (ishr .u32 a0.2.2.1 16))]), (5, [.int .u8 (IntKind.u8.wrap (ishr .u32 a0.2.2.1 24))]), (6, [.int .u8 (IntKind.u8.wrap a0.2.2.2.1)]), (7, [.int .u8 (IntKind.u8.wrap a0.2.2.2.2)])]) (cs := [.int .u8 (IntKind.u8.wrap a0.1), .int .u8 (IntKind.u8.wrap a0.2.1), .int .u8 (IntKind.u8.wrap a0.2.2.1), .int .u8 (IntKind.u8.wrap (ishr .u32 a0.2.2.1 8)), .int .u8 (IntKind.u8.wrap (ishr .u32 a0.2.2.1 16)), .int .u8 (IntKind.u8.wrap (ishr .u32 a0.2.2.1 24)), .int .u8 (IntKind.u8.wrap a0.2.2.2.1), .int .u8 (IntKind.u8.wrap a0.2.2.2.2)]) rfl rfl rfl z_arrz78 ⟨rfl, ⟨_, rfl, rfl⟩, ⟨rfl, ⟨_, rfl, rfl⟩, ⟨rfl, ⟨_, rfl, rfl⟩, ⟨rfl, ⟨_, rfl, rfl⟩, ⟨rfl, ⟨_, rfl, rfl⟩, ⟨rfl, ⟨_, rfl, rfl⟩, ⟨rfl, ⟨_, rfl, rfl⟩, ⟨rfl, ⟨_, rfl, rfl⟩, trivial⟩⟩⟩⟩⟩⟩⟩⟩ (fill_all [.int .u8 (IntKind.u8.wrap a0.1), .int .u8 (IntKind.u8.wrap a0.2.1), .int .u8 (IntKind.u8.wrap a0.2.2.1), .int .u8 (IntKind.u8.wrap (ishr .u32 a0.2.2.1 8)), .int .u8 (IntKind.u8.wrap (ishr .u32 a0.2.2.1 16)), .int .u8 (IntKind.u8.wrap (ishr .u32 a0.2.2.1 24)), .int .u8 (IntKind.u8.wrap a0.2.2.2.1), .int .u8 (IntKind.u8.wrap a0.2.2.2.2)] _ rfl) ?_
    refine o_alloc rfl rfl rfl z_zero78 (fun b6 => ?_)
    refine o_store (j := 0) (vs := [.int .u8 (IntKind.u8.wrap a0.1), .int .u8 (IntKind.u8.wrap a0.2.1), .int .u8 (IntKind.u8.wrap a0.2.2.1), .int .u8 (IntKind.u8.wrap (ishr .u32 a0.2.2.1 8)), .int .u8 (IntKind.u8.wrap (ishr .u32 a0.2.2.1 16)), .int .u8 (IntKind.u8.wrap (ishr .u32 a0.2.2.1 24)), .int .u8 (IntKind.u8.wrap a0.2.2.2.1), .int .u8 (IntKind.u8.wrap a0.2.2.2.2)]) (cs' := [.int .u8 (IntKind.u8.wrap a0.1), .int .u8 (IntKind.u8.wrap a0.2.1), .int .u8 (IntKind.u8.wrap a0.2.2.1), .int .u8 (IntKind.u8.wrap (ishr .u32 a0.2.2.1 8)), .int .u8 (IntKind.u8.wrap (ishr .u32 a0.2.2.1 16)), .int .u8 (IntKind.u8.wrap (ishr .u32 a0.2.2.1 24)), .int .u8 (IntKind.u8.wrap a0.2.2.2.1), .int .u8 (IntKind.u8.wrap a0.2.2.2.2)]) rfl rfl rfl z_size78 rfl rfl rfl (ones_cons rfl (ones_cons rfl (ones_cons rfl (ones_cons rfl (ones_cons rfl (ones_cons rfl (ones_cons rfl (ones_cons rfl ones_nil)))))))) rfl rfl rfl ?_
    refine st_gs [[(b6, .cells [.int .u8 (IntKind.u8.wrap a0.1), .int .u8 (IntKind.u8.wrap a0.2.1), .int .u8 (IntKind.u8.wrap a0.2.2.1), .int .u8 (IntKind.u8.wrap (ishr .u32 a0.2.2.1 8)), .int .u8 (IntKind.u8.wrap (ishr .u32 a0.2.2.1 16)), .int .u8 (IntKind.u8.wrap (ishr .u32 a0.2.2.1 24)), .int .u8 (IntKind.u8.wrap a0.2.2.2.1), .int .u8 (IntKind.u8.wrap a0.2.2.2.2)].toArray 78 (0, 0))], [(b1, .cells [.int .i64 a0.1, .int .i64 a0.2.1, .int .u32 a0.2.2.1, .int .i64 a0.2.2.2.1, .int .i64 a0.2.2.2.2].toArray 24 (0, 0))]] rfl ?_
    refine st_end ?_
    refine st_seq ?_
    refine st_region ?_
    refine st_freeze (fun τ7 hl8 hg9 => ?_)
    refine o_sliceF (dk := (kI .u8)) (xs := [(IntKind.u8.wrap a0.1), (IntKind.u8.wrap a0.2.1), (IntKind.u8.wrap a0.2.2.1), (IntKind.u8.wrap (ishr .u32 a0.2.2.1 8)), (IntKind.u8.wrap (ishr .u32 a0.2.2.1 16)), (IntKind.u8.wrap (ishr .u32 a0.2.2.1 24)), (IntKind.u8.wrap a0.2.2.2.1), (IntKind.u8.wrap a0.2.2.2.2)]) rfl rfl rfl z_arr78 rfl (hg9 _ List.mem_cons_self) (manyI [(IntKind.u8.wrap a0.1), (IntKind.u8.wrap a0.2.1), (IntKind.u8.wrap a0.2.2.1), (IntKind.u8.wrap (ishr .u32 a0.2.2.1 8)), (IntKind.u8.wrap (ishr .u32 a0.2.2.1 16)), (IntKind.u8.wrap (ishr .u32 a0.2.2.1 24)), (IntKind.u8.wrap a0.2.2.2.1), (IntKind.u8.wrap a0.2.2.2.2)]) rfl rfl (fun v10 hs11 hF12 => ?_)
    refine o_assign rfl rfl rfl rfl ?_
    refine o_assign rfl rfl rfl rfl ?_
    refine st_end ?_
    refine st_ord [] [] rfl ?_
    obtain rfl := Eq.symm h
    exact st_ret (gs' := []) Tryd.func14 rfl (List.Sublist.refl _) (hl5.trans hl8) ⟨_, rfl, rfl, hs11, hF12⟩
theorem ref01_Same_ok {a0 : List Int} {a1 : List Int} {v1 : Value} {v3 : Value} {r : Bool} (h : ref01_Same a0 a1 r) (σ : Sto) (hs2 : Sl (kI .u8) σ v1 a0) (hs4 : Sl (kI .u8) σ v3 a1) :
    Does Tryd.prog 15 [v1, v3] σ [] (fun v τ gs => gs = [] ∧ .bool r = v) := by
  refine call_of Tryd.func15 Tryd.ntmps15 rfl rfl (fun cs fs => ?_)
  refine st_seq ?_
  refine st_region ?_
  refine o_assign rfl rfl rfl rfl ?_
  refine st_end ?_
  refine st_seq ?_
  refine st_seq ?_
  refine st_region ?_
  refine o_move rfl rfl rfl rfl ?_
  refine o_lenI rfl rfl rfl z_slT31 rfl hs2 ?_
  refine o_move rfl rfl rfl rfl ?_
  refine o_lenI rfl rfl rfl z_slT31 rfl hs4 ?_
  refine o_ibin (v := .bool (!(decide ((a0.length : Int) = (a1.length : Int))))) rfl rfl rfl rfl rfl rfl ?_
  refine st_end ?_
  refine st_cond rfl (fun hc => ?_) (fun hc => ?_)
  · replace h := (if_pos hc).mp h
    refine st_seq ?_
    refine st_region ?_
    refine o_assign rfl rfl rfl rfl ?_
    refine st_end ?_
    obtain rfl := Eq.symm h
    exact st_ret (gs' := []) Tryd.func15 rfl (List.Sublist.refl _) (Sto.Le.refl _) ⟨rfl, rfl⟩
  · replace h := (if_neg (ne_t hc)).mp h
    refine st_skip ?_
    refine st_seq ?_
    refine st_cut (fun ρ τ5 gs => ∃ (s5 : Unit), ref01_Same_j1 s5 r ∧ σ.Le τ5 ∧ ρ = [(4, .bool false)] ∧ gs = []) ?_ (fun hk5 => ?_)
    · rintro ρ5 τ5 gs5 ⟨s5, h, hl5, rfl, rfl⟩
      refine st_seq ?_
      refine st_region ?_
      refine o_assign rfl rfl rfl rfl ?_
      refine st_end ?_
      obtain rfl := Eq.symm h
      exact st_ret (gs' := []) Tryd.func15 rfl (List.Sublist.refl _) hl5 ⟨rfl, rfl⟩
    refine st_seq ?_
    refine st_region ?_
    refine o_assign rfl rfl rfl rfl ?_
    refine st_end ?_
    obtain ⟨e6, hL6, hA6⟩ := h
    refine st_env (ρ' := [(0, v1), (1, v3), (4, .bool false), (5, .int .i64 0)]) ⟨rfl, rfl, rfl, rfl, trivial⟩ ?_
    refine st_loop hL6 (fun (s6 : Int) ρ τ6 gs => σ.Le τ6 ∧ ρ = [(0, v1), (1, v3), (4, .bool false), (5, .int .i64 s6)] ∧ gs = []) ⟨Sto.Le.refl _, rfl, rfl⟩ ?_
    rintro s6 o6 h he6 ρ6 τ6 gs6 ⟨hl6, rfl, rfl⟩ hn6
    refine st_seq ?_
    refine st_seq ?_
    refine st_region ?_
    refine o_move rfl rfl rfl rfl ?_
    refine o_move rfl rfl rfl rfl ?_
    refine o_lenI rfl rfl rfl z_slT31 rfl (hs2.up hl6) ?_
    refine o_ibin (v := .bool (decide (s6 < (a0.length : Int)))) rfl rfl rfl rfl rfl rfl ?_
    refine st_end ?_
    refine st_cond rfl (fun hc => ?_) (fun hc => ?_)
    · replace h := (if_pos hc).mp h
      refine st_skip ?_
      refine st_seq ?_
      refine st_block ?_
      refine st_seq ?_
      obtain ⟨q7, hf8, h⟩ := h
      obtain ⟨q12, hf13, h⟩ := h
      refine st_draw 9 (tl [fun τ v => (v1 : Value) = v,
    fun τ v => (.int .i64 s6 : Value) = v,
    fun τ v => ∃ (b9 : Nat) (of10 : Nat) (vsb9 : List Value), (.pointer (some ⟨b9, of10, none⟩) : Value) = v ∧ CelN τ ⟨b9, of10, none⟩ vsb9 ∧ (kI .u8).rep τ vsb9 q7,
    fun τ v => (.int .u8 q7 : Value) = v,
    fun τ v => (v3 : Value) = v,
    fun τ v => (.int .i64 s6 : Value) = v,
    fun τ v => ∃ (b14 : Nat) (of15 : Nat) (vsb14 : List Value), (.pointer (some ⟨b14, of15, none⟩) : Value) = v ∧ CelN τ ⟨b14, of15, none⟩ vsb14 ∧ (kI .u8).rep τ vsb14 q12,
    fun τ v => (.int .u8 q12 : Value) = v,
    fun τ v => (.bool (!(decide (q7 = q12))) : Value) = v]) (fun _ _ => []) z_mix rfl (tl_mono ⟨fun _ _ _ _ h => h, ⟨fun _ _ _ _ h => h, ⟨fun _ _ _ hl ⟨b9, of10, vsb9, hv, hc11, hrepb9⟩ => ⟨b9, of10, vsb9, hv, hc11.up hl, Kd.mono _ hl hrepb9⟩, ⟨fun _ _ _ _ h => h, ⟨fun _ _ _ _ h => h, ⟨fun _ _ _ _ h => h, ⟨fun _ _ _ hl ⟨b14, of15, vsb14, hv, hc16, hrepb14⟩ => ⟨b14, of15, vsb14, hv, hc16.up hl, Kd.mono _ hl hrepb14⟩, ⟨fun _ _ _ _ h => h, ⟨fun _ _ _ _ h => h, trivial⟩⟩⟩⟩⟩⟩⟩⟩⟩) (allB_cons (allB_cons (allB_cons (allB_cons (allB_cons (allB_cons (allB_cons (allB_cons (allB_cons allB_nil ?_) ?_) ?_) ?_) ?_) ?_) ?_) ?_) ?_) ?_
      · intro ρ' τ pool rs hl hd hout hk
        refine o_move rfl rfl rfl ((hout 0 rfl).trans rfl) ?_
        exact st_addNil (hk _ _ (Sto.Le.refl _) rfl)
      · intro ρ' τ pool rs hl hd hout hk
        refine o_move rfl rfl rfl ((hout 5 rfl).trans rfl) ?_
        exact st_addNil (hk _ _ (Sto.Le.refl _) rfl)
      · intro ρ' τ pool rs hl hd hout hk
        obtain ⟨_, e0, rfl⟩ := hd 0 rfl
        obtain ⟨_, e1, rfl⟩ := hd 1 rfl
        refine o_index rfl rfl rfl z_slT31 rfl e0 (hs2.up (hl6.trans hl)) e1 hf8 (fun b9 of10 vsb9 hc11 hrepb9 => ?_)
        exact st_addNil (hk _ _ (Sto.Le.refl _) ⟨b9, of10, vsb9, rfl, hc11, hrepb9⟩)
      · intro ρ' τ pool rs hl hd hout hk
        obtain ⟨_, e2, b9, of10, vsb9, rfl, hc11, hrepb9⟩ := hd 2 rfl
        have hrepb9 := hrepb9
        obtain rfl := hrepb9
        refine o_loadI (v := .int .u8 q7) rfl rfl rfl z_sc5 e2 (hc11 0 _ rfl) ?_
        exact st_addNil (hk _ _ (Sto.Le.refl _) rfl)
      · intro ρ' τ pool rs hl hd hout hk
        refine o_move rfl rfl rfl ((hout 1 rfl).trans rfl) ?_
        exact st_addNil (hk _ _ (Sto.Le.refl _) rfl)
      · intro ρ' τ pool rs hl hd hout hk
        refine o_move rfl rfl rfl ((hout 5 rfl).trans rfl) ?_
        exact st_addNil (hk _ _ (Sto.Le.refl _) rfl)
      · intro ρ' τ pool rs hl hd hout hk
        obtain ⟨_, e4, rfl⟩ := hd 4 rfl
        obtain ⟨_, e5, rfl⟩ := hd 5 rfl
        refine o_index rfl rfl rfl z_slT31 rfl e4 (hs4.up (hl6.trans hl)) e5 hf13 (fun b14 of15 vsb14 hc16 hrepb14 => ?_)
        exact st_addNil (hk _ _ (Sto.Le.refl _) ⟨b14, of15, vsb14, rfl, hc16, hrepb14⟩)
      · intro ρ' τ pool rs hl hd hout hk
        obtain ⟨_, e6, b14, of15, vsb14, rfl, hc16, hrepb14⟩ := hd 6 rfl
        have hrepb14 := hrepb14
        obtain rfl := hrepb14
        refine o_loadI (v := .int .u8 q12) rfl rfl rfl z_sc5 e6 (hc16 0 _ rfl) ?_
        exact st_addNil (hk _ _ (Sto.Le.refl _) rfl)
      · intro ρ' τ pool rs hl hd hout hk
        obtain ⟨_, e3, rfl⟩ := hd 3 rfl
        obtain ⟨_, e7, rfl⟩ := hd 7 rfl
        refine o_ibin (v := .bool (!(decide (q7 = q12)))) rfl rfl rfl e3 e7 rfl ?_
        exact st_addNil (hk _ _ (Sto.Le.refl _) rfl)
      intro ρ' τ17 vals hl17 hv hout
      have l8 : Eng.look ρ' 25 = some (.bool (!(decide (q7 = q12)))) := (hv 8 (by decide)).1.trans (congrArg some (show vals 8 = .bool (!(decide (q7 = q12))) from Eq.symm (hv 8 (by decide)).2))
      refine st_ord [] [] rfl ?_
      refine st_env (ρ' := [(25, .bool (!(decide (q7 = q12)))), (0, v1), (1, v3), (4, .bool false), (5, .int .i64 s6)]) ⟨l8, (hout 0 rfl).trans rfl, (hout 1 rfl).trans rfl, (hout 4 rfl).trans rfl, (hout 5 rfl).trans rfl, trivial⟩ ?_
      refine st_end ?_
      refine st_cond rfl (fun hc => ?_) (fun hc => ?_)
      · replace h := (if_pos hc).mp h
        refine st_seq ?_
        refine st_region ?_
        refine o_assign rfl rfl rfl rfl ?_
        refine st_end ?_
        obtain rfl := he6 _ h
        replace h := hA6
        obtain rfl := Eq.symm h
        exact st_ret (gs' := []) Tryd.func15 rfl (List.Sublist.refl _) (hl6.trans hl17) ⟨rfl, rfl⟩
      · replace h := (if_neg (ne_t hc)).mp h
        refine st_skip ?_
        refine st_inBlock ?_
        refine st_region ?_
        refine o_move rfl rfl rfl rfl ?_
        refine o_ibin (v := .int .i64 (IntKind.i64.wrap (s6 + 1))) rfl rfl rfl rfl rfl rfl ?_
        refine o_assign rfl rfl rfl rfl ?_
        refine st_end ?_
        refine st_env (ρ' := [(0, v1), (1, v3), (4, .bool false), (5, .int .i64 (IntKind.i64.wrap (s6 + 1)))]) ⟨rfl, rfl, rfl, rfl, trivial⟩ ?_
        exact hn6 _ _ _ _ h ⟨(hl6.trans hl17), rfl, rfl⟩
    · replace h := (if_neg (ne_t hc)).mp h
      refine st_exit rfl ?_
      obtain rfl := he6 _ h
      replace h := hA6
      refine st_env (ρ' := [(4, .bool false)]) ⟨rfl, trivial⟩ ?_
      exact hk5 _ _ _ ⟨(), h, hl6, rfl, rfl⟩
theorem internal_strconv_small_ok {a0 : Int} {r : ByteArray} (h : internal_strconv_small a0 r) (σ : Sto)  :
    Does Tryd.prog 94 [.int .i64 a0] σ [] (fun v τ gs => gs = [] ∧ .string r = v) := by
  refine call_of Tryd.func94 Tryd.ntmps94 rfl rfl (fun cs fs => ?_)
  refine st_seq ?_
  refine st_region ?_
  refine o_assign rfl rfl rfl (ev_str z_str0) ?_
  refine st_end ?_
  refine st_seq ?_
  refine st_seq ?_
  refine st_region ?_
  refine o_move rfl rfl rfl rfl ?_
  refine o_ibin (v := .bool (decide (a0 < 10))) rfl rfl rfl rfl rfl rfl ?_
  refine st_end ?_
  refine st_cond rfl (fun hc => ?_) (fun hc => ?_)
  · replace h := (if_pos hc).mp h
    refine st_seq ?_
    refine st_region ?_
    refine o_move rfl rfl rfl rfl ?_
    refine o_move rfl rfl rfl rfl ?_
    refine o_ibin (v := .int .i64 (IntKind.i64.wrap (a0 + 1))) rfl rfl rfl rfl rfl rfl ?_
    obtain ⟨hf1, h⟩ := h
    obtain ⟨hf2, h⟩ := h
    obtain ⟨hf3, h⟩ := h
    refine o_sliceS rfl rfl rfl Tryd.underlying9 (ev_str z_str1) rfl rfl hf1 hf2 hf3 ?_
    refine o_assign rfl rfl rfl rfl ?_
    refine st_end ?_
    obtain rfl := Eq.symm h
    exact st_ret (gs' := []) Tryd.func94 rfl (List.Sublist.refl _) (Sto.Le.refl _) ⟨rfl, rfl⟩
  · replace h := (if_neg (ne_t hc)).mp h
    refine st_skip ?_
    refine st_seq ?_
    refine st_region ?_
    refine o_move rfl rfl rfl rfl ?_
    refine o_ibin (v := .int .i64 (IntKind.i64.wrap (a0 * 2))) rfl rfl rfl rfl rfl rfl ?_
    refine o_move rfl rfl rfl rfl ?_
    refine o_ibin (v := .int .i64 (IntKind.i64.wrap (a0 * 2))) rfl rfl rfl rfl rfl rfl ?_
    refine o_ibin (v := .int .i64 (IntKind.i64.wrap ((IntKind.i64.wrap (a0 * 2)) + 2))) rfl rfl rfl rfl rfl rfl ?_
    obtain ⟨hf4, h⟩ := h
    obtain ⟨hf5, h⟩ := h
    obtain ⟨hf6, h⟩ := h
    refine o_sliceS rfl rfl rfl Tryd.underlying9 (ev_str z_str2) rfl rfl hf4 hf5 hf6 ?_
    refine o_assign rfl rfl rfl rfl ?_
    refine st_end ?_
    obtain rfl := Eq.symm h
    exact st_ret (gs' := []) Tryd.func94 rfl (List.Sublist.refl _) (Sto.Le.refl _) ⟨rfl, rfl⟩
theorem math_bits_Len64_ok {a0 : Int} {r : Int} (h : math_bits_Len64 a0 r) (σ : Sto)  :
    Does Tryd.prog 104 [.int .u64 a0] σ [] (fun v τ gs => gs = [] ∧ .int .i64 r = v) := by
  refine call_of Tryd.func104 Tryd.ntmps104 rfl rfl (fun cs fs => ?_)
  refine st_seq ?_
  refine st_region ?_
  refine o_assign rfl rfl rfl rfl ?_
  refine st_end ?_
  refine st_seq ?_
  refine st_cut (fun ρ τ1 gs => ∃ (s1 : Int × Int), math_bits_Len64_j1 s1 r ∧ σ.Le τ1 ∧ ρ = [(0, .int .u64 s1.1), (2, .int .i64 s1.2)] ∧ gs = []) ?_ (fun hk1 => ?_)
  · rintro ρ1 τ1 gs1 ⟨s1, h, hl1, rfl, rfl⟩
    refine st_seq ?_
    refine st_cut (fun ρ τ2 gs => ∃ (s2 : Int × Int), math_bits_Len64_j2 s2 r ∧ τ1.Le τ2 ∧ ρ = [(0, .int .u64 s2.1), (2, .int .i64 s2.2)] ∧ gs = []) ?_ (fun hk2 => ?_)
    · rintro ρ2 τ2 gs2 ⟨s2, h, hl2, rfl, rfl⟩
      refine st_seq ?_
      refine st_cut (fun ρ τ3 gs => ∃ (s3 : Int × Int), math_bits_Len64_j3 s3 r ∧ τ2.Le τ3 ∧ ρ = [(0, .int .u64 s3.1), (2, .int .i64 s3.2)] ∧ gs = []) ?_ (fun hk3 => ?_)
      · rintro ρ3 τ3 gs3 ⟨s3, h, hl3, rfl, rfl⟩
        refine st_seq ?_
        refine st_region ?_
        refine o_move rfl rfl rfl rfl ?_
        refine o_move rfl rfl rfl rfl ?_
        refine o_conv rfl rfl rfl Tryd.underlying48 Tryd.underlying5 rfl ?_
        obtain ⟨q4, hf5, h⟩ := h
        refine o_indexS rfl rfl rfl Tryd.underlying9 (ev_str z_str3) rfl hf5 ?_
        refine o_conv rfl rfl rfl Tryd.underlying5 Tryd.underlying3 rfl ?_
        refine o_ibin (v := .int .i64 (IntKind.i64.wrap (s3.2 + (IntKind.i64.wrap q4)))) rfl rfl rfl rfl rfl rfl ?_
        refine o_assign rfl rfl rfl rfl ?_
        refine st_end ?_
        obtain rfl := Eq.symm h
        exact st_ret (gs' := []) Tryd.func104 rfl (List.Sublist.refl _) ((hl1.trans hl2).trans hl3) ⟨rfl, rfl⟩
      refine st_seq ?_
      refine st_region ?_
      refine o_move rfl rfl rfl rfl ?_
      refine o_ibin (v := .bool (decide (256 ≤ s2.1))) rfl rfl rfl rfl rfl rfl ?_
      refine st_end ?_
      refine st_cond rfl (fun hc => ?_) (fun hc => ?_)
      · replace h := (if_pos hc).mp h
        refine st_seq ?_
        refine st_region ?_
        refine o_move rfl rfl rfl rfl ?_
        refine o_shr rfl rfl rfl rfl rfl (by decide) ?_
        refine o_assign rfl rfl rfl rfl ?_
        refine st_end ?_
        refine st_region ?_
        refine o_move rfl rfl rfl rfl ?_
        refine o_ibin (v := .int .i64 (IntKind.i64.wrap (s2.2 + 8))) rfl rfl rfl rfl rfl rfl ?_
        refine o_assign rfl rfl rfl rfl ?_
        refine st_end ?_
        refine st_env (ρ' := [(0, .int .u64 (ishr .u64 s2.1 8)), (2, .int .i64 (IntKind.i64.wrap (s2.2 + 8)))]) ⟨rfl, rfl, trivial⟩ ?_
        exact hk3 _ _ _ ⟨((ishr .u64 s2.1 8), (IntKind.i64.wrap (s2.2 + 8))), h, (Sto.Le.refl _), rfl, rfl⟩
      · replace h := (if_neg (ne_t hc)).mp h
        refine st_skip ?_
        refine st_env (ρ' := [(0, .int .u64 s2.1), (2, .int .i64 s2.2)]) ⟨rfl, rfl, trivial⟩ ?_
        exact hk3 _ _ _ ⟨(s2.1, s2.2), h, (Sto.Le.refl _), rfl, rfl⟩
    refine st_seq ?_
    refine st_region ?_
    refine o_move rfl rfl rfl rfl ?_
    refine o_ibin (v := .bool (decide (65536 ≤ s1.1))) rfl rfl rfl rfl rfl rfl ?_
    refine st_end ?_
    refine st_cond rfl (fun hc => ?_) (fun hc => ?_)
    · replace h := (if_pos hc).mp h
      refine st_seq ?_
      refine st_region ?_
      refine o_move rfl rfl rfl rfl ?_
      refine o_shr rfl rfl rfl rfl rfl (by decide) ?_
      refine o_assign rfl rfl rfl rfl ?_
      refine st_end ?_
      refine st_region ?_
      refine o_move rfl rfl rfl rfl ?_
      refine o_ibin (v := .int .i64 (IntKind.i64.wrap (s1.2 + 16))) rfl rfl rfl rfl rfl rfl ?_
      refine o_assign rfl rfl rfl rfl ?_
      refine st_end ?_
      refine st_env (ρ' := [(0, .int .u64 (ishr .u64 s1.1 16)), (2, .int .i64 (IntKind.i64.wrap (s1.2 + 16)))]) ⟨rfl, rfl, trivial⟩ ?_
      exact hk2 _ _ _ ⟨((ishr .u64 s1.1 16), (IntKind.i64.wrap (s1.2 + 16))), h, (Sto.Le.refl _), rfl, rfl⟩
    · replace h := (if_neg (ne_t hc)).mp h
      refine st_skip ?_
      refine st_env (ρ' := [(0, .int .u64 s1.1), (2, .int .i64 s1.2)]) ⟨rfl, rfl, trivial⟩ ?_
      exact hk2 _ _ _ ⟨(s1.1, s1.2), h, (Sto.Le.refl _), rfl, rfl⟩
  refine st_seq ?_
  refine st_region ?_
  refine o_move rfl rfl rfl rfl ?_
  refine o_ibin (v := .bool (decide (4294967296 ≤ a0))) rfl rfl rfl rfl rfl rfl ?_
  refine st_end ?_
  refine st_cond rfl (fun hc => ?_) (fun hc => ?_)
  · replace h := (if_pos hc).mp h
    refine st_seq ?_
    refine st_region ?_
    refine o_move rfl rfl rfl rfl ?_
    refine o_shr rfl rfl rfl rfl rfl (by decide) ?_
    refine o_assign rfl rfl rfl rfl ?_
    refine st_end ?_
    refine st_region ?_
    refine o_assign rfl rfl rfl rfl ?_
    refine st_end ?_
    refine st_env (ρ' := [(0, .int .u64 (ishr .u64 a0 32)), (2, .int .i64 32)]) ⟨rfl, rfl, trivial⟩ ?_
    exact hk1 _ _ _ ⟨((ishr .u64 a0 32), 32), h, (Sto.Le.refl _), rfl, rfl⟩
  · replace h := (if_neg (ne_t hc)).mp h
    refine st_skip ?_
    refine st_env (ρ' := [(0, .int .u64 a0), (2, .int .i64 0)]) ⟨rfl, rfl, trivial⟩ ?_
    exact hk1 _ _ _ ⟨(a0, 0), h, (Sto.Le.refl _), rfl, rfl⟩
theorem internal_strconv_log10Pow2_ok {a0 : Int} {r : Int} (h : internal_strconv_log10Pow2 a0 r) (σ : Sto)  :
    Does Tryd.prog 103 [.int .i64 a0] σ [] (fun v τ gs => gs = [] ∧ .int .i64 r = v) := by
  refine call_of Tryd.func103 Tryd.ntmps103 rfl rfl (fun cs fs => ?_)
  refine st_seq ?_
  refine st_region ?_
  refine o_assign rfl rfl rfl rfl ?_
  refine st_end ?_
  refine st_seq ?_
  refine st_region ?_
  refine o_move rfl rfl rfl rfl ?_
  refine o_ibin (v := .int .i64 (IntKind.i64.wrap (a0 * 78913))) rfl rfl rfl rfl rfl rfl ?_
  refine o_shr rfl rfl rfl rfl rfl (by decide) ?_
  refine o_assign rfl rfl rfl rfl ?_
  refine st_end ?_
  obtain rfl := Eq.symm h
  exact st_ret (gs' := []) Tryd.func103 rfl (List.Sublist.refl _) (Sto.Le.refl _) ⟨rfl, rfl⟩
theorem internal_strconv_numDigits_ok {a0 : Int} {r : Int} (h : internal_strconv_numDigits a0 r) (σ : Sto)  :
    Does Tryd.prog 95 [.int .u64 a0] σ [] (fun v τ gs => gs = [] ∧ .int .i64 r = v) := by
  refine call_of Tryd.func95 Tryd.ntmps95 rfl rfl (fun cs fs => ?_)
  refine st_seq ?_
  refine st_region ?_
  refine o_assign rfl rfl rfl rfl ?_
  refine st_end ?_
  refine st_seq ?_
  refine st_region ?_
  refine o_move rfl rfl rfl rfl ?_
  obtain ⟨r1, hr2, h⟩ := h
  refine st_call (foot := []) rfl rfl rfl rfl rfl rfl (callV_fn z_en104 (math_bits_Len64_ok hr2 σ)) ?_
  rintro vτ3 τ3 gsτ3 hl4 ⟨rfl, rfl⟩
  obtain ⟨r5, hr6, h⟩ := h
  refine st_call (foot := []) rfl rfl rfl rfl rfl rfl (callV_fn z_en103 (internal_strconv_log10Pow2_ok hr6 τ3)) ?_
  rintro vτ7 τ7 gsτ7 hl8 ⟨rfl, rfl⟩
  refine o_assign rfl rfl rfl rfl ?_
  refine st_end ?_
  refine st_seq ?_
  refine st_region ?_
  refine o_move rfl rfl rfl rfl ?_
  refine o_move rfl rfl rfl rfl ?_
  refine o_move rfl rfl rfl rfl ?_
  exact h.elim
theorem internal_strconv_isPowerOfTwo_ok {a0 : Int} {r : Bool} (h : internal_strconv_isPowerOfTwo a0 r) (σ : Sto)  :
    Does Tryd.prog 106 [.int .i64 a0] σ [] (fun v τ gs => gs = [] ∧ .bool r = v) := by
  refine call_of Tryd.func106 Tryd.ntmps106 rfl rfl (fun cs fs => ?_)
  refine st_seq ?_
  refine st_region ?_
  refine o_assign rfl rfl rfl rfl ?_
  refine st_end ?_
  refine st_seq ?_
  refine st_region ?_
  refine o_move rfl rfl rfl rfl ?_
  refine o_move rfl rfl rfl rfl ?_
  refine o_ibin (v := .int .i64 (IntKind.i64.wrap (a0 - 1))) rfl rfl rfl rfl rfl rfl ?_
  refine o_ibin (v := .int .i64 (iand .i64 a0 (IntKind.i64.wrap (a0 - 1)))) rfl rfl rfl rfl rfl rfl ?_
  refine o_ibin (v := .bool (decide ((iand .i64 a0 (IntKind.i64.wrap (a0 - 1))) = 0))) rfl rfl rfl rfl rfl rfl ?_
  refine o_assign rfl rfl rfl rfl ?_
  refine st_end ?_
  obtain rfl := Eq.symm h
  exact st_ret (gs' := []) Tryd.func106 rfl (List.Sublist.refl _) (Sto.Le.refl _) ⟨rfl, rfl⟩
theorem math_bits_TrailingZeros64_ok {a0 : Int} {r : Int} (h : math_bits_TrailingZeros64 a0 r) (σ : Sto)  :
    Does Tryd.prog 109 [.int .u64 a0] σ [] (fun v τ gs => gs = [] ∧ .int .i64 r = v) := by
  refine call_of Tryd.func109 Tryd.ntmps109 rfl rfl (fun cs fs => ?_)
  refine st_seq ?_
  refine st_region ?_
  refine o_assign rfl rfl rfl rfl ?_
  refine st_end ?_
  refine st_seq ?_
  refine st_seq ?_
  refine st_region ?_
  refine o_move rfl rfl rfl rfl ?_
  refine o_ibin (v := .bool (decide (a0 = 0))) rfl rfl rfl rfl rfl rfl ?_
  refine st_end ?_
  refine st_cond rfl (fun hc => ?_) (fun hc => ?_)
  · replace h := (if_pos hc).mp h
    refine st_seq ?_
    refine st_region ?_
    refine o_assign rfl rfl rfl rfl ?_
    refine st_end ?_
    obtain rfl := Eq.symm h
    exact st_ret (gs' := []) Tryd.func109 rfl (List.Sublist.refl _) (Sto.Le.refl _) ⟨rfl, rfl⟩
  · replace h := (if_neg (ne_t hc)).mp h
    refine st_skip ?_
    refine st_seq ?_
    refine st_region ?_
    refine o_move rfl rfl rfl rfl ?_
    refine o_move rfl rfl rfl rfl ?_
    refine o_neg rfl rfl rfl rfl ?_
    refine o_ibin (v := .int .u64 (iand .u64 a0 (IntKind.u64.wrap (0 - a0)))) rfl rfl rfl rfl rfl rfl ?_
    refine o_ibin (v := .int .u64 (IntKind.u64.wrap ((iand .u64 a0 (IntKind.u64.wrap (0 - a0))) * 285870213051353865))) rfl rfl rfl rfl rfl rfl ?_
    refine o_shr rfl rfl rfl rfl rfl (by decide) ?_
    exact h.elim
theorem math_bits_TrailingZeros_ok {a0 : Int} {r : Int} (h : math_bits_TrailingZeros a0 r) (σ : Sto)  :
    Does Tryd.prog 107 [.int .u64 a0] σ [] (fun v τ gs => gs = [] ∧ .int .i64 r = v) := by
  refine call_of Tryd.func107 Tryd.ntmps107 rfl rfl (fun cs fs => ?_)
  refine st_seq ?_
  refine st_region ?_
  refine o_assign rfl rfl rfl rfl ?_
  refine st_end ?_
  refine st_seq ?_
  refine st_condF rfl ?_
  refine st_skip ?_
  refine st_seq ?_
  refine st_region ?_
  refine o_move rfl rfl rfl rfl ?_
  obtain ⟨r1, hr2, h⟩ := h
  refine st_call (foot := []) rfl rfl rfl rfl rfl rfl (callV_fn z_en109 (math_bits_TrailingZeros64_ok hr2 σ)) ?_
  rintro vτ3 τ3 gsτ3 hl4 ⟨rfl, rfl⟩
  refine o_assign rfl rfl rfl rfl ?_
  refine st_end ?_
  obtain rfl := Eq.symm h
  exact st_ret (gs' := []) Tryd.func107 rfl (List.Sublist.refl _) hl4 ⟨rfl, rfl⟩
theorem internal_strconv_formatBits_ok {a0 : List Int} {a1 : Int} {a2 : Int} {a3 : Bool} {a4 : Bool} {v1 : Value} {r : List Int × ByteArray} (h : internal_strconv_formatBits a0 a1 a2 a3 a4 r) (σ : Sto) (hs2 : Sl (kI .u8) σ v1 a0) :
    Does Tryd.prog 97 [v1, .int .u64 a1, .int .i64 a2, .bool a3, .bool a4] σ [] (fun v τ gs => ∃ (v48 : Value), gs = [] ∧ .tuple [v48, .string r.2].toArray = v ∧ Sl (kI .u8) τ v48 r.1 ∧ Full v48) := by
  refine call_of Tryd.func97 Tryd.ntmps97 rfl rfl (fun cs fs => ?_)
  refine st_seq ?_
  refine st_region ?_
  refine o_assign rfl rfl rfl rfl ?_
  refine o_assign rfl rfl rfl (ev_str z_str0) ?_
  refine st_end ?_
  refine st_seq ?_
  refine st_seq ?_
  refine st_cut (fun ρ τ3 gs => ∃ (s3 : Bool), internal_strconv_formatBits_j1 a1 a2 a3 a4 s3 r ∧ σ.Le τ3 ∧ ρ = [(0, v1), (1, .int .u64 a1), (2, .int .i64 a2), (3, .bool a3), (4, .bool a4), (10, .slice none 0 0), (11, .string (bstr [])), (28, .bool s3)] ∧ gs = []) ?_ (fun hk3 => ?_)
  · rintro ρ3 τ3 gs3 ⟨s3, h, hl3, rfl, rfl⟩
    refine st_cond rfl (fun hc => ?_) (fun hc => ?_)
    · replace h := (if_pos hc).mp h
      refine st_region ?_
      exact h.elim
    · replace h := (if_neg (ne_t hc)).mp h
      refine st_skip ?_
      refine st_seq ?_
      refine st_region ?_
      refine o_alloc rfl rfl rfl z_zero159 (fun b4 => ?_)
      refine st_end ?_
      refine st_seq ?_
      refine st_region ?_
      refine o_assign rfl rfl rfl rfl ?_
      refine st_end ?_
      refine st_seq ?_
      refine st_cut (fun ρ τ5 gs => ∃ (s5 : Int), internal_strconv_formatBits_j2 a2 a3 a4 s5 r ∧ τ3.Le τ5 ∧ ρ = [(0, v1), (1, .int .u64 s5), (2, .int .i64 a2), (3, .bool a3), (4, .bool a4), (10, .slice none 0 0), (11, .string (bstr [])), (12, .pointer (some ⟨b4, 0, none⟩)), (13, .int .i64 65)] ∧ gs = [[(b4, .cells (cellsN (Value.int .u8) 0 65 (List.replicate 65 0)).toArray 159 (0, 0))]]) ?_ (fun hk5 => ?_)
      · rintro ρ5 τ5 gs5 ⟨s5, h, hl5, rfl, rfl⟩
        refine st_seq ?_
        refine st_cut (fun ρ τ6 gs => ∃ (s6 : Int × List Int), internal_strconv_formatBits_j3 a3 a4 s6 r ∧ τ5.Le τ6 ∧ ρ = [(0, v1), (3, .bool a3), (4, .bool a4), (10, .slice none 0 0), (11, .string (bstr [])), (12, .pointer (some ⟨b4, 0, none⟩)), (13, .int .i64 s6.1)] ∧ gs = [[(b4, .cells (cellsN (Value.int .u8) 0 65 s6.2).toArray 159 (0, 0))]]) ?_ (fun hk6 => ?_)
        · rintro ρ6 τ6 gs6 ⟨s6, h, hl6, rfl, rfl⟩
          refine st_seq ?_
          refine st_cut (fun ρ τ7 gs => ∃ (s7 : Int × List Int), internal_strconv_formatBits_j4 a4 s7 r ∧ τ6.Le τ7 ∧ ρ = [(0, v1), (4, .bool a4), (10, .slice none 0 0), (11, .string (bstr [])), (12, .pointer (some ⟨b4, 0, none⟩)), (13, .int .i64 s7.1)] ∧ gs = [[(b4, .cells (cellsN (Value.int .u8) 0 65 s7.2).toArray 159 (0, 0))]]) ?_ (fun hk7 => ?_)
          · rintro ρ7 τ7 gs7 ⟨s7, h, hl7, rfl, rfl⟩
            refine st_seq ?_
            refine st_seq ?_
            refine st_region ?_
            refine o_move rfl rfl rfl rfl ?_
            refine st_end ?_
            refine st_cond rfl (fun hc => ?_) (fun hc => ?_)
            · replace h := (if_pos hc).mp h
              refine st_seq ?_
              refine st_region ?_
              refine o_move rfl rfl rfl rfl ?_
              refine o_move rfl rfl rfl rfl ?_
              exact h.elim
            · replace h := (if_neg (ne_t hc)).mp h
              refine st_skip ?_
              refine st_seq ?_
              refine st_region ?_
              refine o_move rfl rfl rfl rfl ?_
              exact h.elim
          refine st_seq ?_
          refine st_region ?_
          refine o_move rfl rfl rfl rfl ?_
          refine st_end ?_
          refine st_cond rfl (fun hc => ?_) (fun hc => ?_)
          · replace h := (if_pos hc).mp h
            refine st_seq ?_
            refine st_region ?_
            refine o_move rfl rfl rfl rfl ?_
            refine o_ibin (v := .int .i64 (IntKind.i64.wrap (s6.1 - 1))) rfl rfl rfl rfl rfl rfl ?_
            refine o_assign rfl rfl rfl rfl ?_
            refine st_end ?_
            refine st_region ?_
            refine o_move rfl rfl rfl rfl ?_
            obtain ⟨hf14, h⟩ := h
            obtain ⟨hf15, h⟩ := h
            refine o_indexA rfl rfl rfl z_arr159 rfl rfl hf14 hf15 ?_
            refine o_storeB (j := 0) (q := (IntKind.i64.wrap (s6.1 - 1)).toNat) (f := (Value.int .u8)) (zz := 0) (a := 45) (l := 65) (xs := s6.2) rfl rfl rfl z_size5 rfl rfl rfl rfl rfl (by omega) (by omega) ?_
            refine st_gs [[(b4, .cells (cellsN (Value.int .u8) 0 65 (putN 65 0 s6.2 ((IntKind.i64.wrap (s6.1 - 1)).toNat) 45)).toArray 159 (0, 0))]] rfl ?_
            refine st_end ?_
            refine st_env (ρ' := [(0, v1), (4, .bool a4), (10, .slice none 0 0), (11, .string (bstr [])), (12, .pointer (some ⟨b4, 0, none⟩)), (13, .int .i64 (IntKind.i64.wrap (s6.1 - 1)))]) ⟨rfl, rfl, rfl, rfl, rfl, rfl, trivial⟩ ?_
            exact hk7 _ _ _ ⟨((IntKind.i64.wrap (s6.1 - 1)), (putN 65 0 s6.2 ((IntKind.i64.wrap (s6.1 - 1)).toNat) 45)), h, (Sto.Le.refl _), rfl, rfl⟩
          · replace h := (if_neg (ne_t hc)).mp h
            refine st_skip ?_
            refine st_env (ρ' := [(0, v1), (4, .bool a4), (10, .slice none 0 0), (11, .string (bstr [])), (12, .pointer (some ⟨b4, 0, none⟩)), (13, .int .i64 s6.1)]) ⟨rfl, rfl, rfl, rfl, rfl, rfl, trivial⟩ ?_
            exact hk7 _ _ _ ⟨(s6.1, s6.2), h, (Sto.Le.refl _), rfl, rfl⟩
        refine st_seq ?_
        refine st_region ?_
        refine o_move rfl rfl rfl rfl ?_
        obtain ⟨r16, hr17, h⟩ := h
        refine st_call (foot := []) rfl rfl rfl rfl rfl rfl (callV_fn z_en106 (internal_strconv_isPowerOfTwo_ok hr17 τ5)) ?_
        rintro vτ18 τ18 gsτ18 hl19 ⟨rfl, rfl⟩
        refine st_end ?_
        refine st_cond rfl (fun hc => ?_) (fun hc => ?_)
        · replace h := (if_pos hc).mp h
          refine st_seq ?_
          refine st_region ?_
          refine o_move rfl rfl rfl rfl ?_
          refine o_conv rfl rfl rfl Tryd.underlying3 Tryd.underlying77 rfl ?_
          obtain ⟨r20, hr21, h⟩ := h
          refine st_call (foot := []) rfl rfl rfl rfl rfl rfl (callV_fn z_en107 (math_bits_TrailingZeros_ok hr21 τ18)) ?_
          rintro vτ22 τ22 gsτ22 hl23 ⟨rfl, rfl⟩
          refine o_conv rfl rfl rfl Tryd.underlying3 Tryd.underlying77 rfl ?_
          refine o_assign rfl rfl rfl rfl ?_
          refine st_end ?_
          refine st_seq ?_
          refine st_region ?_
          refine o_move rfl rfl rfl rfl ?_
          refine o_conv rfl rfl rfl Tryd.underlying3 Tryd.underlying48 rfl ?_
          refine o_assign rfl rfl rfl rfl ?_
          refine st_end ?_
          refine st_seq ?_
          refine st_region ?_
          refine o_move rfl rfl rfl rfl ?_
          refine o_conv rfl rfl rfl Tryd.underlying3 Tryd.underlying77 rfl ?_
          refine o_ibin (v := .int .u64 (IntKind.u64.wrap ((IntKind.u64.wrap a2) - 1))) rfl rfl rfl rfl rfl rfl ?_
          refine o_assign rfl rfl rfl rfl ?_
          refine st_end ?_
          refine st_seq ?_
          refine st_cut (fun ρ τ24 gs => ∃ (s24 : Int × Int × List Int), internal_strconv_formatBits_j5 a3 a4 s24 r ∧ τ22.Le τ24 ∧ ρ = [(0, v1), (1, .int .u64 s24.1), (3, .bool a3), (4, .bool a4), (10, .slice none 0 0), (11, .string (bstr [])), (12, .pointer (some ⟨b4, 0, none⟩)), (13, .int .i64 s24.2.1)] ∧ gs = [[(b4, .cells (cellsN (Value.int .u8) 0 65 s24.2.2).toArray 159 (0, 0))]]) ?_ (fun hk24 => ?_)
          · rintro ρ24 τ24 gs24 ⟨s24, h, hl24, rfl, rfl⟩
            refine st_seq ?_
            refine st_region ?_
            refine o_move rfl rfl rfl rfl ?_
            refine o_ibin (v := .int .i64 (IntKind.i64.wrap (s24.2.1 - 1))) rfl rfl rfl rfl rfl rfl ?_
            refine o_assign rfl rfl rfl rfl ?_
            refine st_end ?_
            refine st_region ?_
            refine o_move rfl rfl rfl rfl ?_
            refine o_move rfl rfl rfl rfl ?_
            obtain ⟨q25, hf26, h⟩ := h
            refine o_indexS rfl rfl rfl Tryd.underlying9 (ev_str z_str1) rfl hf26 ?_
            obtain ⟨hf27, h⟩ := h
            obtain ⟨hf28, h⟩ := h
            refine o_indexA rfl rfl rfl z_arr159 rfl rfl hf27 hf28 ?_
            refine o_storeB (j := 0) (q := (IntKind.i64.wrap (s24.2.1 - 1)).toNat) (f := (Value.int .u8)) (zz := 0) (a := q25) (l := 65) (xs := s24.2.2) rfl rfl rfl z_size5 rfl rfl rfl rfl rfl (by omega) (by omega) ?_
            refine st_gs [[(b4, .cells (cellsN (Value.int .u8) 0 65 (putN 65 0 s24.2.2 ((IntKind.i64.wrap (s24.2.1 - 1)).toNat) q25)).toArray 159 (0, 0))]] rfl ?_
            refine st_end ?_
            refine st_env (ρ' := [(0, v1), (3, .bool a3), (4, .bool a4), (10, .slice none 0 0), (11, .string (bstr [])), (12, .pointer (some ⟨b4, 0, none⟩)), (13, .int .i64 (IntKind.i64.wrap (s24.2.1 - 1)))]) ⟨rfl, rfl, rfl, rfl, rfl, rfl, rfl, trivial⟩ ?_
            exact hk6 _ _ _ ⟨((IntKind.i64.wrap (s24.2.1 - 1)), (putN 65 0 s24.2.2 ((IntKind.i64.wrap (s24.2.1 - 1)).toNat) q25)), h, ((hl19.trans hl23).trans hl24), rfl, rfl⟩
          obtain ⟨e29, hL29, hA29⟩ := h
          refine st_env (ρ' := [(0, v1), (1, .int .u64 s5), (3, .bool a3), (4, .bool a4), (10, .slice none 0 0), (11, .string (bstr [])), (12, .pointer (some ⟨b4, 0, none⟩)), (13, .int .i64 65), (14, .int .u64 (IntKind.u64.wrap r20)), (15, .int .u64 (IntKind.u64.wrap a2)), (16, .int .u64 (IntKind.u64.wrap ((IntKind.u64.wrap a2) - 1)))]) ⟨rfl, rfl, rfl, rfl, rfl, rfl, rfl, rfl, rfl, rfl, rfl, trivial⟩ ?_
          refine st_loop hL29 (fun (s29 : Int × Int × List Int) ρ τ29 gs => τ22.Le τ29 ∧ ρ = [(0, v1), (1, .int .u64 s29.1), (3, .bool a3), (4, .bool a4), (10, .slice none 0 0), (11, .string (bstr [])), (12, .pointer (some ⟨b4, 0, none⟩)), (13, .int .i64 s29.2.1), (14, .int .u64 (IntKind.u64.wrap r20)), (15, .int .u64 (IntKind.u64.wrap a2)), (16, .int .u64 (IntKind.u64.wrap ((IntKind.u64.wrap a2) - 1)))] ∧ gs = [[(b4, .cells (cellsN (Value.int .u8) 0 65 s29.2.2).toArray 159 (0, 0))]]) ⟨Sto.Le.refl _, rfl, rfl⟩ ?_
          rintro s29 o29 h he29 ρ29 τ29 gs29 ⟨hl29, rfl, rfl⟩ hn29
          refine st_seq ?_
          refine st_seq ?_
          refine st_region ?_
          refine o_move rfl rfl rfl rfl ?_
          refine o_move rfl rfl rfl rfl ?_
          refine o_ibin (v := .bool (decide ((IntKind.u64.wrap a2) ≤ s29.1))) rfl rfl rfl rfl rfl rfl ?_
          refine st_end ?_
          refine st_cond rfl (fun hc => ?_) (fun hc => ?_)
          · replace h := (if_pos hc).mp h
            refine st_skip ?_
            refine st_block ?_
            refine st_seq ?_
            refine st_region ?_
            refine o_move rfl rfl rfl rfl ?_
            refine o_ibin (v := .int .i64 (IntKind.i64.wrap (s29.2.1 - 1))) rfl rfl rfl rfl rfl rfl ?_
            refine o_assign rfl rfl rfl rfl ?_
            refine st_end ?_
            refine st_seq ?_
            refine st_region ?_
            refine o_move rfl rfl rfl rfl ?_
            refine o_move rfl rfl rfl rfl ?_
            refine o_move rfl rfl rfl rfl ?_
            refine o_ibin (v := .int .u64 (iand .u64 s29.1 (IntKind.u64.wrap ((IntKind.u64.wrap a2) - 1)))) rfl rfl rfl rfl rfl rfl ?_
            obtain ⟨q30, hf31, h⟩ := h
            refine o_indexS rfl rfl rfl Tryd.underlying9 (ev_str z_str1) rfl hf31 ?_
            obtain ⟨hf32, h⟩ := h
            obtain ⟨hf33, h⟩ := h
            refine o_indexA rfl rfl rfl z_arr159 rfl rfl hf32 hf33 ?_
            refine o_storeB (j := 0) (q := (IntKind.i64.wrap (s29.2.1 - 1)).toNat) (f := (Value.int .u8)) (zz := 0) (a := q30) (l := 65) (xs := s29.2.2) rfl rfl rfl z_size5 rfl rfl rfl rfl rfl (by omega) (by omega) ?_
            refine st_gs [[(b4, .cells (cellsN (Value.int .u8) 0 65 (putN 65 0 s29.2.2 ((IntKind.i64.wrap (s29.2.1 - 1)).toNat) q30)).toArray 159 (0, 0))]] rfl ?_
            refine st_end ?_
            refine st_region ?_
            refine o_move rfl rfl rfl rfl ?_
            refine o_move rfl rfl rfl rfl ?_
            obtain ⟨hf34, h⟩ := h
            refine o_shr rfl rfl rfl rfl rfl hf34 ?_
            refine o_assign rfl rfl rfl rfl ?_
            refine st_end ?_
            refine st_inBlock ?_
            refine st_env (ρ' := [(0, v1), (1, .int .u64 (ishr .u64 s29.1 (IntKind.u64.wrap r20))), (3, .bool a3), (4, .bool a4), (10, .slice none 0 0), (11, .string (bstr [])), (12, .pointer (some ⟨b4, 0, none⟩)), (13, .int .i64 (IntKind.i64.wrap (s29.2.1 - 1))), (14, .int .u64 (IntKind.u64.wrap r20)), (15, .int .u64 (IntKind.u64.wrap a2)), (16, .int .u64 (IntKind.u64.wrap ((IntKind.u64.wrap a2) - 1)))]) ⟨rfl, rfl, rfl, rfl, rfl, rfl, rfl, rfl, rfl, rfl, rfl, trivial⟩ ?_
            exact hn29 _ _ _ _ h ⟨hl29, rfl, rfl⟩
          · replace h := (if_neg (ne_t hc)).mp h
            refine st_exit rfl ?_
            obtain rfl := he29 _ h
            replace h := hA29
            refine st_env (ρ' := [(0, v1), (1, .int .u64 s29.1), (3, .bool a3), (4, .bool a4), (10, .slice none 0 0), (11, .string (bstr [])), (12, .pointer (some ⟨b4, 0, none⟩)), (13, .int .i64 s29.2.1)]) ⟨rfl, rfl, rfl, rfl, rfl, rfl, rfl, rfl, trivial⟩ ?_
            exact hk24 _ _ _ ⟨(s29.1, s29.2.1, s29.2.2), h, hl29, rfl, rfl⟩
        · replace h := (if_neg (ne_t hc)).mp h
          refine st_seq ?_
          refine st_region ?_
          refine o_move rfl rfl rfl rfl ?_
          refine o_conv rfl rfl rfl Tryd.underlying3 Tryd.underlying48 rfl ?_
          refine o_assign rfl rfl rfl rfl ?_
          refine st_end ?_
          refine st_seq ?_
          refine st_cut (fun ρ τ36 gs => ∃ (s36 : Int × Int × List Int), internal_strconv_formatBits_j7 a3 a4 s36 r ∧ τ18.Le τ36 ∧ ρ = [(0, v1), (1, .int .u64 s36.1), (3, .bool a3), (4, .bool a4), (10, .slice none 0 0), (11, .string (bstr [])), (12, .pointer (some ⟨b4, 0, none⟩)), (13, .int .i64 s36.2.1)] ∧ gs = [[(b4, .cells (cellsN (Value.int .u8) 0 65 s36.2.2).toArray 159 (0, 0))]]) ?_ (fun hk36 => ?_)
          · rintro ρ36 τ36 gs36 ⟨s36, h, hl36, rfl, rfl⟩
            refine st_seq ?_
            refine st_region ?_
            refine o_move rfl rfl rfl rfl ?_
            refine o_ibin (v := .int .i64 (IntKind.i64.wrap (s36.2.1 - 1))) rfl rfl rfl rfl rfl rfl ?_
            refine o_assign rfl rfl rfl rfl ?_
            refine st_end ?_
            refine st_region ?_
            refine o_move rfl rfl rfl rfl ?_
            refine o_move rfl rfl rfl rfl ?_
            obtain ⟨q37, hf38, h⟩ := h
            refine o_indexS rfl rfl rfl Tryd.underlying9 (ev_str z_str1) rfl hf38 ?_
            obtain ⟨hf39, h⟩ := h
            obtain ⟨hf40, h⟩ := h
            refine o_indexA rfl rfl rfl z_arr159 rfl rfl hf39 hf40 ?_
            refine o_storeB (j := 0) (q := (IntKind.i64.wrap (s36.2.1 - 1)).toNat) (f := (Value.int .u8)) (zz := 0) (a := q37) (l := 65) (xs := s36.2.2) rfl rfl rfl z_size5 rfl rfl rfl rfl rfl (by omega) (by omega) ?_
            refine st_gs [[(b4, .cells (cellsN (Value.int .u8) 0 65 (putN 65 0 s36.2.2 ((IntKind.i64.wrap (s36.2.1 - 1)).toNat) q37)).toArray 159 (0, 0))]] rfl ?_
            refine st_end ?_
            refine st_env (ρ' := [(0, v1), (3, .bool a3), (4, .bool a4), (10, .slice none 0 0), (11, .string (bstr [])), (12, .pointer (some ⟨b4, 0, none⟩)), (13, .int .i64 (IntKind.i64.wrap (s36.2.1 - 1)))]) ⟨rfl, rfl, rfl, rfl, rfl, rfl, rfl, trivial⟩ ?_
            exact hk6 _ _ _ ⟨((IntKind.i64.wrap (s36.2.1 - 1)), (putN 65 0 s36.2.2 ((IntKind.i64.wrap (s36.2.1 - 1)).toNat) q37)), h, (hl19.trans hl36), rfl, rfl⟩
          obtain ⟨e41, hL41, hA41⟩ := h
          refine st_env (ρ' := [(0, v1), (1, .int .u64 s5), (3, .bool a3), (4, .bool a4), (10, .slice none 0 0), (11, .string (bstr [])), (12, .pointer (some ⟨b4, 0, none⟩)), (13, .int .i64 65), (17, .int .u64 (IntKind.u64.wrap a2))]) ⟨rfl, rfl, rfl, rfl, rfl, rfl, rfl, rfl, rfl, trivial⟩ ?_
          refine st_loop hL41 (fun (s41 : Int × Int × List Int) ρ τ41 gs => τ18.Le τ41 ∧ ρ = [(0, v1), (1, .int .u64 s41.1), (3, .bool a3), (4, .bool a4), (10, .slice none 0 0), (11, .string (bstr [])), (12, .pointer (some ⟨b4, 0, none⟩)), (13, .int .i64 s41.2.1), (17, .int .u64 (IntKind.u64.wrap a2))] ∧ gs = [[(b4, .cells (cellsN (Value.int .u8) 0 65 s41.2.2).toArray 159 (0, 0))]]) ⟨Sto.Le.refl _, rfl, rfl⟩ ?_
          rintro s41 o41 h he41 ρ41 τ41 gs41 ⟨hl41, rfl, rfl⟩ hn41
          refine st_seq ?_
          refine st_seq ?_
          refine st_region ?_
          refine o_move rfl rfl rfl rfl ?_
          refine o_move rfl rfl rfl rfl ?_
          refine o_ibin (v := .bool (decide ((IntKind.u64.wrap a2) ≤ s41.1))) rfl rfl rfl rfl rfl rfl ?_
          refine st_end ?_
          refine st_cond rfl (fun hc => ?_) (fun hc => ?_)
          · replace h := (if_pos hc).mp h
            refine st_skip ?_
            refine st_block ?_
            refine st_seq ?_
            refine st_region ?_
            refine o_move rfl rfl rfl rfl ?_
            refine o_ibin (v := .int .i64 (IntKind.i64.wrap (s41.2.1 - 1))) rfl rfl rfl rfl rfl rfl ?_
            refine o_assign rfl rfl rfl rfl ?_
            refine st_end ?_
            refine st_seq ?_
            refine st_region ?_
            refine o_move rfl rfl rfl rfl ?_
            refine o_move rfl rfl rfl rfl ?_
            obtain ⟨hf42, h⟩ := h
            refine o_quo rfl rfl rfl rfl rfl hf42 ?_
            refine o_assign rfl rfl rfl rfl ?_
            refine st_end ?_
            refine st_seq ?_
            refine st_region ?_
            refine o_move rfl rfl rfl rfl ?_
            refine o_move rfl rfl rfl rfl ?_
            refine o_move rfl rfl rfl rfl ?_
            refine o_move rfl rfl rfl rfl ?_
            refine o_ibin (v := .int .u64 (IntKind.u64.wrap ((IntKind.u64.wrap (s41.1.tdiv (IntKind.u64.wrap a2))) * (IntKind.u64.wrap a2)))) rfl rfl rfl rfl rfl rfl ?_
            refine o_ibin (v := .int .u64 (IntKind.u64.wrap (s41.1 - (IntKind.u64.wrap ((IntKind.u64.wrap (s41.1.tdiv (IntKind.u64.wrap a2))) * (IntKind.u64.wrap a2)))))) rfl rfl rfl rfl rfl rfl ?_
            obtain ⟨q43, hf44, h⟩ := h
            refine o_indexS rfl rfl rfl Tryd.underlying9 (ev_str z_str1) rfl hf44 ?_
            obtain ⟨hf45, h⟩ := h
            obtain ⟨hf46, h⟩ := h
            refine o_indexA rfl rfl rfl z_arr159 rfl rfl hf45 hf46 ?_
            refine o_storeB (j := 0) (q := (IntKind.i64.wrap (s41.2.1 - 1)).toNat) (f := (Value.int .u8)) (zz := 0) (a := q43) (l := 65) (xs := s41.2.2) rfl rfl rfl z_size5 rfl rfl rfl rfl rfl (by omega) (by omega) ?_
            refine st_gs [[(b4, .cells (cellsN (Value.int .u8) 0 65 (putN 65 0 s41.2.2 ((IntKind.i64.wrap (s41.2.1 - 1)).toNat) q43)).toArray 159 (0, 0))]] rfl ?_
            refine st_end ?_
            refine st_region ?_
            refine o_move rfl rfl rfl rfl ?_
            refine o_assign rfl rfl rfl rfl ?_
            refine st_end ?_
            refine st_inBlock ?_
            refine st_env (ρ' := [(0, v1), (1, .int .u64 (IntKind.u64.wrap (s41.1.tdiv (IntKind.u64.wrap a2)))), (3, .bool a3), (4, .bool a4), (10, .slice none 0 0), (11, .string (bstr [])), (12, .pointer (some ⟨b4, 0, none⟩)), (13, .int .i64 (IntKind.i64.wrap (s41.2.1 - 1))), (17, .int .u64 (IntKind.u64.wrap a2))]) ⟨rfl, rfl, rfl, rfl, rfl, rfl, rfl, rfl, rfl, trivial⟩ ?_
            exact hn41 _ _ _ _ h ⟨hl41, rfl, rfl⟩
          · replace h := (if_neg (ne_t hc)).mp h
            refine st_exit rfl ?_
            obtain rfl := he41 _ h
            replace h := hA41
            refine st_env (ρ' := [(0, v1), (1, .int .u64 s41.1), (3, .bool a3), (4, .bool a4), (10, .slice none 0 0), (11, .string (bstr [])), (12, .pointer (some ⟨b4, 0, none⟩)), (13, .int .i64 s41.2.1)]) ⟨rfl, rfl, rfl, rfl, rfl, rfl, rfl, rfl, trivial⟩ ?_
            exact hk36 _ _ _ ⟨(s41.1, s41.2.1, s41.2.2), h, hl41, rfl, rfl⟩
      refine st_seq ?_
      refine st_region ?_
      refine o_move rfl rfl rfl rfl ?_
      refine st_end ?_
      refine st_cond rfl (fun hc => ?_) (fun hc => ?_)
      · replace h := (if_pos hc).mp h
        refine st_region ?_
        refine o_move rfl rfl rfl rfl ?_
        refine o_neg rfl rfl rfl rfl ?_
        refine o_assign rfl rfl rfl rfl ?_
        refine st_end ?_
        refine st_env (ρ' := [(0, v1), (1, .int .u64 (IntKind.u64.wrap (0 - a1))), (2, .int .i64 a2), (3, .bool a3), (4, .bool a4), (10, .slice none 0 0), (11, .string (bstr [])), (12, .pointer (some ⟨b4, 0, none⟩)), (13, .int .i64 65)]) ⟨rfl, rfl, rfl, rfl, rfl, rfl, rfl, rfl, rfl, trivial⟩ ?_
        exact hk5 _ _ _ ⟨(IntKind.u64.wrap (0 - a1)), h, (Sto.Le.refl _), rfl, rfl⟩
      · replace h := (if_neg (ne_t hc)).mp h
        refine st_skip ?_
        refine st_env (ρ' := [(0, v1), (1, .int .u64 a1), (2, .int .i64 a2), (3, .bool a3), (4, .bool a4), (10, .slice none 0 0), (11, .string (bstr [])), (12, .pointer (some ⟨b4, 0, none⟩)), (13, .int .i64 65)]) ⟨rfl, rfl, rfl, rfl, rfl, rfl, rfl, rfl, rfl, trivial⟩ ?_
        exact hk5 _ _ _ ⟨a1, h, (Sto.Le.refl _), rfl, rfl⟩
  refine st_region ?_
  refine o_move rfl rfl rfl rfl ?_
  refine o_ibin (v := .bool (decide (a2 < 2))) rfl rfl rfl rfl rfl rfl ?_
  refine o_moveB rfl rfl rfl rfl (fun hc => ?_) (fun hc => ?_)
  · replace h := (if_pos hc).mp h
    refine st_pass rfl rfl rfl rfl rfl rfl ?_
    refine st_pass rfl rfl rfl rfl rfl rfl ?_
    refine o_pick rfl rfl rfl rfl rfl ?_
    refine o_move rfl rfl rfl rfl ?_
    refine st_pass rfl rfl rfl rfl rfl rfl ?_
    refine st_pass rfl rfl rfl rfl rfl rfl ?_
    refine o_pick rfl rfl rfl rfl rfl ?_
    refine st_end ?_
    refine st_env (ρ' := [(0, v1), (1, .int .u64 a1), (2, .int .i64 a2), (3, .bool a3), (4, .bool a4), (10, .slice none 0 0), (11, .string (bstr [])), (28, .bool true)]) ⟨rfl, rfl, rfl, rfl, rfl, rfl, rfl, rfl, trivial⟩ ?_
    exact hk3 _ _ _ ⟨true, h, (Sto.Le.refl _), rfl, rfl⟩
  · replace h := (if_neg (ne_t hc)).mp h
    refine o_move rfl rfl rfl rfl ?_
    refine o_ibin (v := .bool (decide (a2 = 10))) rfl rfl rfl rfl rfl rfl ?_
    refine o_pick rfl rfl rfl rfl rfl ?_
    refine o_moveB rfl rfl rfl rfl (fun hc => ?_) (fun hc => ?_)
    · replace h := (if_pos hc).mp h
      refine st_pass rfl rfl rfl rfl rfl rfl ?_
      refine st_pass rfl rfl rfl rfl rfl rfl ?_
      refine o_pick rfl rfl rfl rfl rfl ?_
      refine st_end ?_
      refine st_env (ρ' := [(0, v1), (1, .int .u64 a1), (2, .int .i64 a2), (3, .bool a3), (4, .bool a4), (10, .slice none 0 0), (11, .string (bstr [])), (28, .bool true)]) ⟨rfl, rfl, rfl, rfl, rfl, rfl, rfl, rfl, trivial⟩ ?_
      exact hk3 _ _ _ ⟨true, h, (Sto.Le.refl _), rfl, rfl⟩
    · replace h := (if_neg (ne_t hc)).mp h
      refine o_move rfl rfl rfl rfl ?_
      refine o_ibin (v := .bool (decide (36 < a2))) rfl rfl rfl rfl rfl rfl ?_
      refine o_pick rfl rfl rfl rfl rfl ?_
      refine st_end ?_
      refine st_env (ρ' := [(0, v1), (1, .int .u64 a1), (2, .int .i64 a2), (3, .bool a3), (4, .bool a4), (10, .slice none 0 0), (11, .string (bstr [])), (28, .bool (decide (36 < a2)))]) ⟨rfl, rfl, rfl, rfl, rfl, rfl, rfl, rfl, trivial⟩ ?_
      exact hk3 _ _ _ ⟨(decide (36 < a2)), h, (Sto.Le.refl _), rfl, rfl⟩
theorem internal_strconv_FormatInt_ok {a0 : Int} {a1 : Int} {r : ByteArray} (h : internal_strconv_FormatInt a0 a1 r) (σ : Sto)  :
    Does Tryd.prog 93 [.int .i64 a0, .int .i64 a1] σ [] (fun v τ gs => gs = [] ∧ .string r = v) := by
  refine call_of Tryd.func93 Tryd.ntmps93 rfl rfl (fun cs fs => ?_)
  refine st_seq ?_
  refine st_region ?_
  refine o_assign rfl rfl rfl (ev_str z_str0) ?_
  refine st_end ?_
  refine st_seq ?_
  refine st_seq ?_
  refine st_region ?_
  refine o_move rfl rfl rfl rfl ?_
  refine o_ibin (v := .bool (decide (a1 = 10))) rfl rfl rfl rfl rfl rfl ?_
  refine st_end ?_
  refine st_cond rfl (fun hc => ?_) (fun hc => ?_)
  · replace h := (if_pos hc).mp h
    refine st_seq ?_
    refine st_seq ?_
    refine st_cut (fun ρ τ1 gs => ∃ (s1 : Bool), internal_strconv_FormatInt_j1 a0 s1 r ∧ σ.Le τ1 ∧ ρ = [(0, .int .i64 a0), (1, .int .i64 a1), (4, .string (bstr [])), (17, .bool s1)] ∧ gs = []) ?_ (fun hk1 => ?_)
    · rintro ρ1 τ1 gs1 ⟨s1, h, hl1, rfl, rfl⟩
      refine st_cond rfl (fun hc => ?_) (fun hc => ?_)
      · replace h := (if_pos hc).mp h
        refine st_seq ?_
        refine st_region ?_
        refine o_move rfl rfl rfl rfl ?_
        obtain ⟨r2, hr3, h⟩ := h
        refine st_call (foot := []) rfl rfl rfl rfl rfl rfl (callV_fn z_en94 (internal_strconv_small_ok hr3 τ1)) ?_
        rintro vτ4 τ4 gsτ4 hl5 ⟨rfl, rfl⟩
        refine o_assign rfl rfl rfl rfl ?_
        refine st_end ?_
        obtain rfl := Eq.symm h
        exact st_ret (gs' := []) Tryd.func93 rfl (List.Sublist.refl _) (hl1.trans hl5) ⟨rfl, rfl⟩
      · replace h := (if_neg (ne_t hc)).mp h
        refine st_skip ?_
        refine st_seq ?_
        refine st_region ?_
        refine o_alloc rfl rfl rfl z_zero147 (fun b6 => ?_)
        refine st_end ?_
        refine st_seq ?_
        refine st_region ?_
        refine o_move rfl rfl rfl rfl ?_
        refine o_conv rfl rfl rfl Tryd.underlying2 Tryd.underlying48 rfl ?_
        refine o_assign rfl rfl rfl rfl ?_
        refine st_end ?_
        refine st_seq ?_
        refine st_cut (fun ρ τ7 gs => ∃ (s7 : Int), internal_strconv_FormatInt_j2 s7 r ∧ τ1.Le τ7 ∧ ρ = [(0, .int .i64 a0), (1, .int .i64 a1), (4, .string (bstr [])), (5, .pointer (some ⟨b6, 0, none⟩)), (6, .int .u64 s7)] ∧ gs = [[(b6, .cells (cellsN (Value.int .u8) 0 24 (List.replicate 24 0)).toArray 147 (0, 0))]]) ?_ (fun hk7 => ?_)
        · rintro ρ7 τ7 gs7 ⟨s7, h, hl7, rfl, rfl⟩
          refine st_seq ?_
          refine st_region ?_
          refine o_move rfl rfl rfl rfl ?_
          obtain ⟨r8, hr9, h⟩ := h
          refine st_call (foot := []) rfl rfl rfl rfl rfl rfl (callV_fn z_en95 (internal_strconv_numDigits_ok hr9 τ7)) ?_
          rintro vτ10 τ10 gsτ10 hl11 ⟨rfl, rfl⟩
          refine o_assign rfl rfl rfl rfl ?_
          refine st_end ?_
          refine st_seq ?_
          refine st_region ?_
          refine o_move rfl rfl rfl rfl ?_
          refine o_ibin (v := .int .i64 (IntKind.i64.wrap (1 + r8))) rfl rfl rfl rfl rfl rfl ?_
          exact h.elim
        refine st_seq ?_
        refine st_region ?_
        refine o_move rfl rfl rfl rfl ?_
        refine o_ibin (v := .bool (decide (a0 < 0))) rfl rfl rfl rfl rfl rfl ?_
        refine st_end ?_
        refine st_cond rfl (fun hc => ?_) (fun hc => ?_)
        · replace h := (if_pos hc).mp h
          refine st_region ?_
          refine o_move rfl rfl rfl rfl ?_
          refine o_neg rfl rfl rfl rfl ?_
          refine o_assign rfl rfl rfl rfl ?_
          refine st_end ?_
          refine st_env (ρ' := [(0, .int .i64 a0), (1, .int .i64 a1), (4, .string (bstr [])), (5, .pointer (some ⟨b6, 0, none⟩)), (6, .int .u64 (IntKind.u64.wrap (0 - (IntKind.u64.wrap a0))))]) ⟨rfl, rfl, rfl, rfl, rfl, trivial⟩ ?_
          exact hk7 _ _ _ ⟨(IntKind.u64.wrap (0 - (IntKind.u64.wrap a0))), h, (Sto.Le.refl _), rfl, rfl⟩
        · replace h := (if_neg (ne_t hc)).mp h
          refine st_skip ?_
          refine st_env (ρ' := [(0, .int .i64 a0), (1, .int .i64 a1), (4, .string (bstr [])), (5, .pointer (some ⟨b6, 0, none⟩)), (6, .int .u64 (IntKind.u64.wrap a0))]) ⟨rfl, rfl, rfl, rfl, rfl, trivial⟩ ?_
          exact hk7 _ _ _ ⟨(IntKind.u64.wrap a0), h, (Sto.Le.refl _), rfl, rfl⟩
    refine st_region ?_
    refine o_move rfl rfl rfl rfl ?_
    refine o_ibin (v := .bool (decide (0 ≤ a0))) rfl rfl rfl rfl rfl rfl ?_
    refine o_moveB rfl rfl rfl rfl (fun hc => ?_) (fun hc => ?_)
    · replace h := (if_pos hc).mp h
      refine o_move rfl rfl rfl rfl ?_
      refine o_ibin (v := .bool (decide (a0 < 100))) rfl rfl rfl rfl rfl rfl ?_
      refine o_pick rfl rfl rfl rfl rfl ?_
      refine st_end ?_
      refine st_env (ρ' := [(0, .int .i64 a0), (1, .int .i64 a1), (4, .string (bstr [])), (17, .bool (decide (a0 < 100)))]) ⟨rfl, rfl, rfl, rfl, trivial⟩ ?_
      exact hk1 _ _ _ ⟨(decide (a0 < 100)), h, (Sto.Le.refl _), rfl, rfl⟩
    · replace h := (if_neg (ne_t hc)).mp h
      refine st_pass rfl rfl rfl rfl rfl rfl ?_
      refine st_pass rfl rfl rfl rfl rfl rfl ?_
      refine o_pick rfl rfl rfl rfl rfl ?_
      refine st_end ?_
      refine st_env (ρ' := [(0, .int .i64 a0), (1, .int .i64 a1), (4, .string (bstr [])), (17, .bool false)]) ⟨rfl, rfl, rfl, rfl, trivial⟩ ?_
      exact hk1 _ _ _ ⟨false, h, (Sto.Le.refl _), rfl, rfl⟩
  · replace h := (if_neg (ne_t hc)).mp h
    refine st_skip ?_
    refine st_seq ?_
    refine st_region ?_
    refine o_move rfl rfl rfl rfl ?_
    refine o_conv rfl rfl rfl Tryd.underlying2 Tryd.underlying48 rfl ?_
    refine o_move rfl rfl rfl rfl ?_
    refine o_move rfl rfl rfl rfl ?_
    refine o_ibin (v := .bool (decide (a0 < 0))) rfl rfl rfl rfl rfl rfl ?_
    obtain ⟨r15, hr16, h⟩ := h
    refine st_call (foot := []) rfl rfl rfl rfl rfl rfl (callV_fn z_en97 (internal_strconv_formatBits_ok hr16 σ Sl.nil)) ?_
    rintro vτ17 τ17 gsτ17 hl18 ⟨v19, rfl, rfl, hs20, hF21⟩
    refine o_move rfl rfl rfl rfl ?_
    refine o_extract rfl rfl rfl rfl rfl ?_
    refine o_extract rfl rfl rfl rfl rfl ?_
    refine o_assign rfl rfl rfl rfl ?_
    refine o_assign rfl rfl rfl rfl ?_
    refine st_end ?_
    refine st_seq ?_
    refine st_region ?_
    refine o_move rfl rfl rfl rfl ?_
    refine o_assign rfl rfl rfl rfl ?_
    refine st_end ?_
    obtain rfl := Eq.symm h
    exact st_ret (gs' := []) Tryd.func93 rfl (List.Sublist.refl _) hl18 ⟨rfl, rfl⟩
theorem internal_strconv_Itoa_ok {a0 : Int} {r : ByteArray} (h : internal_strconv_Itoa a0 r) (σ : Sto)  :
    Does Tryd.prog 72 [.int .i64 a0] σ [] (fun v τ gs => gs = [] ∧ .string r = v) := by
  refine call_of Tryd.func72 Tryd.ntmps72 rfl rfl (fun cs fs => ?_)
  refine st_seq ?_
  refine st_region ?_
  refine o_assign rfl rfl rfl (ev_str z_str0) ?_
  refine st_end ?_
  refine st_seq ?_
  refine st_region ?_
  refine o_move rfl rfl rfl rfl ?_
  obtain ⟨r1, hr2, h⟩ := h
  refine st_call (foot := []) rfl rfl rfl rfl rfl rfl (callV_fn z_en93 (internal_strconv_FormatInt_ok hr2 σ)) ?_
  rintro vτ3 τ3 gsτ3 hl4 ⟨rfl, rfl⟩
  refine o_assign rfl rfl rfl rfl ?_
  refine st_end ?_
  obtain rfl := Eq.symm h
  exact st_ret (gs' := []) Tryd.func72 rfl (List.Sublist.refl _) hl4 ⟨rfl, rfl⟩
theorem strconv_Itoa_ok {a0 : Int} {r : ByteArray} (h : strconv_Itoa a0 r) (σ : Sto)  :
    Does Tryd.prog 43 [.int .i64 a0] σ [] (fun v τ gs => gs = [] ∧ .string r = v) := by
  refine call_of Tryd.func43 Tryd.ntmps43 rfl rfl (fun cs fs => ?_)
  refine st_seq ?_
  refine st_region ?_
  refine o_assign rfl rfl rfl (ev_str z_str0) ?_
  refine st_end ?_
  refine st_seq ?_
  refine st_region ?_
  refine o_move rfl rfl rfl rfl ?_
  obtain ⟨r1, hr2, h⟩ := h
  refine st_call (foot := []) rfl rfl rfl rfl rfl rfl (callV_fn z_en72 (internal_strconv_Itoa_ok hr2 σ)) ?_
  rintro vτ3 τ3 gsτ3 hl4 ⟨rfl, rfl⟩
  refine o_assign rfl rfl rfl rfl ?_
  refine st_end ?_
  obtain rfl := Eq.symm h
  exact st_ret (gs' := []) Tryd.func43 rfl (List.Sublist.refl _) hl4 ⟨rfl, rfl⟩
theorem internal_strconv_FormatUint_ok {a0 : Int} {a1 : Int} {r : ByteArray} (h : internal_strconv_FormatUint a0 a1 r) (σ : Sto)  :
    Does Tryd.prog 73 [.int .u64 a0, .int .i64 a1] σ [] (fun v τ gs => gs = [] ∧ .string r = v) := by
  refine call_of Tryd.func73 Tryd.ntmps73 rfl rfl (fun cs fs => ?_)
  refine st_seq ?_
  refine st_region ?_
  refine o_assign rfl rfl rfl (ev_str z_str0) ?_
  refine st_end ?_
  refine st_seq ?_
  refine st_seq ?_
  refine st_region ?_
  refine o_move rfl rfl rfl rfl ?_
  refine o_ibin (v := .bool (decide (a1 = 10))) rfl rfl rfl rfl rfl rfl ?_
  refine st_end ?_
  refine st_cond rfl (fun hc => ?_) (fun hc => ?_)
  · replace h := (if_pos hc).mp h
    refine st_seq ?_
    refine st_seq ?_
    refine st_region ?_
    refine o_move rfl rfl rfl rfl ?_
    refine o_ibin (v := .bool (decide (a0 < 100))) rfl rfl rfl rfl rfl rfl ?_
    refine st_end ?_
    refine st_cond rfl (fun hc => ?_) (fun hc => ?_)
    · replace h := (if_pos hc).mp h
      refine st_seq ?_
      refine st_region ?_
      refine o_move rfl rfl rfl rfl ?_
      refine o_conv rfl rfl rfl Tryd.underlying48 Tryd.underlying3 rfl ?_
      obtain ⟨r1, hr2, h⟩ := h
      refine st_call (foot := []) rfl rfl rfl rfl rfl rfl (callV_fn z_en94 (internal_strconv_small_ok hr2 σ)) ?_
      rintro vτ3 τ3 gsτ3 hl4 ⟨rfl, rfl⟩
      refine o_assign rfl rfl rfl rfl ?_
      refine st_end ?_
      obtain rfl := Eq.symm h
      exact st_ret (gs' := []) Tryd.func73 rfl (List.Sublist.refl _) hl4 ⟨rfl, rfl⟩
    · replace h := (if_neg (ne_t hc)).mp h
      refine st_skip ?_
      refine st_seq ?_
      refine st_region ?_
      refine o_alloc rfl rfl rfl z_zero147 (fun b5 => ?_)
      refine st_end ?_
      refine st_seq ?_
      refine st_region ?_
      refine o_move rfl rfl rfl rfl ?_
      obtain ⟨r6, hr7, h⟩ := h
      refine st_call (foot := []) rfl rfl rfl rfl rfl rfl (callV_fn z_en95 (internal_strconv_numDigits_ok hr7 σ)) ?_
      rintro vτ8 τ8 gsτ8 hl9 ⟨rfl, rfl⟩
      refine o_assign rfl rfl rfl rfl ?_
      refine st_end ?_
      refine st_seq ?_
      refine st_region ?_
      refine o_move rfl rfl rfl rfl ?_
      exact h.elim
  · replace h := (if_neg (ne_t hc)).mp h
    refine st_skip ?_
    refine st_seq ?_
    refine st_region ?_
    refine o_move rfl rfl rfl rfl ?_
    refine o_move rfl rfl rfl rfl ?_
    obtain ⟨r13, hr14, h⟩ := h
    refine st_call (foot := []) rfl rfl rfl rfl rfl rfl (callV_fn z_en97 (internal_strconv_formatBits_ok hr14 σ Sl.nil)) ?_
    rintro vτ15 τ15 gsτ15 hl16 ⟨v17, rfl, rfl, hs18, hF19⟩
    refine o_move rfl rfl rfl rfl ?_
    refine o_extract rfl rfl rfl rfl rfl ?_
    refine o_extract rfl rfl rfl rfl rfl ?_
    refine o_assign rfl rfl rfl rfl ?_
    refine o_assign rfl rfl rfl rfl ?_
    refine st_end ?_
    refine st_seq ?_
    refine st_region ?_
    refine o_move rfl rfl rfl rfl ?_
    refine o_assign rfl rfl rfl rfl ?_
    refine st_end ?_
    obtain rfl := Eq.symm h
    exact st_ret (gs' := []) Tryd.func73 rfl (List.Sublist.refl _) hl16 ⟨rfl, rfl⟩
theorem strconv_FormatUint_ok {a0 : Int} {a1 : Int} {r : ByteArray} (h : strconv_FormatUint a0 a1 r) (σ : Sto)  :
    Does Tryd.prog 44 [.int .u64 a0, .int .i64 a1] σ [] (fun v τ gs => gs = [] ∧ .string r = v) := by
  refine call_of Tryd.func44 Tryd.ntmps44 rfl rfl (fun cs fs => ?_)
  refine st_seq ?_
  refine st_region ?_
  refine o_assign rfl rfl rfl (ev_str z_str0) ?_
  refine st_end ?_
  refine st_seq ?_
  refine st_region ?_
  refine o_move rfl rfl rfl rfl ?_
  refine o_move rfl rfl rfl rfl ?_
  obtain ⟨r1, hr2, h⟩ := h
  refine st_call (foot := []) rfl rfl rfl rfl rfl rfl (callV_fn z_en73 (internal_strconv_FormatUint_ok hr2 σ)) ?_
  rintro vτ3 τ3 gsτ3 hl4 ⟨rfl, rfl⟩
  refine o_assign rfl rfl rfl rfl ?_
  refine st_end ?_
  obtain rfl := Eq.symm h
  exact st_ret (gs' := []) Tryd.func44 rfl (List.Sublist.refl _) hl4 ⟨rfl, rfl⟩
theorem head_Line_ok {a0 : Int × Int × Int × Int × Int} {r : ByteArray} (h : head_Line a0 r) (σ : Sto)  :
    Does Tryd.prog 18 [.agg [.int .i64 a0.1, .int .i64 a0.2.1, .int .u32 a0.2.2.1, .int .i64 a0.2.2.2.1, .int .i64 a0.2.2.2.2].toArray] σ [] (fun v τ gs => gs = [] ∧ .string r = v) := by
  refine call_of Tryd.func18 Tryd.ntmps18 rfl rfl (fun cs fs => ?_)
  refine st_seq ?_
  refine st_region ?_
  refine o_box (cs := [.int .i64 a0.1, .int .i64 a0.2.1, .int .u32 a0.2.2.1, .int .i64 a0.2.2.2.1, .int .i64 a0.2.2.2.2]) rfl rfl rfl rfl rfl (fun b1 => ?_)
  refine o_assign rfl rfl rfl (ev_str z_str0) ?_
  refine st_end ?_
  refine st_seq ?_
  obtain ⟨r2, hr3, h⟩ := h
  obtain ⟨hf6, h⟩ := h
  obtain ⟨hf7, h⟩ := h
  obtain ⟨r8, hr9, h⟩ := h
  obtain ⟨hf12, h⟩ := h
  obtain ⟨hf13, h⟩ := h
  obtain ⟨r14, hr15, h⟩ := h
  obtain ⟨hf18, h⟩ := h
  obtain ⟨hf19, h⟩ := h
  obtain ⟨r20, hr21, h⟩ := h
  obtain ⟨hf24, h⟩ := h
  obtain ⟨hf25, h⟩ := h
  obtain ⟨r26, hr27, h⟩ := h
  obtain ⟨hf30, h⟩ := h
  refine st_draw 25 (tl [fun τ v => (.pointer (some ⟨b1, 0, none⟩) : Value) = v,
    fun τ v => (.int .i64 a0.1 : Value) = v,
    fun τ v => (.string r2 : Value) = v,
    fun τ v => (.string ((bstr [118, 32]) ++ r2) : Value) = v,
    fun τ v => (.string (((bstr [118, 32]) ++ r2) ++ (bstr [32, 107, 32])) : Value) = v,
    fun τ v => (.pointer (some ⟨b1, 1, none⟩) : Value) = v,
    fun τ v => (.int .i64 a0.2.1 : Value) = v,
    fun τ v => (.string r8 : Value) = v,
    fun τ v => (.string ((((bstr [118, 32]) ++ r2) ++ (bstr [32, 107, 32])) ++ r8) : Value) = v,
    fun τ v => (.string (((((bstr [118, 32]) ++ r2) ++ (bstr [32, 107, 32])) ++ r8) ++ (bstr [32])) : Value) = v,
    fun τ v => (.pointer (some ⟨b1, 2, none⟩) : Value) = v,
    fun τ v => (.int .u32 a0.2.2.1 : Value) = v,
    fun τ v => (.int .u64 (IntKind.u64.wrap a0.2.2.1) : Value) = v,
    fun τ v => (.string r14 : Value) = v,
    fun τ v => (.string ((((((bstr [118, 32]) ++ r2) ++ (bstr [32, 107, 32])) ++ r8) ++ (bstr [32])) ++ r14) : Value) = v,
    fun τ v => (.string (((((((bstr [118, 32]) ++ r2) ++ (bstr [32, 107, 32])) ++ r8) ++ (bstr [32])) ++ r14) ++ (bstr [32])) : Value) = v,
    fun τ v => (.pointer (some ⟨b1, 3, none⟩) : Value) = v,
    fun τ v => (.int .i64 a0.2.2.2.1 : Value) = v,
    fun τ v => (.string r20 : Value) = v,
    fun τ v => (.string ((((((((bstr [118, 32]) ++ r2) ++ (bstr [32, 107, 32])) ++ r8) ++ (bstr [32])) ++ r14) ++ (bstr [32])) ++ r20) : Value) = v,
    fun τ v => (.string (((((((((bstr [118, 32]) ++ r2) ++ (bstr [32, 107, 32])) ++ r8) ++ (bstr [32])) ++ r14) ++ (bstr [32])) ++ r20) ++ (bstr [47])) : Value) = v,
    fun τ v => (.pointer (some ⟨b1, 4, none⟩) : Value) = v,
    fun τ v => (.int .i64 a0.2.2.2.2 : Value) = v,
    fun τ v => (.string r26 : Value) = v,
    fun τ v => (.string ((((((((((bstr [118, 32]) ++ r2) ++ (bstr [32, 107, 32])) ++ r8) ++ (bstr [32])) ++ r14) ++ (bstr [32])) ++ r20) ++ (bstr [47])) ++ r26) : Value) = v]) (fun _ _ => []) z_mix rfl (tl_mono ⟨fun _ _ _ _ h => h, ⟨fun _ _ _ _ h => h, ⟨fun _ _ _ _ h => h, ⟨fun _ _ _ _ h => h, ⟨fun _ _ _ _ h => h, ⟨fun _ _ _ _ h => h, ⟨fun _ _ _ _ h => h, ⟨fun _ _ _ _ h => h, ⟨fun _ _ _ _ h => h, ⟨fun _ _ _ _ h => h, ⟨fun _ _ _ _ h => h, ⟨fun _ _ _ _ h => h, ⟨fun _ _ _ _ h => h, ⟨fun _ _ _ _ h => h, ⟨fun _ _ _ _ h => h, ⟨fun _ _ _ _ h => h, ⟨fun _ _ _ _ h => h, ⟨fun _ _ _ _ h => h, ⟨fun _ _ _ _ h => h, ⟨fun _ _ _ _ h => h, ⟨fun _ _ _ _ h => h, ⟨fun _ _ _ _ h => h, ⟨fun _ _ _ _ h => h, ⟨fun _ _ _ _ h => h, ⟨fun _ _ _ _ h => h, trivial⟩⟩⟩⟩⟩⟩⟩⟩⟩⟩⟩⟩⟩⟩⟩⟩⟩⟩⟩⟩⟩⟩⟩⟩⟩) (allB_cons (allB_cons (allB_cons (allB_cons (allB_cons (allB_cons (allB_cons (allB_cons (allB_cons (allB_cons (allB_cons (allB_cons (allB_cons (allB_cons (allB_cons (allB_cons (allB_cons (allB_cons (allB_cons (allB_cons (allB_cons (allB_cons (allB_cons (allB_cons (allB_cons allB_nil ?_) ?_) ?_) ?_) ?_) ?_) ?_) ?_) ?_) ?_) ?_) ?_) ?_) ?_) ?_) ?_) ?_) ?_) ?_) ?_) ?_) ?_) ?_) ?_) ?_) ?_
  · intro ρ' τ pool rs hl hd hout hk
    refine o_fieldAddr rfl rfl rfl z_field24_0 ((hout 1 rfl).trans rfl) ?_
    exact st_addNil (hk _ _ (Sto.Le.refl _) rfl)
  · intro ρ' τ pool rs hl hd hout hk
    obtain ⟨_, e0, rfl⟩ := hd 0 rfl
    refine o_load (j := 0) (v := .int .i64 a0.1) rfl rfl rfl z_sc3 e0 rfl rfl ?_
    exact st_addNil (hk _ _ (Sto.Le.refl _) rfl)
  · intro ρ' τ pool rs hl hd hout hk
    obtain ⟨_, e1, rfl⟩ := hd 1 rfl
    refine st_call (foot := []) rfl rfl rfl rfl (evs_cons e1 rfl) rfl (callV_fn z_en43 (strconv_Itoa_ok hr3 τ)) ?_
    rintro vτ4 τ4 gsτ4 hl5 ⟨rfl, rfl⟩
    exact st_addNil (hk _ _ hl5 rfl)
  · intro ρ' τ pool rs hl hd hout hk
    obtain ⟨_, e2, rfl⟩ := hd 2 rfl
    refine o_sadd rfl rfl rfl (ev_str z_str4) e2 hf6 ?_
    exact st_addNil (hk _ _ (Sto.Le.refl _) rfl)
  · intro ρ' τ pool rs hl hd hout hk
    obtain ⟨_, e3, rfl⟩ := hd 3 rfl
    refine o_sadd rfl rfl rfl e3 (ev_str z_str5) hf7 ?_
    exact st_addNil (hk _ _ (Sto.Le.refl _) rfl)
  · intro ρ' τ pool rs hl hd hout hk
    refine o_fieldAddr rfl rfl rfl z_field24_1 ((hout 1 rfl).trans rfl) ?_
    exact st_addNil (hk _ _ (Sto.Le.refl _) rfl)
  · intro ρ' τ pool rs hl hd hout hk
    obtain ⟨_, e5, rfl⟩ := hd 5 rfl
    refine o_load (j := 0) (v := .int .i64 a0.2.1) rfl rfl rfl z_sc3 e5 rfl rfl ?_
    exact st_addNil (hk _ _ (Sto.Le.refl _) rfl)
  · intro ρ' τ pool rs hl hd hout hk
    obtain ⟨_, e6, rfl⟩ := hd 6 rfl
    refine st_call (foot := []) rfl rfl rfl rfl (evs_cons e6 rfl) rfl (callV_fn z_en43 (strconv_Itoa_ok hr9 τ)) ?_
    rintro vτ10 τ10 gsτ10 hl11 ⟨rfl, rfl⟩
    exact st_addNil (hk _ _ hl11 rfl)
  · intro ρ' τ pool rs hl hd hout hk
    obtain ⟨_, e4, rfl⟩ := hd 4 rfl
    obtain ⟨_, e7, rfl⟩ := hd 7 rfl
    refine o_sadd rfl rfl rfl e4 e7 hf12 ?_
    exact st_addNil (hk _ _ (Sto.Le.refl _) rfl)
  · intro ρ' τ pool rs hl hd hout hk
    obtain ⟨_, e8, rfl⟩ := hd 8 rfl
    refine o_sadd rfl rfl rfl e8 (ev_str z_str6) hf13 ?_
    exact st_addNil (hk _ _ (Sto.Le.refl _) rfl)
  · intro ρ' τ pool rs hl hd hout hk
    refine o_fieldAddr rfl rfl rfl z_field24_2 ((hout 1 rfl).trans rfl) ?_
    exact st_addNil (hk _ _ (Sto.Le.refl _) rfl)
  · intro ρ' τ pool rs hl hd hout hk
    obtain ⟨_, e10, rfl⟩ := hd 10 rfl
    refine o_load (j := 0) (v := .int .u32 a0.2.2.1) rfl rfl rfl z_sc22 e10 rfl rfl ?_
    exact st_addNil (hk _ _ (Sto.Le.refl _) rfl)
  · intro ρ' τ pool rs hl hd hout hk
    obtain ⟨_, e11, rfl⟩ := hd 11 rfl
    refine o_conv rfl rfl rfl Tryd.underlying22 Tryd.underlying48 e11 ?_
    exact st_addNil (hk _ _ (Sto.Le.refl _) rfl)
  · intro ρ' τ pool rs hl hd hout hk
    obtain ⟨_, e12, rfl⟩ := hd 12 rfl
    refine st_call (foot := []) rfl rfl rfl rfl (evs_cons e12 (evs_cons rfl rfl)) rfl (callV_fn z_en44 (strconv_FormatUint_ok hr15 τ)) ?_
    rintro vτ16 τ16 gsτ16 hl17 ⟨rfl, rfl⟩
    exact st_addNil (hk _ _ hl17 rfl)
  · intro ρ' τ pool rs hl hd hout hk
    obtain ⟨_, e9, rfl⟩ := hd 9 rfl
    obtain ⟨_, e13, rfl⟩ := hd 13 rfl
    refine o_sadd rfl rfl rfl e9 e13 hf18 ?_
    exact st_addNil (hk _ _ (Sto.Le.refl _) rfl)
  · intro ρ' τ pool rs hl hd hout hk
    obtain ⟨_, e14, rfl⟩ := hd 14 rfl
    refine o_sadd rfl rfl rfl e14 (ev_str z_str6) hf19 ?_
    exact st_addNil (hk _ _ (Sto.Le.refl _) rfl)
  · intro ρ' τ pool rs hl hd hout hk
    refine o_fieldAddr rfl rfl rfl z_field24_3 ((hout 1 rfl).trans rfl) ?_
    exact st_addNil (hk _ _ (Sto.Le.refl _) rfl)
  · intro ρ' τ pool rs hl hd hout hk
    obtain ⟨_, e16, rfl⟩ := hd 16 rfl
    refine o_load (j := 0) (v := .int .i64 a0.2.2.2.1) rfl rfl rfl z_sc3 e16 rfl rfl ?_
    exact st_addNil (hk _ _ (Sto.Le.refl _) rfl)
  · intro ρ' τ pool rs hl hd hout hk
    obtain ⟨_, e17, rfl⟩ := hd 17 rfl
    refine st_call (foot := []) rfl rfl rfl rfl (evs_cons e17 rfl) rfl (callV_fn z_en43 (strconv_Itoa_ok hr21 τ)) ?_
    rintro vτ22 τ22 gsτ22 hl23 ⟨rfl, rfl⟩
    exact st_addNil (hk _ _ hl23 rfl)
  · intro ρ' τ pool rs hl hd hout hk
    obtain ⟨_, e15, rfl⟩ := hd 15 rfl
    obtain ⟨_, e18, rfl⟩ := hd 18 rfl
    refine o_sadd rfl rfl rfl e15 e18 hf24 ?_
    exact st_addNil (hk _ _ (Sto.Le.refl _) rfl)
  · intro ρ' τ pool rs hl hd hout hk
    obtain ⟨_, e19, rfl⟩ := hd 19 rfl
    refine o_sadd rfl rfl rfl e19 (ev_str z_str7) hf25 ?_
    exact st_addNil (hk _ _ (Sto.Le.refl _) rfl)
  · intro ρ' τ pool rs hl hd hout hk
    refine o_fieldAddr rfl rfl rfl z_field24_4 ((hout 1 rfl).trans rfl) ?_
    exact st_addNil (hk _ _ (Sto.Le.refl _) rfl)
  · intro ρ' τ pool rs hl hd hout hk
    obtain ⟨_, e21, rfl⟩ := hd 21 rfl
    refine o_load (j := 0) (v := .int .i64 a0.2.2.2.2) rfl rfl rfl z_sc3 e21 rfl rfl ?_
    exact st_addNil (hk _ _ (Sto.Le.refl _) rfl)
  · intro ρ' τ pool rs hl hd hout hk
    obtain ⟨_, e22, rfl⟩ := hd 22 rfl
    refine st_call (foot := []) rfl rfl rfl rfl (evs_cons e22 rfl) rfl (callV_fn z_en43 (strconv_Itoa_ok hr27 τ)) ?_
    rintro vτ28 τ28 gsτ28 hl29 ⟨rfl, rfl⟩
    exact st_addNil (hk _ _ hl29 rfl)
  · intro ρ' τ pool rs hl hd hout hk
    obtain ⟨_, e20, rfl⟩ := hd 20 rfl
    obtain ⟨_, e23, rfl⟩ := hd 23 rfl
    refine o_sadd rfl rfl rfl e20 e23 hf30 ?_
    exact st_addNil (hk _ _ (Sto.Le.refl _) rfl)
  intro ρ' τ31 vals hl31 hv hout
  have l24 : Eng.look ρ' 27 = some (.string ((((((((((bstr [118, 32]) ++ r2) ++ (bstr [32, 107, 32])) ++ r8) ++ (bstr [32])) ++ r14) ++ (bstr [32])) ++ r20) ++ (bstr [47])) ++ r26)) := (hv 24 (by decide)).1.trans (congrArg some (show vals 24 = .string ((((((((((bstr [118, 32]) ++ r2) ++ (bstr [32, 107, 32])) ++ r8) ++ (bstr [32])) ++ r14) ++ (bstr [32])) ++ r20) ++ (bstr [47])) ++ r26) from Eq.symm (hv 24 (by decide)).2))
  refine st_ord [0] [[(b1, .cells [.int .i64 a0.1, .int .i64 a0.2.1, .int .u32 a0.2.2.1, .int .i64 a0.2.2.2.1, .int .i64 a0.2.2.2.2].toArray 24 (0, 0))]] rfl ?_
  refine st_env (ρ' := [(27, .string ((((((((((bstr [118, 32]) ++ r2) ++ (bstr [32, 107, 32])) ++ r8) ++ (bstr [32])) ++ r14) ++ (bstr [32])) ++ r20) ++ (bstr [47])) ++ r26)), (2, .string (bstr []))]) ⟨l24, (hout 2 rfl).trans rfl, trivial⟩ ?_
  refine o_assign rfl rfl rfl rfl ?_
  refine st_end ?_
  refine st_ord [] [] rfl ?_
  obtain rfl := Eq.symm h
  exact st_ret (gs' := []) Tryd.func18 rfl (List.Sublist.refl _) hl31 ⟨rfl, rfl⟩
theorem law07_known_ok  {r : Bool} (h : law07_known r) (σ : Sto)  :
    Does Tryd.prog 8 [] σ [] (fun v τ gs => gs = [] ∧ .bool r = v) := by
  refine call_of Tryd.func8 Tryd.ntmps8 rfl rfl (fun cs fs => ?_)
  refine st_seq ?_
  refine st_region ?_
  refine o_assign rfl rfl rfl rfl ?_
  refine st_end ?_
  refine st_seq ?_
  refine st_region ?_
  refine o_build (ps := [(0, [.int .i64 2]), (1, [.int .i64 4]), (2, [.int .u32 258]), (4, [.int .i64 3])]) (cs := [.int .i64 2, .int .i64 4, .int .u32 258, .int .i64 0, .int .i64 3]) rfl rfl rfl z_struct24 ⟨rfl, ⟨_, rfl, rfl⟩, ⟨rfl, ⟨_, rfl, rfl⟩, ⟨rfl, ⟨_, rfl, rfl⟩, ⟨rfl, ⟨_, rfl, rfl⟩, trivial⟩⟩⟩⟩ rfl ?_
  refine o_alloc rfl rfl rfl z_zero24 (fun b1 => ?_)
  refine o_store (j := 0) (vs := [.int .i64 2, .int .i64 4, .int .u32 258, .int .i64 0, .int .i64 3]) (cs' := [.int .i64 2, .int .i64 4, .int .u32 258, .int .i64 0, .int .i64 3]) rfl rfl rfl z_size24 rfl rfl rfl (ones_cons rfl (ones_cons rfl (ones_cons rfl (ones_cons rfl (ones_cons rfl ones_nil))))) rfl rfl rfl ?_
  refine st_gs [[(b1, .cells [.int .i64 2, .int .i64 4, .int .u32 258, .int .i64 0, .int .i64 3].toArray 24 (0, 0))]] rfl ?_
  refine st_end ?_
  refine st_seq ?_
  refine st_region ?_
  refine o_loadN (j := 0) (vs := [.int .i64 2, .int .i64 4, .int .u32 258, .int .i64 0, .int .i64 3]) rfl rfl rfl z_agg24 rfl rfl rfl ?_
  obtain ⟨r2, hr3, h⟩ := h
  refine st_call (foot := []) rfl rfl rfl rfl rfl rfl (callV_fn z_en14 (head_Bytes_ok hr3 σ)) ?_
  rintro vτ4 τ4 gsτ4 hl5 ⟨v6, rfl, rfl, hs7, hF8⟩
  refine o_move rfl rfl rfl rfl ?_
  refine o_extract rfl rfl rfl rfl rfl ?_
  refine o_extract rfl rfl rfl rfl rfl ?_
  refine o_assign rfl rfl rfl rfl ?_
  refine o_assign rfl rfl rfl rfl ?_
  refine st_end ?_
  refine st_seq ?_
  refine st_region ?_
  refine o_fieldAddr rfl rfl rfl z_field24_2 rfl ?_
  refine o_store (j := 0) (vs := [.int .u32 77]) (cs' := [.int .i64 2, .int .i64 4, .int .u32 77, .int .i64 0, .int .i64 3]) rfl rfl rfl z_size22 rfl rfl rfl (ones_cons rfl ones_nil) rfl rfl rfl ?_
  refine st_gs [[(b1, .cells [.int .i64 2, .int .i64 4, .int .u32 77, .int .i64 0, .int .i64 3].toArray 24 (0, 0))]] rfl ?_
  refine st_end ?_
  refine st_seq ?_
  refine st_cut (fun ρ τ9 gs => ∃ (s9 : Bool), law07_known_j1 s9 r ∧ τ4.Le τ9 ∧ ρ = [(0, .bool s9)] ∧ gs = []) ?_ (fun hk9 => ?_)
  · rintro ρ9 τ9 gs9 ⟨s9, h, hl9, rfl, rfl⟩
    obtain rfl := Eq.symm h
    exact st_ret (gs' := []) Tryd.func8 rfl (List.Sublist.refl _) (hl5.trans hl9) ⟨rfl, rfl⟩
  refine st_region ?_
  refine o_move rfl rfl rfl rfl ?_
  refine o_ibin (v := .bool (decide (r2.2 = 0))) rfl rfl rfl rfl rfl rfl ?_
  refine o_moveB rfl rfl rfl rfl (fun hc => ?_) (fun hc => ?_)
  · replace h := (if_pos hc).mp h
    refine o_move rfl rfl rfl rfl ?_
    refine o_lit (dk := (kI .u8)) (xs := [2, 4, 2, 1, 0, 0, 0, 3]) (ps := [(0, [.int .u8 2]), (1, [.int .u8 4]), (2, [.int .u8 2]), (3, [.int .u8 1]), (4, [.int .u8 0]), (5, [.int .u8 0]), (6, [.int .u8 0]), (7, [.int .u8 3])]) (cs := [.int .u8 2, .int .u8 4, .int .u8 2, .int .u8 1, .int .u8 0, .int .u8 0, .int .u8 0, .int .u8 3]) rfl rfl rfl z_slT31 z_zero5 ⟨rfl, ⟨_, rfl, rfl⟩, ⟨rfl, ⟨_, rfl, rfl⟩, ⟨rfl, ⟨_, rfl, rfl⟩, ⟨rfl, ⟨_, rfl, rfl⟩, ⟨rfl, ⟨_, rfl, rfl⟩, ⟨rfl, ⟨_, rfl, rfl⟩, ⟨rfl, ⟨_, rfl, rfl⟩, ⟨rfl, ⟨_, rfl, rfl⟩, trivial⟩⟩⟩⟩⟩⟩⟩⟩ rfl rfl rfl rfl (Kd.Many.cons (a := [.int .u8 2]) rfl (Kd.Many.cons (a := [.int .u8 4]) rfl (Kd.Many.cons (a := [.int .u8 2]) rfl (Kd.Many.cons (a := [.int .u8 1]) rfl (Kd.Many.cons (a := [.int .u8 0]) rfl (Kd.Many.cons (a := [.int .u8 0]) rfl (Kd.Many.cons (a := [.int .u8 0]) rfl (Kd.Many.cons (a := [.int .u8 3]) rfl Kd.Many.nil)))))))) (fun v10 g11 ho12 => ?_)
    obtain ⟨r17, hr18, h⟩ := h
    refine st_freeze (fun τ13 hl14 hg15 => ?_)
    have hs16 := ho12.freeze hl14 hg15
    refine st_call (foot := []) rfl rfl rfl rfl rfl rfl (callV_fn z_en15 (ref01_Same_ok hr18 τ13 (hs7.up hl14) hs16)) ?_
    rintro vτ19 τ19 gsτ19 hl20 ⟨rfl, rfl⟩
    refine o_pick rfl rfl rfl rfl rfl ?_
    refine o_moveB rfl rfl rfl rfl (fun hc => ?_) (fun hc => ?_)
    · replace h := (if_pos hc).mp h
      refine o_loadN (j := 0) (vs := [.int .i64 2, .int .i64 4, .int .u32 77, .int .i64 0, .int .i64 3]) rfl rfl rfl z_agg24 rfl rfl rfl ?_
      obtain ⟨r21, hr22, h⟩ := h
      refine st_call (foot := []) rfl rfl rfl rfl rfl rfl (callV_fn z_en18 (head_Line_ok hr22 τ19)) ?_
      rintro vτ23 τ23 gsτ23 hl24 ⟨rfl, rfl⟩
      refine o_sbin (v := .bool (decide (r21 = (bstr [118, 32, 50, 32, 107, 32, 52, 32, 55, 55, 32, 48, 47, 51])))) rfl rfl rfl rfl (ev_str z_str8) rfl ?_
      refine o_pick rfl rfl rfl rfl rfl ?_
      refine o_assign rfl rfl rfl rfl ?_
      refine st_end ?_
      refine st_env (ρ' := [(0, .bool (decide (r21 = (bstr [118, 32, 50, 32, 107, 32, 52, 32, 55, 55, 32, 48, 47, 51]))))]) ⟨rfl, trivial⟩ ?_
      refine st_ord [] [] rfl ?_
      exact hk9 _ _ _ ⟨(decide (r21 = (bstr [118, 32, 50, 32, 107, 32, 52, 32, 55, 55, 32, 48, 47, 51]))), h, ((hl14.trans hl20).trans hl24), rfl, rfl⟩
    · replace h := (if_neg (ne_t hc)).mp h
      refine st_pass rfl rfl rfl rfl rfl rfl ?_
      refine st_pass rfl rfl rfl rfl rfl rfl ?_
      refine st_pass rfl rfl rfl rfl rfl rfl ?_
      refine o_pick rfl rfl rfl rfl rfl ?_
      refine o_assign rfl rfl rfl rfl ?_
      refine st_end ?_
      refine st_env (ρ' := [(0, .bool false)]) ⟨rfl, trivial⟩ ?_
      refine st_ord [] [] rfl ?_
      exact hk9 _ _ _ ⟨false, h, (hl14.trans hl20), rfl, rfl⟩
  · replace h := (if_neg (ne_t hc)).mp h
    refine st_pass rfl rfl rfl rfl rfl rfl ?_
    refine st_pass rfl rfl rfl rfl rfl rfl ?_
    refine st_pass rfl rfl rfl rfl rfl rfl ?_
    refine o_pick rfl rfl rfl rfl rfl ?_
    refine o_move rfl rfl rfl rfl ?_
    refine st_pass rfl rfl rfl rfl rfl rfl ?_
    refine st_pass rfl rfl rfl rfl rfl rfl ?_
    refine st_pass rfl rfl rfl rfl rfl rfl ?_
    refine o_pick rfl rfl rfl rfl rfl ?_
    refine o_assign rfl rfl rfl rfl ?_
    refine st_end ?_
    refine st_env (ρ' := [(0, .bool false)]) ⟨rfl, trivial⟩ ?_
    refine st_ord [] [] rfl ?_
    exact hk9 _ _ _ ⟨false, h, (Sto.Le.refl _), rfl, rfl⟩
theorem head_Mates_ok {a0 : Int × Int × Int × Int × Int} {a1 : Int × Int × Int × Int × Int} {r : Bool} (h : head_Mates a0 a1 r) (σ : Sto)  :
    Does Tryd.prog 9 [.agg [.int .i64 a0.1, .int .i64 a0.2.1, .int .u32 a0.2.2.1, .int .i64 a0.2.2.2.1, .int .i64 a0.2.2.2.2].toArray, .agg [.int .i64 a1.1, .int .i64 a1.2.1, .int .u32 a1.2.2.1, .int .i64 a1.2.2.2.1, .int .i64 a1.2.2.2.2].toArray] σ [] (fun v τ gs => gs = [] ∧ .bool r = v) := by
  refine call_of Tryd.func9 Tryd.ntmps9 rfl rfl (fun cs fs => ?_)
  refine st_seq ?_
  refine st_region ?_
  refine o_box (cs := [.int .i64 a0.1, .int .i64 a0.2.1, .int .u32 a0.2.2.1, .int .i64 a0.2.2.2.1, .int .i64 a0.2.2.2.2]) rfl rfl rfl rfl rfl (fun b1 => ?_)
  refine o_box (cs := [.int .i64 a1.1, .int .i64 a1.2.1, .int .u32 a1.2.2.1, .int .i64 a1.2.2.2.1, .int .i64 a1.2.2.2.2]) rfl rfl rfl rfl rfl (fun b2 => ?_)
  refine o_assign rfl rfl rfl rfl ?_
  refine st_end ?_
  refine st_seq ?_
  refine st_region ?_
  refine o_fieldAddr rfl rfl rfl z_field24_3 rfl ?_
  refine o_load (j := 0) (v := .int .i64 a1.2.2.2.1) rfl rfl rfl z_sc3 rfl rfl rfl ?_
  refine o_fieldAddr rfl rfl rfl z_field24_3 rfl ?_
  refine o_store (j := 1) (vs := [.int .i64 a1.2.2.2.1]) (cs' := [.int .i64 a0.1, .int .i64 a0.2.1, .int .u32 a0.2.2.1, .int .i64 a1.2.2.2.1, .int .i64 a0.2.2.2.2]) rfl rfl rfl z_size3 rfl rfl rfl (ones_cons rfl ones_nil) rfl rfl rfl ?_
  refine st_gs [[(b2, .cells [.int .i64 a1.1, .int .i64 a1.2.1, .int .u32 a1.2.2.1, .int .i64 a1.2.2.2.1, .int .i64 a1.2.2.2.2].toArray 24 (0, 0))], [(b1, .cells [.int .i64 a0.1, .int .i64 a0.2.1, .int .u32 a0.2.2.1, .int .i64 a1.2.2.2.1, .int .i64 a0.2.2.2.2].toArray 24 (0, 0))]] rfl ?_
  refine st_end ?_
  refine st_seq ?_
  refine st_region ?_
  refine o_loadN (j := 1) (vs := [.int .i64 a0.1, .int .i64 a0.2.1, .int .u32 a0.2.2.1, .int .i64 a1.2.2.2.1, .int .i64 a0.2.2.2.2]) rfl rfl rfl z_agg24 rfl rfl rfl ?_
  refine o_loadN (j := 0) (vs := [.int .i64 a1.1, .int .i64 a1.2.1, .int .u32 a1.2.2.1, .int .i64 a1.2.2.2.1, .int .i64 a1.2.2.2.2]) rfl rfl rfl z_agg24 rfl rfl rfl ?_
  refine o_aggEq (b := ((decide (a0.1 = a1.1)) && ((decide (a0.2.1 = a1.2.1)) && ((decide (a0.2.2.1 = a1.2.2.1)) && ((decide (a1.2.2.2.1 = a1.2.2.2.1)) && ((decide (a0.2.2.2.2 = a1.2.2.2.2)) && true)))))) (e := ((decide (a0.1 = a1.1)) && ((decide (a0.2.1 = a1.2.1)) && ((decide (a0.2.2.1 = a1.2.2.1)) && ((decide (a1.2.2.2.1 = a1.2.2.2.1)) && ((decide (a0.2.2.2.2 = a1.2.2.2.2)) && true)))))) rfl rfl rfl z_eqg24 rfl rfl (fun w => by refine eq_struct Tryd.underlying24 z_held24 ?_; refine eqf_cons (r := (decide (a0.1 = a1.1))) (r' := ((decide (a0.2.1 = a1.2.1)) && ((decide (a0.2.2.1 = a1.2.2.1)) && ((decide (a1.2.2.2.1 = a1.2.2.2.1)) && ((decide (a0.2.2.2.2 = a1.2.2.2.2)) && true))))) rfl (part_one z_sc3 rfl) (part_one z_sc3 rfl) (by exact eq_int Tryd.underlying3 _ _) ?_; refine eqf_cons (r := (decide (a0.2.1 = a1.2.1))) (r' := ((decide (a0.2.2.1 = a1.2.2.1)) && ((decide (a1.2.2.2.1 = a1.2.2.2.1)) && ((decide (a0.2.2.2.2 = a1.2.2.2.2)) && true)))) rfl (part_one z_sc3 rfl) (part_one z_sc3 rfl) (by exact eq_int Tryd.underlying3 _ _) ?_; refine eqf_cons (r := (decide (a0.2.2.1 = a1.2.2.1))) (r' := ((decide (a1.2.2.2.1 = a1.2.2.2.1)) && ((decide (a0.2.2.2.2 = a1.2.2.2.2)) && true))) rfl (part_one z_sc22 rfl) (part_one z_sc22 rfl) (by exact eq_int Tryd.underlying22 _ _) ?_; refine eqf_cons (r := (decide (a1.2.2.2.1 = a1.2.2.2.1))) (r' := ((decide (a0.2.2.2.2 = a1.2.2.2.2)) && true)) rfl (part_one z_sc3 rfl) (part_one z_sc3 rfl) (by exact eq_int Tryd.underlying3 _ _) ?_; refine eqf_cons (r := (decide (a0.2.2.2.2 = a1.2.2.2.2))) (r' := true) rfl (part_one z_sc3 rfl) (part_one z_sc3 rfl) (by exact eq_int Tryd.underlying3 _ _) ?_; exact eqf_nil _ _ _ _) rfl ?_
  refine o_assign rfl rfl rfl rfl ?_
  refine st_end ?_
  refine st_ord [] [] rfl ?_
  obtain rfl := Eq.symm h
  exact st_ret (gs' := []) Tryd.func9 rfl (List.Sublist.refl _) (Sto.Le.refl _) ⟨rfl, rfl⟩
theorem law07_HeadMates_ok {a0 : Int × Int × Int × Int × Int} {a1 : Int × Int × Int × Int × Int} {r : Bool} (h : law07_HeadMates a0 a1 r) (σ : Sto)  :
    Does Tryd.prog 3 [.agg [.int .i64 a0.1, .int .i64 a0.2.1, .int .u32 a0.2.2.1, .int .i64 a0.2.2.2.1, .int .i64 a0.2.2.2.2].toArray, .agg [.int .i64 a1.1, .int .i64 a1.2.1, .int .u32 a1.2.2.1, .int .i64 a1.2.2.2.1, .int .i64 a1.2.2.2.2].toArray] σ [] (fun v τ gs => gs = [] ∧ .bool r = v) := by
  refine call_of Tryd.func3 Tryd.ntmps3 rfl rfl (fun cs fs => ?_)
  refine st_seq ?_
  refine st_region ?_
  refine o_box (cs := [.int .i64 a0.1, .int .i64 a0.2.1, .int .u32 a0.2.2.1, .int .i64 a0.2.2.2.1, .int .i64 a0.2.2.2.2]) rfl rfl rfl rfl rfl (fun b1 => ?_)
  refine o_box (cs := [.int .i64 a1.1, .int .i64 a1.2.1, .int .u32 a1.2.2.1, .int .i64 a1.2.2.2.1, .int .i64 a1.2.2.2.2]) rfl rfl rfl rfl rfl (fun b2 => ?_)
  refine o_assign rfl rfl rfl rfl ?_
  refine st_end ?_
  refine st_seq ?_
  refine st_cut (fun ρ τ3 gs => ∃ (s3 : Bool), law07_HeadMates_j1 a0 a1 s3 r ∧ σ.Le τ3 ∧ ρ = [(2, .pointer (some ⟨b1, 0, none⟩)), (3, .pointer (some ⟨b2, 0, none⟩)), (4, .bool false), (5, .bool s3)] ∧ gs = [[(b1, .cells [.int .i64 a0.1, .int .i64 a0.2.1, .int .u32 a0.2.2.1, .int .i64 a0.2.2.2.1, .int .i64 a0.2.2.2.2].toArray 24 (0, 0))], [(b2, .cells [.int .i64 a1.1, .int .i64 a1.2.1, .int .u32 a1.2.2.1, .int .i64 a1.2.2.2.1, .int .i64 a1.2.2.2.2].toArray 24 (0, 0))]]) ?_ (fun hk3 => ?_)
  · rintro ρ3 τ3 gs3 ⟨s3, h, hl3, rfl, rfl⟩
    refine st_seq ?_
    refine st_region ?_
    refine o_loadN (j := 0) (vs := [.int .i64 a0.1, .int .i64 a0.2.1, .int .u32 a0.2.2.1, .int .i64 a0.2.2.2.1, .int .i64 a0.2.2.2.2]) rfl rfl rfl z_agg24 rfl rfl rfl ?_
    refine o_alloc rfl rfl rfl z_zero24 (fun b4 => ?_)
    refine o_store (j := 0) (vs := [.int .i64 a0.1, .int .i64 a0.2.1, .int .u32 a0.2.2.1, .int .i64 a0.2.2.2.1, .int .i64 a0.2.2.2.2]) (cs' := [.int .i64 a0.1, .int .i64 a0.2.1, .int .u32 a0.2.2.1, .int .i64 a0.2.2.2.1, .int .i64 a0.2.2.2.2]) rfl rfl rfl z_size24 rfl rfl rfl (ones_cons rfl (ones_cons rfl (ones_cons rfl (ones_cons rfl (ones_cons rfl ones_nil))))) rfl rfl rfl ?_
    refine st_gs [[(b4, .cells [.int .i64 a0.1, .int .i64 a0.2.1, .int .u32 a0.2.2.1, .int .i64 a0.2.2.2.1, .int .i64 a0.2.2.2.2].toArray 24 (0, 0))], [(b1, .cells [.int .i64 a0.1, .int .i64 a0.2.1, .int .u32 a0.2.2.1, .int .i64 a0.2.2.2.1, .int .i64 a0.2.2.2.2].toArray 24 (0, 0))], [(b2, .cells [.int .i64 a1.1, .int .i64 a1.2.1, .int .u32 a1.2.2.1, .int .i64 a1.2.2.2.1, .int .i64 a1.2.2.2.2].toArray 24 (0, 0))]] rfl ?_
    refine st_end ?_
    refine st_seq ?_
    refine st_region ?_
    refine o_fieldAddr rfl rfl rfl z_field24_3 rfl ?_
    refine o_load (j := 2) (v := .int .i64 a1.2.2.2.1) rfl rfl rfl z_sc3 rfl rfl rfl ?_
    refine o_fieldAddr rfl rfl rfl z_field24_3 rfl ?_
    refine o_store (j := 0) (vs := [.int .i64 a1.2.2.2.1]) (cs' := [.int .i64 a0.1, .int .i64 a0.2.1, .int .u32 a0.2.2.1, .int .i64 a1.2.2.2.1, .int .i64 a0.2.2.2.2]) rfl rfl rfl z_size3 rfl rfl rfl (ones_cons rfl ones_nil) rfl rfl rfl ?_
    refine st_gs [[(b4, .cells [.int .i64 a0.1, .int .i64 a0.2.1, .int .u32 a0.2.2.1, .int .i64 a1.2.2.2.1, .int .i64 a0.2.2.2.2].toArray 24 (0, 0))], [(b1, .cells [.int .i64 a0.1, .int .i64 a0.2.1, .int .u32 a0.2.2.1, .int .i64 a0.2.2.2.1, .int .i64 a0.2.2.2.2].toArray 24 (0, 0))], [(b2, .cells [.int .i64 a1.1, .int .i64 a1.2.1, .int .u32 a1.2.2.1, .int .i64 a1.2.2.2.1, .int .i64 a1.2.2.2.2].toArray 24 (0, 0))]] rfl ?_
    refine st_end ?_
    refine st_seq ?_
    refine st_cut (fun ρ τ5 gs => ∃ (s5 : Bool), law07_HeadMates_j2 s5 r ∧ τ3.Le τ5 ∧ ρ = [(4, .bool s5)] ∧ gs = []) ?_ (fun hk5 => ?_)
    · rintro ρ5 τ5 gs5 ⟨s5, h, hl5, rfl, rfl⟩
      obtain rfl := Eq.symm h
      exact st_ret (gs' := []) Tryd.func3 rfl (List.Sublist.refl _) (hl3.trans hl5) ⟨rfl, rfl⟩
    refine st_region ?_
    obtain ⟨r6, hr7, h⟩ := h
    refine st_call (foot := []) rfl rfl rfl rfl rfl rfl (callV_fn z_en8 (law07_known_ok hr7 τ3)) ?_
    rintro vτ8 τ8 gsτ8 hl9 ⟨rfl, rfl⟩
    refine o_moveB rfl rfl rfl rfl (fun hc => ?_) (fun hc => ?_)
    · replace h := (if_pos hc).mp h
      refine o_loadN (j := 1) (vs := [.int .i64 a0.1, .int .i64 a0.2.1, .int .u32 a0.2.2.1, .int .i64 a0.2.2.2.1, .int .i64 a0.2.2.2.2]) rfl rfl rfl z_agg24 rfl rfl rfl ?_
      refine o_loadN (j := 2) (vs := [.int .i64 a1.1, .int .i64 a1.2.1, .int .u32 a1.2.2.1, .int .i64 a1.2.2.2.1, .int .i64 a1.2.2.2.2]) rfl rfl rfl z_agg24 rfl rfl rfl ?_
      obtain ⟨r10, hr11, h⟩ := h
      refine st_call (foot := []) rfl rfl rfl rfl rfl rfl (callV_fn z_en9 (head_Mates_ok hr11 τ8)) ?_
      rintro vτ12 τ12 gsτ12 hl13 ⟨rfl, rfl⟩
      refine o_move rfl rfl rfl rfl ?_
      refine o_beq (e := (decide (r10 = s3))) rfl rfl rfl Tryd.underlying4 rfl rfl rfl ?_
      refine o_pick rfl rfl rfl rfl rfl ?_
      refine o_moveB rfl rfl rfl rfl (fun hc => ?_) (fun hc => ?_)
      · replace h := (if_pos hc).mp h
        refine o_loadN (j := 2) (vs := [.int .i64 a1.1, .int .i64 a1.2.1, .int .u32 a1.2.2.1, .int .i64 a1.2.2.2.1, .int .i64 a1.2.2.2.2]) rfl rfl rfl z_agg24 rfl rfl rfl ?_
        refine o_loadN (j := 1) (vs := [.int .i64 a0.1, .int .i64 a0.2.1, .int .u32 a0.2.2.1, .int .i64 a0.2.2.2.1, .int .i64 a0.2.2.2.2]) rfl rfl rfl z_agg24 rfl rfl rfl ?_
        obtain ⟨r14, hr15, h⟩ := h
        refine st_call (foot := []) rfl rfl rfl rfl rfl rfl (callV_fn z_en9 (head_Mates_ok hr15 τ12)) ?_
        rintro vτ16 τ16 gsτ16 hl17 ⟨rfl, rfl⟩
        refine o_move rfl rfl rfl rfl ?_
        refine o_beq (e := (decide (r14 = s3))) rfl rfl rfl Tryd.underlying4 rfl rfl rfl ?_
        refine o_pick rfl rfl rfl rfl rfl ?_
        refine o_moveB rfl rfl rfl rfl (fun hc => ?_) (fun hc => ?_)
        · replace h := (if_pos hc).mp h
          refine o_loadN (j := 1) (vs := [.int .i64 a0.1, .int .i64 a0.2.1, .int .u32 a0.2.2.1, .int .i64 a0.2.2.2.1, .int .i64 a0.2.2.2.2]) rfl rfl rfl z_agg24 rfl rfl rfl ?_
          refine o_loadN (j := 0) (vs := [.int .i64 a0.1, .int .i64 a0.2.1, .int .u32 a0.2.2.1, .int .i64 a1.2.2.2.1, .int .i64 a0.2.2.2.2]) rfl rfl rfl z_agg24 rfl rfl rfl ?_
          obtain ⟨r18, hr19, h⟩ := h
          refine st_call (foot := []) rfl rfl rfl rfl rfl rfl (callV_fn z_en9 (head_Mates_ok hr19 τ16)) ?_
          rintro vτ20 τ20 gsτ20 hl21 ⟨rfl, rfl⟩
          refine o_pick rfl rfl rfl rfl rfl ?_
          refine o_assign rfl rfl rfl rfl ?_
          refine st_end ?_
          refine st_env (ρ' := [(4, .bool r18)]) ⟨rfl, trivial⟩ ?_
          refine st_ord [] [] rfl ?_
          exact hk5 _ _ _ ⟨r18, h, (((hl9.trans hl13).trans hl17).trans hl21), rfl, rfl⟩
        · replace h := (if_neg (ne_t hc)).mp h
          refine st_pass rfl rfl rfl rfl rfl rfl ?_
          refine st_pass rfl rfl rfl rfl rfl rfl ?_
          refine st_pass rfl rfl rfl rfl rfl rfl ?_
          refine o_pick rfl rfl rfl rfl rfl ?_
          refine o_assign rfl rfl rfl rfl ?_
          refine st_end ?_
          refine st_env (ρ' := [(4, .bool false)]) ⟨rfl, trivial⟩ ?_
          refine st_ord [] [] rfl ?_
          exact hk5 _ _ _ ⟨false, h, ((hl9.trans hl13).trans hl17), rfl, rfl⟩
      · replace h := (if_neg (ne_t hc)).mp h
        refine st_pass rfl rfl rfl rfl rfl rfl ?_
        refine st_pass rfl rfl rfl rfl rfl rfl ?_
        refine st_pass rfl rfl rfl rfl rfl rfl ?_
        refine st_pass rfl rfl rfl rfl rfl rfl ?_
        refine st_pass rfl rfl rfl rfl rfl rfl ?_
        refine o_pick rfl rfl rfl rfl rfl ?_
        refine o_move rfl rfl rfl rfl ?_
        refine st_pass rfl rfl rfl rfl rfl rfl ?_
        refine st_pass rfl rfl rfl rfl rfl rfl ?_
        refine st_pass rfl rfl rfl rfl rfl rfl ?_
        refine o_pick rfl rfl rfl rfl rfl ?_
        refine o_assign rfl rfl rfl rfl ?_
        refine st_end ?_
        refine st_env (ρ' := [(4, .bool false)]) ⟨rfl, trivial⟩ ?_
        refine st_ord [] [] rfl ?_
        exact hk5 _ _ _ ⟨false, h, (hl9.trans hl13), rfl, rfl⟩
    · replace h := (if_neg (ne_t hc)).mp h
      refine st_pass rfl rfl rfl rfl rfl rfl ?_
      refine st_pass rfl rfl rfl rfl rfl rfl ?_
      refine st_pass rfl rfl rfl rfl rfl rfl ?_
      refine st_pass rfl rfl rfl rfl rfl rfl ?_
      refine st_pass rfl rfl rfl rfl rfl rfl ?_
      refine o_pick rfl rfl rfl rfl rfl ?_
      refine o_move rfl rfl rfl rfl ?_
      refine st_pass rfl rfl rfl rfl rfl rfl ?_
      refine st_pass rfl rfl rfl rfl rfl rfl ?_
      refine st_pass rfl rfl rfl rfl rfl rfl ?_
      refine st_pass rfl rfl rfl rfl rfl rfl ?_
      refine st_pass rfl rfl rfl rfl rfl rfl ?_
      refine o_pick rfl rfl rfl rfl rfl ?_
      refine o_move rfl rfl rfl rfl ?_
      refine st_pass rfl rfl rfl rfl rfl rfl ?_
      refine st_pass rfl rfl rfl rfl rfl rfl ?_
      refine st_pass rfl rfl rfl rfl rfl rfl ?_
      refine o_pick rfl rfl rfl rfl rfl ?_
      refine o_assign rfl rfl rfl rfl ?_
      refine st_end ?_
      refine st_env (ρ' := [(4, .bool false)]) ⟨rfl, trivial⟩ ?_
      refine st_ord [] [] rfl ?_
      exact hk5 _ _ _ ⟨false, h, hl9, rfl, rfl⟩
  refine st_region ?_
  refine o_fieldAddr rfl rfl rfl z_field24_0 rfl ?_
  refine o_load (j := 1) (v := .int .i64 a0.1) rfl rfl rfl z_sc3 rfl rfl rfl ?_
  refine o_fieldAddr rfl rfl rfl z_field24_0 rfl ?_
  refine o_load (j := 0) (v := .int .i64 a1.1) rfl rfl rfl z_sc3 rfl rfl rfl ?_
  refine o_ibin (v := .bool (decide (a0.1 = a1.1))) rfl rfl rfl rfl rfl rfl ?_
  refine o_moveB rfl rfl rfl rfl (fun hc => ?_) (fun hc => ?_)
  · replace h := (if_pos hc).mp h
    refine o_fieldAddr rfl rfl rfl z_field24_1 rfl ?_
    refine o_load (j := 1) (v := .int .i64 a0.2.1) rfl rfl rfl z_sc3 rfl rfl rfl ?_
    refine o_fieldAddr rfl rfl rfl z_field24_1 rfl ?_
    refine o_load (j := 0) (v := .int .i64 a1.2.1) rfl rfl rfl z_sc3 rfl rfl rfl ?_
    refine o_ibin (v := .bool (decide (a0.2.1 = a1.2.1))) rfl rfl rfl rfl rfl rfl ?_
    refine o_pick rfl rfl rfl rfl rfl ?_
    refine o_moveB rfl rfl rfl rfl (fun hc => ?_) (fun hc => ?_)
    · replace h := (if_pos hc).mp h
      refine o_fieldAddr rfl rfl rfl z_field24_2 rfl ?_
      refine o_load (j := 1) (v := .int .u32 a0.2.2.1) rfl rfl rfl z_sc22 rfl rfl rfl ?_
      refine o_fieldAddr rfl rfl rfl z_field24_2 rfl ?_
      refine o_load (j := 0) (v := .int .u32 a1.2.2.1) rfl rfl rfl z_sc22 rfl rfl rfl ?_
      refine o_ibin (v := .bool (decide (a0.2.2.1 = a1.2.2.1))) rfl rfl rfl rfl rfl rfl ?_
      refine o_pick rfl rfl rfl rfl rfl ?_
      refine o_moveB rfl rfl rfl rfl (fun hc => ?_) (fun hc => ?_)
      · replace h := (if_pos hc).mp h
        refine o_fieldAddr rfl rfl rfl z_field24_4 rfl ?_
        refine o_load (j := 1) (v := .int .i64 a0.2.2.2.2) rfl rfl rfl z_sc3 rfl rfl rfl ?_
        refine o_fieldAddr rfl rfl rfl z_field24_4 rfl ?_
        refine o_load (j := 0) (v := .int .i64 a1.2.2.2.2) rfl rfl rfl z_sc3 rfl rfl rfl ?_
        refine o_ibin (v := .bool (decide (a0.2.2.2.2 = a1.2.2.2.2))) rfl rfl rfl rfl rfl rfl ?_
        refine o_pick rfl rfl rfl rfl rfl ?_
        refine o_assign rfl rfl rfl rfl ?_
        refine st_end ?_
        refine st_env (ρ' := [(2, .pointer (some ⟨b1, 0, none⟩)), (3, .pointer (some ⟨b2, 0, none⟩)), (4, .bool false), (5, .bool (decide (a0.2.2.2.2 = a1.2.2.2.2)))]) ⟨rfl, rfl, rfl, rfl, trivial⟩ ?_
        refine st_ord [1, 0] [[(b1, .cells [.int .i64 a0.1, .int .i64 a0.2.1, .int .u32 a0.2.2.1, .int .i64 a0.2.2.2.1, .int .i64 a0.2.2.2.2].toArray 24 (0, 0))], [(b2, .cells [.int .i64 a1.1, .int .i64 a1.2.1, .int .u32 a1.2.2.1, .int .i64 a1.2.2.2.1, .int .i64 a1.2.2.2.2].toArray 24 (0, 0))]] rfl ?_
        exact hk3 _ _ _ ⟨(decide (a0.2.2.2.2 = a1.2.2.2.2)), h, (Sto.Le.refl _), rfl, rfl⟩
      · replace h := (if_neg (ne_t hc)).mp h
        refine st_pass rfl rfl rfl rfl rfl rfl ?_
        refine st_pass rfl rfl rfl rfl rfl rfl ?_
        refine st_pass rfl rfl rfl rfl rfl rfl ?_
        refine st_pass rfl rfl rfl rfl rfl rfl ?_
        refine st_pass rfl rfl rfl rfl rfl rfl ?_
        refine o_pick rfl rfl rfl rfl rfl ?_
        refine o_assign rfl rfl rfl rfl ?_
        refine st_end ?_
        refine st_env (ρ' := [(2, .pointer (some ⟨b1, 0, none⟩)), (3, .pointer (some ⟨b2, 0, none⟩)), (4, .bool false), (5, .bool false)]) ⟨rfl, rfl, rfl, rfl, trivial⟩ ?_
        refine st_ord [1, 0] [[(b1, .cells [.int .i64 a0.1, .int .i64 a0.2.1, .int .u32 a0.2.2.1, .int .i64 a0.2.2.2.1, .int .i64 a0.2.2.2.2].toArray 24 (0, 0))], [(b2, .cells [.int .i64 a1.1, .int .i64 a1.2.1, .int .u32 a1.2.2.1, .int .i64 a1.2.2.2.1, .int .i64 a1.2.2.2.2].toArray 24 (0, 0))]] rfl ?_
        exact hk3 _ _ _ ⟨false, h, (Sto.Le.refl _), rfl, rfl⟩
    · replace h := (if_neg (ne_t hc)).mp h
      refine st_pass rfl rfl rfl rfl rfl rfl ?_
      refine st_pass rfl rfl rfl rfl rfl rfl ?_
      refine st_pass rfl rfl rfl rfl rfl rfl ?_
      refine st_pass rfl rfl rfl rfl rfl rfl ?_
      refine st_pass rfl rfl rfl rfl rfl rfl ?_
      refine o_pick rfl rfl rfl rfl rfl ?_
      refine o_move rfl rfl rfl rfl ?_
      refine st_pass rfl rfl rfl rfl rfl rfl ?_
      refine st_pass rfl rfl rfl rfl rfl rfl ?_
      refine st_pass rfl rfl rfl rfl rfl rfl ?_
      refine st_pass rfl rfl rfl rfl rfl rfl ?_
      refine st_pass rfl rfl rfl rfl rfl rfl ?_
      refine o_pick rfl rfl rfl rfl rfl ?_
      refine o_assign rfl rfl rfl rfl ?_
      refine st_end ?_
      refine st_env (ρ' := [(2, .pointer (some ⟨b1, 0, none⟩)), (3, .pointer (some ⟨b2, 0, none⟩)), (4, .bool false), (5, .bool false)]) ⟨rfl, rfl, rfl, rfl, trivial⟩ ?_
      refine st_ord [1, 0] [[(b1, .cells [.int .i64 a0.1, .int .i64 a0.2.1, .int .u32 a0.2.2.1, .int .i64 a0.2.2.2.1, .int .i64 a0.2.2.2.2].toArray 24 (0, 0))], [(b2, .cells [.int .i64 a1.1, .int .i64 a1.2.1, .int .u32 a1.2.2.1, .int .i64 a1.2.2.2.1, .int .i64 a1.2.2.2.2].toArray 24 (0, 0))]] rfl ?_
      exact hk3 _ _ _ ⟨false, h, (Sto.Le.refl _), rfl, rfl⟩
  · replace h := (if_neg (ne_t hc)).mp h
    refine st_pass rfl rfl rfl rfl rfl rfl ?_
    refine st_pass rfl rfl rfl rfl rfl rfl ?_
    refine st_pass rfl rfl rfl rfl rfl rfl ?_
    refine st_pass rfl rfl rfl rfl rfl rfl ?_
    refine st_pass rfl rfl rfl rfl rfl rfl ?_
    refine o_pick rfl rfl rfl rfl rfl ?_
    refine o_move rfl rfl rfl rfl ?_
    refine st_pass rfl rfl rfl rfl rfl rfl ?_
    refine st_pass rfl rfl rfl rfl rfl rfl ?_
    refine st_pass rfl rfl rfl rfl rfl rfl ?_
    refine st_pass rfl rfl rfl rfl rfl rfl ?_
    refine st_pass rfl rfl rfl rfl rfl rfl ?_
    refine o_pick rfl rfl rfl rfl rfl ?_
    refine o_move rfl rfl rfl rfl ?_
    refine st_pass rfl rfl rfl rfl rfl rfl ?_
    refine st_pass rfl rfl rfl rfl rfl rfl ?_
    refine st_pass rfl rfl rfl rfl rfl rfl ?_
    refine st_pass rfl rfl rfl rfl rfl rfl ?_
    refine st_pass rfl rfl rfl rfl rfl rfl ?_
    refine o_pick rfl rfl rfl rfl rfl ?_
    refine o_assign rfl rfl rfl rfl ?_
    refine st_end ?_
    refine st_env (ρ' := [(2, .pointer (some ⟨b1, 0, none⟩)), (3, .pointer (some ⟨b2, 0, none⟩)), (4, .bool false), (5, .bool false)]) ⟨rfl, rfl, rfl, rfl, trivial⟩ ?_
    refine st_ord [1, 0] [[(b1, .cells [.int .i64 a0.1, .int .i64 a0.2.1, .int .u32 a0.2.2.1, .int .i64 a0.2.2.2.1, .int .i64 a0.2.2.2.2].toArray 24 (0, 0))], [(b2, .cells [.int .i64 a1.1, .int .i64 a1.2.1, .int .u32 a1.2.2.1, .int .i64 a1.2.2.2.1, .int .i64 a1.2.2.2.2].toArray 24 (0, 0))]] rfl ?_
    exact hk3 _ _ _ ⟨false, h, (Sto.Le.refl _), rfl, rfl⟩
end Go.Rel
