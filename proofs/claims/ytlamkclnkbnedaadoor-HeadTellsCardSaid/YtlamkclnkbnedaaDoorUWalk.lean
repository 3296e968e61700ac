import Derived.Test.YtlamkclnkbnedaaDoorURel
import Derived.Test.YtlamkclnkbnedaaDoorUFacts
/-! The walks. -/
set_option linter.unusedVariables false
set_option linter.unusedSimpArgs false
set_option maxRecDepth 4000
namespace Go.Rel
open Go Go.Eng Go.Proofs
theorem head_wrong_1_ok {c0 : Int × Int × Int × Int × Int} {bc0 : Nat} {σ0 : Sto} (hc0_0 : Cel σ0 ⟨bc0, 0, none⟩ (.int .i64 c0.1)) (hc0_1 : Cel σ0 ⟨bc0, 1, none⟩ (.int .i64 c0.2.1)) (hc0_2 : Cel σ0 ⟨bc0, 2, none⟩ (.int .u32 c0.2.2.1)) (hc0_3 : Cel σ0 ⟨bc0, 3, none⟩ (.int .i64 c0.2.2.2.1)) (hc0_4 : Cel σ0 ⟨bc0, 4, none⟩ (.int .i64 c0.2.2.2.2)) :
    IterV Tryd.prog (fun _ x vx => vx = [.int .i64 x.1, .bool x.2]) (.func (.func 71) #[] [.pointer (some ⟨bc0, 0, none⟩)].toArray) σ0 [] (fun (_ : Unit) _ f => f = []) (head_wrong_1 c0) := by
  intro S Y I y hyc hyo hIm hY s s' o hR σ g hle hIg
  obtain ⟨r, hr0⟩ : ∃ r, r = (s', o) := ⟨_, rfl⟩
  rw [← hr0] at hR
  have h := hR
  refine callV_of (caps := [.pointer (some ⟨bc0, 0, none⟩)]) z_en71 ?_
  refine call_of Tryd.func71 Tryd.ntmps71 rfl rfl (fun cs fs => ?_)
  refine st_ord [0] [g] rfl ?_
  refine st_region ?_
  refine o_move rfl rfl rfl rfl ?_
  refine o_fieldAddr rfl rfl rfl z_field24_0 rfl ?_
  refine o_loadI (v := .int .i64 c0.1) rfl rfl rfl z_sc3 rfl (Cel.up hc0_0 hle) ?_
  refine o_ibin (v := .bool (decide (c0.1 < 1))) rfl rfl rfl rfl rfl rfl ?_
  refine o_moveB rfl rfl rfl rfl (fun hc => ?_) (fun hc => ?_)
  · replace h := (if_pos hc).mp h
    refine st_pass rfl rfl rfl rfl rfl rfl ?_
    refine st_pass rfl rfl rfl rfl rfl rfl ?_
    refine st_pass rfl rfl rfl rfl rfl rfl ?_
    refine o_pick rfl rfl rfl rfl rfl ?_
    obtain ⟨y1, u2, hy3, h⟩ := h
    refine st_call (foot := [g]) rfl rfl rfl rfl rfl rfl (hY (10, true) s _ _ _ _ _ (hle.trans (Sto.Le.refl _)) hy3 rfl hIg) ?_
    rintro vτ4 τ4 gsτ4 hl5 ⟨rfl, g6, rfl, hI7⟩
    refine o_moveB rfl rfl rfl rfl (fun hc => ?_) (fun hc => ?_)
    · replace h := (if_pos hc).mp h
      refine o_move rfl rfl rfl rfl ?_
      refine o_fieldAddr rfl rfl rfl z_field24_1 rfl ?_
      refine o_loadI (v := .int .i64 c0.2.1) rfl rfl rfl z_sc3 rfl (Cel.up hc0_1 (hle.trans hl5)) ?_
      refine o_ibin (v := .bool (decide (c0.2.1 < 1))) rfl rfl rfl rfl rfl rfl ?_
      refine o_moveB rfl rfl rfl rfl (fun hc => ?_) (fun hc => ?_)
      · replace h := (if_pos hc).mp h
        refine st_pass rfl rfl rfl rfl rfl rfl ?_
        refine st_pass rfl rfl rfl rfl rfl rfl ?_
        refine st_pass rfl rfl rfl rfl rfl rfl ?_
        refine o_pick rfl rfl rfl rfl rfl ?_
        obtain ⟨y8, u9, hy10, h⟩ := h
        refine st_call (foot := [g6]) rfl rfl rfl rfl rfl rfl (hY (9, true) u2 _ _ _ _ _ (hle.trans hl5) hy10 rfl hI7) ?_
        rintro vτ11 τ11 gsτ11 hl12 ⟨rfl, g13, rfl, hI14⟩
        refine o_pick rfl rfl rfl rfl rfl ?_
        refine o_moveB rfl rfl rfl rfl (fun hc => ?_) (fun hc => ?_)
        · replace h := (if_pos hc).mp h
          refine o_move rfl rfl rfl rfl ?_
          refine o_fieldAddr rfl rfl rfl z_field24_4 rfl ?_
          refine o_loadI (v := .int .i64 c0.2.2.2.2) rfl rfl rfl z_sc3 rfl (Cel.up hc0_4 ((hle.trans hl5).trans hl12)) ?_
          refine o_ibin (v := .bool (decide (c0.2.2.2.2 < 1))) rfl rfl rfl rfl rfl rfl ?_
          refine o_moveB rfl rfl rfl rfl (fun hc => ?_) (fun hc => ?_)
          · replace h := (if_pos hc).mp h
            refine st_pass rfl rfl rfl rfl rfl rfl ?_
            refine st_pass rfl rfl rfl rfl rfl rfl ?_
            refine st_pass rfl rfl rfl rfl rfl rfl ?_
            refine o_pick rfl rfl rfl rfl rfl ?_
            refine o_move rfl rfl rfl rfl ?_
            refine st_pass rfl rfl rfl rfl rfl rfl ?_
            refine st_pass rfl rfl rfl rfl rfl rfl ?_
            refine st_pass rfl rfl rfl rfl rfl rfl ?_
            refine o_pick rfl rfl rfl rfl rfl ?_
            refine o_move rfl rfl rfl rfl ?_
            refine st_pass rfl rfl rfl rfl rfl rfl ?_
            refine st_pass rfl rfl rfl rfl rfl rfl ?_
            refine st_pass rfl rfl rfl rfl rfl rfl ?_
            refine st_pass rfl rfl rfl rfl rfl rfl ?_
            refine st_pass rfl rfl rfl rfl rfl rfl ?_
            refine o_pick rfl rfl rfl rfl rfl ?_
            obtain ⟨y15, u16, hy17, h⟩ := h
            refine st_call (foot := [g13]) rfl rfl rfl rfl rfl rfl (hY (3, true) u9 _ _ _ _ _ (hle.trans (hl5.trans hl12)) hy17 rfl hI14) ?_
            rintro vτ18 τ18 gsτ18 hl19 ⟨rfl, g20, rfl, hI21⟩
            refine o_pick rfl rfl rfl rfl rfl ?_
            refine st_end ?_
            obtain rfl := Eq.symm h
            cases hr0
            exact st_fin (gs' := [g20, []]) Tryd.func71 rfl (by simp) ((hl5.trans hl12).trans hl19) ⟨g20, _, rfl, hI21, rfl⟩
          · replace h := (if_neg (ne_t hc)).mp h
            refine o_fieldAddr rfl rfl rfl z_field24_4 rfl ?_
            refine o_loadI (v := .int .i64 c0.2.2.2.2) rfl rfl rfl z_sc3 rfl (Cel.up hc0_4 ((hle.trans hl5).trans hl12)) ?_
            refine o_ibin (v := .bool (decide (255 < c0.2.2.2.2))) rfl rfl rfl rfl rfl rfl ?_
            refine o_pick rfl rfl rfl rfl rfl ?_
            refine o_moveB rfl rfl rfl rfl (fun hc => ?_) (fun hc => ?_)
            · replace h := (if_pos hc).mp h
              refine st_pass rfl rfl rfl rfl rfl rfl ?_
              refine st_pass rfl rfl rfl rfl rfl rfl ?_
              refine st_pass rfl rfl rfl rfl rfl rfl ?_
              refine o_pick rfl rfl rfl rfl rfl ?_
              refine o_move rfl rfl rfl rfl ?_
              refine st_pass rfl rfl rfl rfl rfl rfl ?_
              refine st_pass rfl rfl rfl rfl rfl rfl ?_
              refine st_pass rfl rfl rfl rfl rfl rfl ?_
              refine st_pass rfl rfl rfl rfl rfl rfl ?_
              refine st_pass rfl rfl rfl rfl rfl rfl ?_
              refine o_pick rfl rfl rfl rfl rfl ?_
              obtain ⟨y22, u23, hy24, h⟩ := h
              refine st_call (foot := [g13]) rfl rfl rfl rfl rfl rfl (hY (3, true) u9 _ _ _ _ _ (hle.trans (hl5.trans hl12)) hy24 rfl hI14) ?_
              rintro vτ25 τ25 gsτ25 hl26 ⟨rfl, g27, rfl, hI28⟩
              refine o_pick rfl rfl rfl rfl rfl ?_
              refine st_end ?_
              obtain rfl := Eq.symm h
              cases hr0
              exact st_fin (gs' := [g27, []]) Tryd.func71 rfl (by simp) ((hl5.trans hl12).trans hl26) ⟨g27, _, rfl, hI28, rfl⟩
            · replace h := (if_neg (ne_t hc)).mp h
              refine o_fieldAddr rfl rfl rfl z_field24_3 rfl ?_
              refine o_loadI (v := .int .i64 c0.2.2.2.1) rfl rfl rfl z_sc3 rfl (Cel.up hc0_3 ((hle.trans hl5).trans hl12)) ?_
              refine o_ibin (v := .bool (decide (c0.2.2.2.1 < 0))) rfl rfl rfl rfl rfl rfl ?_
              refine o_pick rfl rfl rfl rfl rfl ?_
              refine o_moveB rfl rfl rfl rfl (fun hc => ?_) (fun hc => ?_)
              · replace h := (if_pos hc).mp h
                refine st_pass rfl rfl rfl rfl rfl rfl ?_
                refine st_pass rfl rfl rfl rfl rfl rfl ?_
                refine st_pass rfl rfl rfl rfl rfl rfl ?_
                refine st_pass rfl rfl rfl rfl rfl rfl ?_
                refine st_pass rfl rfl rfl rfl rfl rfl ?_
                refine o_pick rfl rfl rfl rfl rfl ?_
                obtain ⟨y29, u30, hy31, h⟩ := h
                refine st_call (foot := [g13]) rfl rfl rfl rfl rfl rfl (hY (3, true) u9 _ _ _ _ _ (hle.trans (hl5.trans hl12)) hy31 rfl hI14) ?_
                rintro vτ32 τ32 gsτ32 hl33 ⟨rfl, g34, rfl, hI35⟩
                refine o_pick rfl rfl rfl rfl rfl ?_
                refine st_end ?_
                obtain rfl := Eq.symm h
                cases hr0
                exact st_fin (gs' := [g34, []]) Tryd.func71 rfl (by simp) ((hl5.trans hl12).trans hl33) ⟨g34, _, rfl, hI35, rfl⟩
              · replace h := (if_neg (ne_t hc)).mp h
                refine o_fieldAddr rfl rfl rfl z_field24_3 rfl ?_
                refine o_loadI (v := .int .i64 c0.2.2.2.1) rfl rfl rfl z_sc3 rfl (Cel.up hc0_3 ((hle.trans hl5).trans hl12)) ?_
                refine o_fieldAddr rfl rfl rfl z_field24_4 rfl ?_
                refine o_loadI (v := .int .i64 c0.2.2.2.2) rfl rfl rfl z_sc3 rfl (Cel.up hc0_4 ((hle.trans hl5).trans hl12)) ?_
                refine o_ibin (v := .bool (decide (c0.2.2.2.2 ≤ c0.2.2.2.1))) rfl rfl rfl rfl rfl rfl ?_
                refine o_pick rfl rfl rfl rfl rfl ?_
                obtain ⟨y36, u37, hy38, h⟩ := h
                refine st_call (foot := [g13]) rfl rfl rfl rfl rfl rfl (hY (3, (decide (c0.2.2.2.2 ≤ c0.2.2.2.1))) u9 _ _ _ _ _ (hle.trans (hl5.trans hl12)) hy38 rfl hI14) ?_
                rintro vτ39 τ39 gsτ39 hl40 ⟨rfl, g41, rfl, hI42⟩
                refine o_pick rfl rfl rfl rfl rfl ?_
                refine st_end ?_
                obtain rfl := Eq.symm h
                cases hr0
                exact st_fin (gs' := [g41, []]) Tryd.func71 rfl (by simp) ((hl5.trans hl12).trans hl40) ⟨g41, _, rfl, hI42, rfl⟩
        · replace h := (if_neg (ne_t hc)).mp h
          refine st_pass rfl rfl rfl rfl rfl rfl ?_
          refine st_pass rfl rfl rfl rfl rfl rfl ?_
          refine st_pass rfl rfl rfl rfl rfl rfl ?_
          refine st_pass rfl rfl rfl rfl rfl rfl ?_
          refine st_pass rfl rfl rfl rfl rfl rfl ?_
          refine st_passU rfl rfl rfl rfl rfl ?_
          refine st_passU rfl rfl rfl rfl rfl ?_
          refine st_passU rfl rfl rfl rfl rfl ?_
          refine st_pass rfl rfl rfl rfl rfl rfl ?_
          refine st_pass rfl rfl rfl rfl rfl rfl ?_
          refine st_passU rfl rfl rfl rfl rfl ?_
          refine st_passU rfl rfl rfl rfl rfl ?_
          refine st_passU rfl rfl rfl rfl rfl ?_
          refine st_pass rfl rfl rfl rfl rfl rfl ?_
          refine st_pass rfl rfl rfl rfl rfl rfl ?_
          refine st_passU rfl rfl rfl rfl rfl ?_
          refine st_passU rfl rfl rfl rfl rfl ?_
          refine st_passU rfl rfl rfl rfl rfl ?_
          refine st_passU rfl rfl rfl rfl rfl ?_
          refine st_passU rfl rfl rfl rfl rfl ?_
          refine st_pass rfl rfl rfl rfl rfl rfl ?_
          refine st_pass rfl rfl rfl rfl rfl rfl ?_
          refine o_pick rfl rfl rfl rfl rfl ?_
          refine st_end ?_
          obtain rfl := Eq.symm h
          cases hr0
          exact st_fin (gs' := [g13, []]) Tryd.func71 rfl (by simp) (hl5.trans hl12) ⟨g13, _, rfl, hI14, rfl⟩
      · replace h := (if_neg (ne_t hc)).mp h
        refine o_fieldAddr rfl rfl rfl z_field24_1 rfl ?_
        refine o_loadI (v := .int .i64 c0.2.1) rfl rfl rfl z_sc3 rfl (Cel.up hc0_1 (hle.trans hl5)) ?_
        refine o_ibin (v := .bool (decide (5 < c0.2.1))) rfl rfl rfl rfl rfl rfl ?_
        refine o_pick rfl rfl rfl rfl rfl ?_
        obtain ⟨y43, u44, hy45, h⟩ := h
        refine st_call (foot := [g6]) rfl rfl rfl rfl rfl rfl (hY (9, (decide (5 < c0.2.1))) u2 _ _ _ _ _ (hle.trans hl5) hy45 rfl hI7) ?_
        rintro vτ46 τ46 gsτ46 hl47 ⟨rfl, g48, rfl, hI49⟩
        refine o_pick rfl rfl rfl rfl rfl ?_
        refine o_moveB rfl rfl rfl rfl (fun hc => ?_) (fun hc => ?_)
        · replace h := (if_pos hc).mp h
          refine o_move rfl rfl rfl rfl ?_
          refine o_fieldAddr rfl rfl rfl z_field24_4 rfl ?_
          refine o_loadI (v := .int .i64 c0.2.2.2.2) rfl rfl rfl z_sc3 rfl (Cel.up hc0_4 ((hle.trans hl5).trans hl47)) ?_
          refine o_ibin (v := .bool (decide (c0.2.2.2.2 < 1))) rfl rfl rfl rfl rfl rfl ?_
          refine o_moveB rfl rfl rfl rfl (fun hc => ?_) (fun hc => ?_)
          · replace h := (if_pos hc).mp h
            refine st_pass rfl rfl rfl rfl rfl rfl ?_
            refine st_pass rfl rfl rfl rfl rfl rfl ?_
            refine st_pass rfl rfl rfl rfl rfl rfl ?_
            refine o_pick rfl rfl rfl rfl rfl ?_
            refine o_move rfl rfl rfl rfl ?_
            refine st_pass rfl rfl rfl rfl rfl rfl ?_
            refine st_pass rfl rfl rfl rfl rfl rfl ?_
            refine st_pass rfl rfl rfl rfl rfl rfl ?_
            refine o_pick rfl rfl rfl rfl rfl ?_
            refine o_move rfl rfl rfl rfl ?_
            refine st_pass rfl rfl rfl rfl rfl rfl ?_
            refine st_pass rfl rfl rfl rfl rfl rfl ?_
            refine st_pass rfl rfl rfl rfl rfl rfl ?_
            refine st_pass rfl rfl rfl rfl rfl rfl ?_
            refine st_pass rfl rfl rfl rfl rfl rfl ?_
            refine o_pick rfl rfl rfl rfl rfl ?_
            obtain ⟨y50, u51, hy52, h⟩ := h
            refine st_call (foot := [g48]) rfl rfl rfl rfl rfl rfl (hY (3, true) u44 _ _ _ _ _ (hle.trans (hl5.trans hl47)) hy52 rfl hI49) ?_
            rintro vτ53 τ53 gsτ53 hl54 ⟨rfl, g55, rfl, hI56⟩
            refine o_pick rfl rfl rfl rfl rfl ?_
            refine st_end ?_
            obtain rfl := Eq.symm h
            cases hr0
            exact st_fin (gs' := [g55, []]) Tryd.func71 rfl (by simp) ((hl5.trans hl47).trans hl54) ⟨g55, _, rfl, hI56, rfl⟩
          · replace h := (if_neg (ne_t hc)).mp h
            refine o_fieldAddr rfl rfl rfl z_field24_4 rfl ?_
            refine o_loadI (v := .int .i64 c0.2.2.2.2) rfl rfl rfl z_sc3 rfl (Cel.up hc0_4 ((hle.trans hl5).trans hl47)) ?_
            refine o_ibin (v := .bool (decide (255 < c0.2.2.2.2))) rfl rfl rfl rfl rfl rfl ?_
            refine o_pick rfl rfl rfl rfl rfl ?_
            refine o_moveB rfl rfl rfl rfl (fun hc => ?_) (fun hc => ?_)
            · replace h := (if_pos hc).mp h
              refine st_pass rfl rfl rfl rfl rfl rfl ?_
              refine st_pass rfl rfl rfl rfl rfl rfl ?_
              refine st_pass rfl rfl rfl rfl rfl rfl ?_
              refine o_pick rfl rfl rfl rfl rfl ?_
              refine o_move rfl rfl rfl rfl ?_
              refine st_pass rfl rfl rfl rfl rfl rfl ?_
              refine st_pass rfl rfl rfl rfl rfl rfl ?_
              refine st_pass rfl rfl rfl rfl rfl rfl ?_
              refine st_pass rfl rfl rfl rfl rfl rfl ?_
              refine st_pass rfl rfl rfl rfl rfl rfl ?_
              refine o_pick rfl rfl rfl rfl rfl ?_
              obtain ⟨y57, u58, hy59, h⟩ := h
              refine st_call (foot := [g48]) rfl rfl rfl rfl rfl rfl (hY (3, true) u44 _ _ _ _ _ (hle.trans (hl5.trans hl47)) hy59 rfl hI49) ?_
              rintro vτ60 τ60 gsτ60 hl61 ⟨rfl, g62, rfl, hI63⟩
              refine o_pick rfl rfl rfl rfl rfl ?_
              refine st_end ?_
              obtain rfl := Eq.symm h
              cases hr0
              exact st_fin (gs' := [g62, []]) Tryd.func71 rfl (by simp) ((hl5.trans hl47).trans hl61) ⟨g62, _, rfl, hI63, rfl⟩
            · replace h := (if_neg (ne_t hc)).mp h
              refine o_fieldAddr rfl rfl rfl z_field24_3 rfl ?_
              refine o_loadI (v := .int .i64 c0.2.2.2.1) rfl rfl rfl z_sc3 rfl (Cel.up hc0_3 ((hle.trans hl5).trans hl47)) ?_
              refine o_ibin (v := .bool (decide (c0.2.2.2.1 < 0))) rfl rfl rfl rfl rfl rfl ?_
              refine o_pick rfl rfl rfl rfl rfl ?_
              refine o_moveB rfl rfl rfl rfl (fun hc => ?_) (fun hc => ?_)
              · replace h := (if_pos hc).mp h
                refine st_pass rfl rfl rfl rfl rfl rfl ?_
                refine st_pass rfl rfl rfl rfl rfl rfl ?_
                refine st_pass rfl rfl rfl rfl rfl rfl ?_
                refine st_pass rfl rfl rfl rfl rfl rfl ?_
                refine st_pass rfl rfl rfl rfl rfl rfl ?_
                refine o_pick rfl rfl rfl rfl rfl ?_
                obtain ⟨y64, u65, hy66, h⟩ := h
                refine st_call (foot := [g48]) rfl rfl rfl rfl rfl rfl (hY (3, true) u44 _ _ _ _ _ (hle.trans (hl5.trans hl47)) hy66 rfl hI49) ?_
                rintro vτ67 τ67 gsτ67 hl68 ⟨rfl, g69, rfl, hI70⟩
                refine o_pick rfl rfl rfl rfl rfl ?_
                refine st_end ?_
                obtain rfl := Eq.symm h
                cases hr0
                exact st_fin (gs' := [g69, []]) Tryd.func71 rfl (by simp) ((hl5.trans hl47).trans hl68) ⟨g69, _, rfl, hI70, rfl⟩
              · replace h := (if_neg (ne_t hc)).mp h
                refine o_fieldAddr rfl rfl rfl z_field24_3 rfl ?_
                refine o_loadI (v := .int .i64 c0.2.2.2.1) rfl rfl rfl z_sc3 rfl (Cel.up hc0_3 ((hle.trans hl5).trans hl47)) ?_
                refine o_fieldAddr rfl rfl rfl z_field24_4 rfl ?_
                refine o_loadI (v := .int .i64 c0.2.2.2.2) rfl rfl rfl z_sc3 rfl (Cel.up hc0_4 ((hle.trans hl5).trans hl47)) ?_
                refine o_ibin (v := .bool (decide (c0.2.2.2.2 ≤ c0.2.2.2.1))) rfl rfl rfl rfl rfl rfl ?_
                refine o_pick rfl rfl rfl rfl rfl ?_
                obtain ⟨y71, u72, hy73, h⟩ := h
                refine st_call (foot := [g48]) rfl rfl rfl rfl rfl rfl (hY (3, (decide (c0.2.2.2.2 ≤ c0.2.2.2.1))) u44 _ _ _ _ _ (hle.trans (hl5.trans hl47)) hy73 rfl hI49) ?_
                rintro vτ74 τ74 gsτ74 hl75 ⟨rfl, g76, rfl, hI77⟩
                refine o_pick rfl rfl rfl rfl rfl ?_
                refine st_end ?_
                obtain rfl := Eq.symm h
                cases hr0
                exact st_fin (gs' := [g76, []]) Tryd.func71 rfl (by simp) ((hl5.trans hl47).trans hl75) ⟨g76, _, rfl, hI77, rfl⟩
        · replace h := (if_neg (ne_t hc)).mp h
          refine st_pass rfl rfl rfl rfl rfl rfl ?_
          refine st_pass rfl rfl rfl rfl rfl rfl ?_
          refine st_pass rfl rfl rfl rfl rfl rfl ?_
          refine st_pass rfl rfl rfl rfl rfl rfl ?_
          refine st_pass rfl rfl rfl rfl rfl rfl ?_
          refine st_passU rfl rfl rfl rfl rfl ?_
          refine st_passU rfl rfl rfl rfl rfl ?_
          refine st_passU rfl rfl rfl rfl rfl ?_
          refine st_pass rfl rfl rfl rfl rfl rfl ?_
          refine st_pass rfl rfl rfl rfl rfl rfl ?_
          refine st_passU rfl rfl rfl rfl rfl ?_
          refine st_passU rfl rfl rfl rfl rfl ?_
          refine st_passU rfl rfl rfl rfl rfl ?_
          refine st_pass rfl rfl rfl rfl rfl rfl ?_
          refine st_pass rfl rfl rfl rfl rfl rfl ?_
          refine st_passU rfl rfl rfl rfl rfl ?_
          refine st_passU rfl rfl rfl rfl rfl ?_
          refine st_passU rfl rfl rfl rfl rfl ?_
          refine st_passU rfl rfl rfl rfl rfl ?_
          refine st_passU rfl rfl rfl rfl rfl ?_
          refine st_pass rfl rfl rfl rfl rfl rfl ?_
          refine st_pass rfl rfl rfl rfl rfl rfl ?_
          refine o_pick rfl rfl rfl rfl rfl ?_
          refine st_end ?_
          obtain rfl := Eq.symm h
          cases hr0
          exact st_fin (gs' := [g48, []]) Tryd.func71 rfl (by simp) (hl5.trans hl47) ⟨g48, _, rfl, hI49, rfl⟩
    · replace h := (if_neg (ne_t hc)).mp h
      refine st_pass rfl rfl rfl rfl rfl rfl ?_
      refine st_pass rfl rfl rfl rfl rfl rfl ?_
      refine st_pass rfl rfl rfl rfl rfl rfl ?_
      refine st_pass rfl rfl rfl rfl rfl rfl ?_
      refine st_pass rfl rfl rfl rfl rfl rfl ?_
      refine st_passU rfl rfl rfl rfl rfl ?_
      refine st_passU rfl rfl rfl rfl rfl ?_
      refine st_passU rfl rfl rfl rfl rfl ?_
      refine st_pass rfl rfl rfl rfl rfl rfl ?_
      refine st_pass rfl rfl rfl rfl rfl rfl ?_
      refine o_pick rfl rfl rfl rfl rfl ?_
      refine o_move rfl rfl rfl rfl ?_
      refine st_pass rfl rfl rfl rfl rfl rfl ?_
      refine st_pass rfl rfl rfl rfl rfl rfl ?_
      refine st_pass rfl rfl rfl rfl rfl rfl ?_
      refine st_pass rfl rfl rfl rfl rfl rfl ?_
      refine st_pass rfl rfl rfl rfl rfl rfl ?_
      refine st_passU rfl rfl rfl rfl rfl ?_
      refine st_passU rfl rfl rfl rfl rfl ?_
      refine st_passU rfl rfl rfl rfl rfl ?_
      refine st_pass rfl rfl rfl rfl rfl rfl ?_
      refine st_pass rfl rfl rfl rfl rfl rfl ?_
      refine st_passU rfl rfl rfl rfl rfl ?_
      refine st_passU rfl rfl rfl rfl rfl ?_
      refine st_passU rfl rfl rfl rfl rfl ?_
      refine st_pass rfl rfl rfl rfl rfl rfl ?_
      refine st_pass rfl rfl rfl rfl rfl rfl ?_
      refine st_passU rfl rfl rfl rfl rfl ?_
      refine st_passU rfl rfl rfl rfl rfl ?_
      refine st_passU rfl rfl rfl rfl rfl ?_
      refine st_passU rfl rfl rfl rfl rfl ?_
      refine st_passU rfl rfl rfl rfl rfl ?_
      refine st_pass rfl rfl rfl rfl rfl rfl ?_
      refine st_pass rfl rfl rfl rfl rfl rfl ?_
      refine o_pick rfl rfl rfl rfl rfl ?_
      refine st_end ?_
      obtain rfl := Eq.symm h
      cases hr0
      exact st_fin (gs' := [g6, []]) Tryd.func71 rfl (by simp) hl5 ⟨g6, _, rfl, hI7, rfl⟩
  · replace h := (if_neg (ne_t hc)).mp h
    refine o_fieldAddr rfl rfl rfl z_field24_0 rfl ?_
    refine o_loadI (v := .int .i64 c0.1) rfl rfl rfl z_sc3 rfl (Cel.up hc0_0 hle) ?_
    refine o_ibin (v := .bool (decide (2 < c0.1))) rfl rfl rfl rfl rfl rfl ?_
    refine o_pick rfl rfl rfl rfl rfl ?_
    obtain ⟨y78, u79, hy80, h⟩ := h
    refine st_call (foot := [g]) rfl rfl rfl rfl rfl rfl (hY (10, (decide (2 < c0.1))) s _ _ _ _ _ (hle.trans (Sto.Le.refl _)) hy80 rfl hIg) ?_
    rintro vτ81 τ81 gsτ81 hl82 ⟨rfl, g83, rfl, hI84⟩
    refine o_moveB rfl rfl rfl rfl (fun hc => ?_) (fun hc => ?_)
    · replace h := (if_pos hc).mp h
      refine o_move rfl rfl rfl rfl ?_
      refine o_fieldAddr rfl rfl rfl z_field24_1 rfl ?_
      refine o_loadI (v := .int .i64 c0.2.1) rfl rfl rfl z_sc3 rfl (Cel.up hc0_1 (hle.trans hl82)) ?_
      refine o_ibin (v := .bool (decide (c0.2.1 < 1))) rfl rfl rfl rfl rfl rfl ?_
      refine o_moveB rfl rfl rfl rfl (fun hc => ?_) (fun hc => ?_)
      · replace h := (if_pos hc).mp h
        refine st_pass rfl rfl rfl rfl rfl rfl ?_
        refine st_pass rfl rfl rfl rfl rfl rfl ?_
        refine st_pass rfl rfl rfl rfl rfl rfl ?_
        refine o_pick rfl rfl rfl rfl rfl ?_
        obtain ⟨y85, u86, hy87, h⟩ := h
        refine st_call (foot := [g83]) rfl rfl rfl rfl rfl rfl (hY (9, true) u79 _ _ _ _ _ (hle.trans hl82) hy87 rfl hI84) ?_
        rintro vτ88 τ88 gsτ88 hl89 ⟨rfl, g90, rfl, hI91⟩
        refine o_pick rfl rfl rfl rfl rfl ?_
        refine o_moveB rfl rfl rfl rfl (fun hc => ?_) (fun hc => ?_)
        · replace h := (if_pos hc).mp h
          refine o_move rfl rfl rfl rfl ?_
          refine o_fieldAddr rfl rfl rfl z_field24_4 rfl ?_
          refine o_loadI (v := .int .i64 c0.2.2.2.2) rfl rfl rfl z_sc3 rfl (Cel.up hc0_4 ((hle.trans hl82).trans hl89)) ?_
          refine o_ibin (v := .bool (decide (c0.2.2.2.2 < 1))) rfl rfl rfl rfl rfl rfl ?_
          refine o_moveB rfl rfl rfl rfl (fun hc => ?_) (fun hc => ?_)
          · replace h := (if_pos hc).mp h
            refine st_pass rfl rfl rfl rfl rfl rfl ?_
            refine st_pass rfl rfl rfl rfl rfl rfl ?_
            refine st_pass rfl rfl rfl rfl rfl rfl ?_
            refine o_pick rfl rfl rfl rfl rfl ?_
            refine o_move rfl rfl rfl rfl ?_
            refine st_pass rfl rfl rfl rfl rfl rfl ?_
            refine st_pass rfl rfl rfl rfl rfl rfl ?_
            refine st_pass rfl rfl rfl rfl rfl rfl ?_
            refine o_pick rfl rfl rfl rfl rfl ?_
            refine o_move rfl rfl rfl rfl ?_
            refine st_pass rfl rfl rfl rfl rfl rfl ?_
            refine st_pass rfl rfl rfl rfl rfl rfl ?_
            refine st_pass rfl rfl rfl rfl rfl rfl ?_
            refine st_pass rfl rfl rfl rfl rfl rfl ?_
            refine st_pass rfl rfl rfl rfl rfl rfl ?_
            refine o_pick rfl rfl rfl rfl rfl ?_
            obtain ⟨y92, u93, hy94, h⟩ := h
            refine st_call (foot := [g90]) rfl rfl rfl rfl rfl rfl (hY (3, true) u86 _ _ _ _ _ (hle.trans (hl82.trans hl89)) hy94 rfl hI91) ?_
            rintro vτ95 τ95 gsτ95 hl96 ⟨rfl, g97, rfl, hI98⟩
            refine o_pick rfl rfl rfl rfl rfl ?_
            refine st_end ?_
            obtain rfl := Eq.symm h
            cases hr0
            exact st_fin (gs' := [g97, []]) Tryd.func71 rfl (by simp) ((hl82.trans hl89).trans hl96) ⟨g97, _, rfl, hI98, rfl⟩
          · replace h := (if_neg (ne_t hc)).mp h
            refine o_fieldAddr rfl rfl rfl z_field24_4 rfl ?_
            refine o_loadI (v := .int .i64 c0.2.2.2.2) rfl rfl rfl z_sc3 rfl (Cel.up hc0_4 ((hle.trans hl82).trans hl89)) ?_
            refine o_ibin (v := .bool (decide (255 < c0.2.2.2.2))) rfl rfl rfl rfl rfl rfl ?_
            refine o_pick rfl rfl rfl rfl rfl ?_
            refine o_moveB rfl rfl rfl rfl (fun hc => ?_) (fun hc => ?_)
            · replace h := (if_pos hc).mp h
              refine st_pass rfl rfl rfl rfl rfl rfl ?_
              refine st_pass rfl rfl rfl rfl rfl rfl ?_
              refine st_pass rfl rfl rfl rfl rfl rfl ?_
              refine o_pick rfl rfl rfl rfl rfl ?_
              refine o_move rfl rfl rfl rfl ?_
              refine st_pass rfl rfl rfl rfl rfl rfl ?_
              refine st_pass rfl rfl rfl rfl rfl rfl ?_
              refine st_pass rfl rfl rfl rfl rfl rfl ?_
              refine st_pass rfl rfl rfl rfl rfl rfl ?_
              refine st_pass rfl rfl rfl rfl rfl rfl ?_
              refine o_pick rfl rfl rfl rfl rfl ?_
              obtain ⟨y99, u100, hy101, h⟩ := h
              refine st_call (foot := [g90]) rfl rfl rfl rfl rfl rfl (hY (3, true) u86 _ _ _ _ _ (hle.trans (hl82.trans hl89)) hy101 rfl hI91) ?_
              rintro vτ102 τ102 gsτ102 hl103 ⟨rfl, g104, rfl, hI105⟩
              refine o_pick rfl rfl rfl rfl rfl ?_
              refine st_end ?_
              obtain rfl := Eq.symm h
              cases hr0
              exact st_fin (gs' := [g104, []]) Tryd.func71 rfl (by simp) ((hl82.trans hl89).trans hl103) ⟨g104, _, rfl, hI105, rfl⟩
            · replace h := (if_neg (ne_t hc)).mp h
              refine o_fieldAddr rfl rfl rfl z_field24_3 rfl ?_
              refine o_loadI (v := .int .i64 c0.2.2.2.1) rfl rfl rfl z_sc3 rfl (Cel.up hc0_3 ((hle.trans hl82).trans hl89)) ?_
              refine o_ibin (v := .bool (decide (c0.2.2.2.1 < 0))) rfl rfl rfl rfl rfl rfl ?_
              refine o_pick rfl rfl rfl rfl rfl ?_
              refine o_moveB rfl rfl rfl rfl (fun hc => ?_) (fun hc => ?_)
              · replace h := (if_pos hc).mp h
                refine st_pass rfl rfl rfl rfl rfl rfl ?_
                refine st_pass rfl rfl rfl rfl rfl rfl ?_
                refine st_pass rfl rfl rfl rfl rfl rfl ?_
                refine st_pass rfl rfl rfl rfl rfl rfl ?_
                refine st_pass rfl rfl rfl rfl rfl rfl ?_
                refine o_pick rfl rfl rfl rfl rfl ?_
                obtain ⟨y106, u107, hy108, h⟩ := h
                refine st_call (foot := [g90]) rfl rfl rfl rfl rfl rfl (hY (3, true) u86 _ _ _ _ _ (hle.trans (hl82.trans hl89)) hy108 rfl hI91) ?_
                rintro vτ109 τ109 gsτ109 hl110 ⟨rfl, g111, rfl, hI112⟩
                refine o_pick rfl rfl rfl rfl rfl ?_
                refine st_end ?_
                obtain rfl := Eq.symm h
                cases hr0
                exact st_fin (gs' := [g111, []]) Tryd.func71 rfl (by simp) ((hl82.trans hl89).trans hl110) ⟨g111, _, rfl, hI112, rfl⟩
              · replace h := (if_neg (ne_t hc)).mp h
                refine o_fieldAddr rfl rfl rfl z_field24_3 rfl ?_
                refine o_loadI (v := .int .i64 c0.2.2.2.1) rfl rfl rfl z_sc3 rfl (Cel.up hc0_3 ((hle.trans hl82).trans hl89)) ?_
                refine o_fieldAddr rfl rfl rfl z_field24_4 rfl ?_
                refine o_loadI (v := .int .i64 c0.2.2.2.2) rfl rfl rfl z_sc3 rfl (Cel.up hc0_4 ((hle.trans hl82).trans hl89)) ?_
                refine o_ibin (v := .bool (decide (c0.2.2.2.2 ≤ c0.2.2.2.1))) rfl rfl rfl rfl rfl rfl ?_
                refine o_pick rfl rfl rfl rfl rfl ?_
                obtain ⟨y113, u114, hy115, h⟩ := h
                refine st_call (foot := [g90]) rfl rfl rfl rfl rfl rfl (hY (3, (decide (c0.2.2.2.2 ≤ c0.2.2.2.1))) u86 _ _ _ _ _ (hle.trans (hl82.trans hl89)) hy115 rfl hI91) ?_
                rintro vτ116 τ116 gsτ116 hl117 ⟨rfl, g118, rfl, hI119⟩
                refine o_pick rfl rfl rfl rfl rfl ?_
                refine st_end ?_
                obtain rfl := Eq.symm h
                cases hr0
                exact st_fin (gs' := [g118, []]) Tryd.func71 rfl (by simp) ((hl82.trans hl89).trans hl117) ⟨g118, _, rfl, hI119, rfl⟩
        · replace h := (if_neg (ne_t hc)).mp h
          refine st_pass rfl rfl rfl rfl rfl rfl ?_
          refine st_pass rfl rfl rfl rfl rfl rfl ?_
          refine st_pass rfl rfl rfl rfl rfl rfl ?_
          refine st_pass rfl rfl rfl rfl rfl rfl ?_
          refine st_pass rfl rfl rfl rfl rfl rfl ?_
          refine st_passU rfl rfl rfl rfl rfl ?_
          refine st_passU rfl rfl rfl rfl rfl ?_
          refine st_passU rfl rfl rfl rfl rfl ?_
          refine st_pass rfl rfl rfl rfl rfl rfl ?_
          refine st_pass rfl rfl rfl rfl rfl rfl ?_
          refine st_passU rfl rfl rfl rfl rfl ?_
          refine st_passU rfl rfl rfl rfl rfl ?_
          refine st_passU rfl rfl rfl rfl rfl ?_
          refine st_pass rfl rfl rfl rfl rfl rfl ?_
          refine st_pass rfl rfl rfl rfl rfl rfl ?_
          refine st_passU rfl rfl rfl rfl rfl ?_
          refine st_passU rfl rfl rfl rfl rfl ?_
          refine st_passU rfl rfl rfl rfl rfl ?_
          refine st_passU rfl rfl rfl rfl rfl ?_
          refine st_passU rfl rfl rfl rfl rfl ?_
          refine st_pass rfl rfl rfl rfl rfl rfl ?_
          refine st_pass rfl rfl rfl rfl rfl rfl ?_
          refine o_pick rfl rfl rfl rfl rfl ?_
          refine st_end ?_
          obtain rfl := Eq.symm h
          cases hr0
          exact st_fin (gs' := [g90, []]) Tryd.func71 rfl (by simp) (hl82.trans hl89) ⟨g90, _, rfl, hI91, rfl⟩
      · replace h := (if_neg (ne_t hc)).mp h
        refine o_fieldAddr rfl rfl rfl z_field24_1 rfl ?_
        refine o_loadI (v := .int .i64 c0.2.1) rfl rfl rfl z_sc3 rfl (Cel.up hc0_1 (hle.trans hl82)) ?_
        refine o_ibin (v := .bool (decide (5 < c0.2.1))) rfl rfl rfl rfl rfl rfl ?_
        refine o_pick rfl rfl rfl rfl rfl ?_
        obtain ⟨y120, u121, hy122, h⟩ := h
        refine st_call (foot := [g83]) rfl rfl rfl rfl rfl rfl (hY (9, (decide (5 < c0.2.1))) u79 _ _ _ _ _ (hle.trans hl82) hy122 rfl hI84) ?_
        rintro vτ123 τ123 gsτ123 hl124 ⟨rfl, g125, rfl, hI126⟩
        refine o_pick rfl rfl rfl rfl rfl ?_
        refine o_moveB rfl rfl rfl rfl (fun hc => ?_) (fun hc => ?_)
        · replace h := (if_pos hc).mp h
          refine o_move rfl rfl rfl rfl ?_
          refine o_fieldAddr rfl rfl rfl z_field24_4 rfl ?_
          refine o_loadI (v := .int .i64 c0.2.2.2.2) rfl rfl rfl z_sc3 rfl (Cel.up hc0_4 ((hle.trans hl82).trans hl124)) ?_
          refine o_ibin (v := .bool (decide (c0.2.2.2.2 < 1))) rfl rfl rfl rfl rfl rfl ?_
          refine o_moveB rfl rfl rfl rfl (fun hc => ?_) (fun hc => ?_)
          · replace h := (if_pos hc).mp h
            refine st_pass rfl rfl rfl rfl rfl rfl ?_
            refine st_pass rfl rfl rfl rfl rfl rfl ?_
            refine st_pass rfl rfl rfl rfl rfl rfl ?_
            refine o_pick rfl rfl rfl rfl rfl ?_
            refine o_move rfl rfl rfl rfl ?_
            refine st_pass rfl rfl rfl rfl rfl rfl ?_
            refine st_pass rfl rfl rfl rfl rfl rfl ?_
            refine st_pass rfl rfl rfl rfl rfl rfl ?_
            refine o_pick rfl rfl rfl rfl rfl ?_
            refine o_move rfl rfl rfl rfl ?_
            refine st_pass rfl rfl rfl rfl rfl rfl ?_
            refine st_pass rfl rfl rfl rfl rfl rfl ?_
            refine st_pass rfl rfl rfl rfl rfl rfl ?_
            refine st_pass rfl rfl rfl rfl rfl rfl ?_
            refine st_pass rfl rfl rfl rfl rfl rfl ?_
            refine o_pick rfl rfl rfl rfl rfl ?_
            obtain ⟨y127, u128, hy129, h⟩ := h
            refine st_call (foot := [g125]) rfl rfl rfl rfl rfl rfl (hY (3, true) u121 _ _ _ _ _ (hle.trans (hl82.trans hl124)) hy129 rfl hI126) ?_
            rintro vτ130 τ130 gsτ130 hl131 ⟨rfl, g132, rfl, hI133⟩
            refine o_pick rfl rfl rfl rfl rfl ?_
            refine st_end ?_
            obtain rfl := Eq.symm h
            cases hr0
            exact st_fin (gs' := [g132, []]) Tryd.func71 rfl (by simp) ((hl82.trans hl124).trans hl131) ⟨g132, _, rfl, hI133, rfl⟩
          · replace h := (if_neg (ne_t hc)).mp h
            refine o_fieldAddr rfl rfl rfl z_field24_4 rfl ?_
            refine o_loadI (v := .int .i64 c0.2.2.2.2) rfl rfl rfl z_sc3 rfl (Cel.up hc0_4 ((hle.trans hl82).trans hl124)) ?_
            refine o_ibin (v := .bool (decide (255 < c0.2.2.2.2))) rfl rfl rfl rfl rfl rfl ?_
            refine o_pick rfl rfl rfl rfl rfl ?_
            refine o_moveB rfl rfl rfl rfl (fun hc => ?_) (fun hc => ?_)
            · replace h := (if_pos hc).mp h
              refine st_pass rfl rfl rfl rfl rfl rfl ?_
              refine st_pass rfl rfl rfl rfl rfl rfl ?_
              refine st_pass rfl rfl rfl rfl rfl rfl ?_
              refine o_pick rfl rfl rfl rfl rfl ?_
              refine o_move rfl rfl rfl rfl ?_
              refine st_pass rfl rfl rfl rfl rfl rfl ?_
              refine st_pass rfl rfl rfl rfl rfl rfl ?_
              refine st_pass rfl rfl rfl rfl rfl rfl ?_
              refine st_pass rfl rfl rfl rfl rfl rfl ?_
              refine st_pass rfl rfl rfl rfl rfl rfl ?_
              refine o_pick rfl rfl rfl rfl rfl ?_
              obtain ⟨y134, u135, hy136, h⟩ := h
              refine st_call (foot := [g125]) rfl rfl rfl rfl rfl rfl (hY (3, true) u121 _ _ _ _ _ (hle.trans (hl82.trans hl124)) hy136 rfl hI126) ?_
              rintro vτ137 τ137 gsτ137 hl138 ⟨rfl, g139, rfl, hI140⟩
              refine o_pick rfl rfl rfl rfl rfl ?_
              refine st_end ?_
              obtain rfl := Eq.symm h
              cases hr0
              exact st_fin (gs' := [g139, []]) Tryd.func71 rfl (by simp) ((hl82.trans hl124).trans hl138) ⟨g139, _, rfl, hI140, rfl⟩
            · replace h := (if_neg (ne_t hc)).mp h
              refine o_fieldAddr rfl rfl rfl z_field24_3 rfl ?_
              refine o_loadI (v := .int .i64 c0.2.2.2.1) rfl rfl rfl z_sc3 rfl (Cel.up hc0_3 ((hle.trans hl82).trans hl124)) ?_
              refine o_ibin (v := .bool (decide (c0.2.2.2.1 < 0))) rfl rfl rfl rfl rfl rfl ?_
              refine o_pick rfl rfl rfl rfl rfl ?_
              refine o_moveB rfl rfl rfl rfl (fun hc => ?_) (fun hc => ?_)
              · replace h := (if_pos hc).mp h
                refine st_pass rfl rfl rfl rfl rfl rfl ?_
                refine st_pass rfl rfl rfl rfl rfl rfl ?_
                refine st_pass rfl rfl rfl rfl rfl rfl ?_
                refine st_pass rfl rfl rfl rfl rfl rfl ?_
                refine st_pass rfl rfl rfl rfl rfl rfl ?_
                refine o_pick rfl rfl rfl rfl rfl ?_
                obtain ⟨y141, u142, hy143, h⟩ := h
                refine st_call (foot := [g125]) rfl rfl rfl rfl rfl rfl (hY (3, true) u121 _ _ _ _ _ (hle.trans (hl82.trans hl124)) hy143 rfl hI126) ?_
                rintro vτ144 τ144 gsτ144 hl145 ⟨rfl, g146, rfl, hI147⟩
                refine o_pick rfl rfl rfl rfl rfl ?_
                refine st_end ?_
                obtain rfl := Eq.symm h
                cases hr0
                exact st_fin (gs' := [g146, []]) Tryd.func71 rfl (by simp) ((hl82.trans hl124).trans hl145) ⟨g146, _, rfl, hI147, rfl⟩
              · replace h := (if_neg (ne_t hc)).mp h
                refine o_fieldAddr rfl rfl rfl z_field24_3 rfl ?_
                refine o_loadI (v := .int .i64 c0.2.2.2.1) rfl rfl rfl z_sc3 rfl (Cel.up hc0_3 ((hle.trans hl82).trans hl124)) ?_
                refine o_fieldAddr rfl rfl rfl z_field24_4 rfl ?_
                refine o_loadI (v := .int .i64 c0.2.2.2.2) rfl rfl rfl z_sc3 rfl (Cel.up hc0_4 ((hle.trans hl82).trans hl124)) ?_
                refine o_ibin (v := .bool (decide (c0.2.2.2.2 ≤ c0.2.2.2.1))) rfl rfl rfl rfl rfl rfl ?_
                refine o_pick rfl rfl rfl rfl rfl ?_
                obtain ⟨y148, u149, hy150, h⟩ := h
                refine st_call (foot := [g125]) rfl rfl rfl rfl rfl rfl (hY (3, (decide (c0.2.2.2.2 ≤ c0.2.2.2.1))) u121 _ _ _ _ _ (hle.trans (hl82.trans hl124)) hy150 rfl hI126) ?_
                rintro vτ151 τ151 gsτ151 hl152 ⟨rfl, g153, rfl, hI154⟩
                refine o_pick rfl rfl rfl rfl rfl ?_
                refine st_end ?_
                obtain rfl := Eq.symm h
                cases hr0
                exact st_fin (gs' := [g153, []]) Tryd.func71 rfl (by simp) ((hl82.trans hl124).trans hl152) ⟨g153, _, rfl, hI154, rfl⟩
        · replace h := (if_neg (ne_t hc)).mp h
          refine st_pass rfl rfl rfl rfl rfl rfl ?_
          refine st_pass rfl rfl rfl rfl rfl rfl ?_
          refine st_pass rfl rfl rfl rfl rfl rfl ?_
          refine st_pass rfl rfl rfl rfl rfl rfl ?_
          refine st_pass rfl rfl rfl rfl rfl rfl ?_
          refine st_passU rfl rfl rfl rfl rfl ?_
          refine st_passU rfl rfl rfl rfl rfl ?_
          refine st_passU rfl rfl rfl rfl rfl ?_
          refine st_pass rfl rfl rfl rfl rfl rfl ?_
          refine st_pass rfl rfl rfl rfl rfl rfl ?_
          refine st_passU rfl rfl rfl rfl rfl ?_
          refine st_passU rfl rfl rfl rfl rfl ?_
          refine st_passU rfl rfl rfl rfl rfl ?_
          refine st_pass rfl rfl rfl rfl rfl rfl ?_
          refine st_pass rfl rfl rfl rfl rfl rfl ?_
          refine st_passU rfl rfl rfl rfl rfl ?_
          refine st_passU rfl rfl rfl rfl rfl ?_
          refine st_passU rfl rfl rfl rfl rfl ?_
          refine st_passU rfl rfl rfl rfl rfl ?_
          refine st_passU rfl rfl rfl rfl rfl ?_
          refine st_pass rfl rfl rfl rfl rfl rfl ?_
          refine st_pass rfl rfl rfl rfl rfl rfl ?_
          refine o_pick rfl rfl rfl rfl rfl ?_
          refine st_end ?_
          obtain rfl := Eq.symm h
          cases hr0
          exact st_fin (gs' := [g125, []]) Tryd.func71 rfl (by simp) (hl82.trans hl124) ⟨g125, _, rfl, hI126, rfl⟩
    · replace h := (if_neg (ne_t hc)).mp h
      refine st_pass rfl rfl rfl rfl rfl rfl ?_
      refine st_pass rfl rfl rfl rfl rfl rfl ?_
      refine st_pass rfl rfl rfl rfl rfl rfl ?_
      refine st_pass rfl rfl rfl rfl rfl rfl ?_
      refine st_pass rfl rfl rfl rfl rfl rfl ?_
      refine st_passU rfl rfl rfl rfl rfl ?_
      refine st_passU rfl rfl rfl rfl rfl ?_
      refine st_passU rfl rfl rfl rfl rfl ?_
      refine st_pass rfl rfl rfl rfl rfl rfl ?_
      refine st_pass rfl rfl rfl rfl rfl rfl ?_
      refine o_pick rfl rfl rfl rfl rfl ?_
      refine o_move rfl rfl rfl rfl ?_
      refine st_pass rfl rfl rfl rfl rfl rfl ?_
      refine st_pass rfl rfl rfl rfl rfl rfl ?_
      refine st_pass rfl rfl rfl rfl rfl rfl ?_
      refine st_pass rfl rfl rfl rfl rfl rfl ?_
      refine st_pass rfl rfl rfl rfl rfl rfl ?_
      refine st_passU rfl rfl rfl rfl rfl ?_
      refine st_passU rfl rfl rfl rfl rfl ?_
      refine st_passU rfl rfl rfl rfl rfl ?_
      refine st_pass rfl rfl rfl rfl rfl rfl ?_
      refine st_pass rfl rfl rfl rfl rfl rfl ?_
      refine st_passU rfl rfl rfl rfl rfl ?_
      refine st_passU rfl rfl rfl rfl rfl ?_
      refine st_passU rfl rfl rfl rfl rfl ?_
      refine st_pass rfl rfl rfl rfl rfl rfl ?_
      refine st_pass rfl rfl rfl rfl rfl rfl ?_
      refine st_passU rfl rfl rfl rfl rfl ?_
      refine st_passU rfl rfl rfl rfl rfl ?_
      refine st_passU rfl rfl rfl rfl rfl ?_
      refine st_passU rfl rfl rfl rfl rfl ?_
      refine st_passU rfl rfl rfl rfl rfl ?_
      refine st_pass rfl rfl rfl rfl rfl rfl ?_
      refine st_pass rfl rfl rfl rfl rfl rfl ?_
      refine o_pick rfl rfl rfl rfl rfl ?_
      refine st_end ?_
      obtain rfl := Eq.symm h
      cases hr0
      exact st_fin (gs' := [g83, []]) Tryd.func71 rfl (by simp) hl82 ⟨g83, _, rfl, hI84, rfl⟩
theorem head_wrong_ok {a0 : Int × Int × Int × Int × Int} {r : (((S : Type) → ((Int × Bool) → S → Bool × S → Prop) → S → S × Unit → Prop))} (h : head_wrong a0 r) (σ : Sto)  :
    Does Tryd.prog 42 [.agg [.int .i64 a0.1, .int .i64 a0.2.1, .int .u32 a0.2.2.1, .int .i64 a0.2.2.2.1, .int .i64 a0.2.2.2.2].toArray] σ [] (fun v τ gs => ∃ (f5 : Nat) (q6 : Array Value), gs = [] ∧ .func (.func f5) #[] q6 = v ∧ IterV Tryd.prog (fun _ x vx => vx = [.int .i64 x.1, .bool x.2]) (.func (.func f5) #[] q6) τ [] (fun (_ : Unit) _ f => f = []) r) := by
  refine call_of Tryd.func42 Tryd.ntmps42 rfl rfl (fun cs fs => ?_)
  refine st_seq ?_
  refine st_region ?_
  refine o_box (cs := [.int .i64 a0.1, .int .i64 a0.2.1, .int .u32 a0.2.2.1, .int .i64 a0.2.2.2.1, .int .i64 a0.2.2.2.2]) rfl rfl rfl rfl rfl (fun b1 => ?_)
  refine o_assign rfl rfl rfl rfl ?_
  refine st_end ?_
  refine st_seq ?_
  refine st_region ?_
  refine st_freeze (fun τ2 hl3 hg4 => ?_)
  refine o_func rfl rfl rfl rfl rfl ?_
  refine o_assign rfl rfl rfl rfl ?_
  refine st_end ?_
  obtain rfl := Eq.symm h
  exact st_ret (gs' := []) Tryd.func42 rfl (List.Sublist.refl _) hl3 ⟨_, _, rfl, rfl, (head_wrong_1_ok (cel_of hg4 rfl) (cel_of hg4 rfl) (cel_of hg4 rfl) (cel_of hg4 rfl) (cel_of hg4 rfl))⟩
theorem head_Check_ok {a0 : Int × Int × Int × Int × Int} {r : Int} (h : head_Check a0 r) (σ : Sto)  :
    Does Tryd.prog 17 [.agg [.int .i64 a0.1, .int .i64 a0.2.1, .int .u32 a0.2.2.1, .int .i64 a0.2.2.2.1, .int .i64 a0.2.2.2.2].toArray] σ [] (fun v τ gs => gs = [] ∧ .int .i64 r = v) := by
  refine call_of Tryd.func17 Tryd.ntmps17 rfl rfl (fun cs fs => ?_)
  refine st_seq ?_
  refine st_region ?_
  refine o_box (cs := [.int .i64 a0.1, .int .i64 a0.2.1, .int .u32 a0.2.2.1, .int .i64 a0.2.2.2.1, .int .i64 a0.2.2.2.2]) rfl rfl rfl rfl rfl (fun b1 => ?_)
  refine o_assign rfl rfl rfl rfl ?_
  refine st_end ?_
  refine st_scope ?_
  refine st_seq ?_
  refine st_region ?_
  refine o_alloc rfl rfl rfl z_zero32 (fun b2 => ?_)
  refine o_store (j := 0) (vs := [.int .i64 0]) (cs' := [.int .i64 0]) rfl rfl rfl z_size32 rfl rfl rfl (ones_cons rfl ones_nil) rfl rfl rfl ?_
  refine st_gs [[(b2, .cells [.int .i64 0].toArray 32 (0, 0))], [(b1, .cells [.int .i64 a0.1, .int .i64 a0.2.1, .int .u32 a0.2.2.1, .int .i64 a0.2.2.2.1, .int .i64 a0.2.2.2.2].toArray 24 (0, 0))]] rfl ?_
  refine st_end ?_
  refine st_seq ?_
  refine st_label ?_
  refine st_seq ?_
  refine st_cut (fun ρ τ3 gs => ∃ (s3 : Int), head_Check_j1 s3 r ∧ σ.Le τ3 ∧ ρ = [(2, .int .i64 0), (3, .pointer (some ⟨b2, 0, none⟩))] ∧ gs = [[(b2, .cells [.int .i64 s3].toArray 32 (0, 0))]]) ?_ (fun hk3 => ?_)
  · rintro ρ3 τ3 gs3 ⟨s3, h, hl3, rfl, rfl⟩
    refine st_seq ?_
    refine st_region ?_
    refine o_load (j := 0) (v := .int .i64 s3) rfl rfl rfl z_sc32 rfl rfl rfl ?_
    refine o_assign rfl rfl rfl rfl ?_
    refine st_end ?_
    refine st_ord [] [] rfl ?_
    obtain rfl := Eq.symm h
    exact st_ret (gs' := []) Tryd.func17 rfl (List.Sublist.refl _) hl3 ⟨rfl, rfl⟩
  refine st_seq ?_
  refine st_region ?_
  refine o_loadN (j := 1) (vs := [.int .i64 a0.1, .int .i64 a0.2.1, .int .u32 a0.2.2.1, .int .i64 a0.2.2.2.1, .int .i64 a0.2.2.2.2]) rfl rfl rfl z_agg24 rfl rfl rfl ?_
  obtain ⟨r4, hr5, h⟩ := h
  refine st_call (foot := []) rfl rfl rfl rfl rfl rfl (callV_fn z_en42 (head_wrong_ok hr5 σ)) ?_
  rintro vτ6 τ6 gsτ6 hl7 ⟨f8, q9, rfl, rfl, hit10⟩
  refine st_end ?_
  refine st_block ?_
  obtain ⟨t11, w11, hR11, hA11⟩ := h
  refine st_env (ρ' := [(2, .int .i64 0), (3, .pointer (some ⟨b2, 0, none⟩)), (7, .func (.func f8) #[] q9)]) ⟨rfl, rfl, rfl, trivial⟩ ?_
  refine st_ord [0] [[(b2, .cells [.int .i64 0].toArray 32 (0, 0))]] rfl ?_
  refine st_addNil ?_
  refine st_range (B := head_Check_l2) (s0 := ()) ranges_fctx rfl hit10 (Sto.Le.refl _) hR11 rfl (fun _ _ _ h => by cases h; rfl) (fun (s11 : Unit) τ11 gs => τ6.Le τ11 ∧ gs = [[(b2, .cells [.int .i64 0].toArray 32 (0, 0))]]) (fun (p12 : Int) cd τ13 gs => cd = .exit 0 ∧ τ6.Le τ13 ∧ gs = [[(b2, .cells [.int .i64 p12].toArray 32 (0, 0))]]) (fun _ _ _ _ hl ⟨hb, hg⟩ => ⟨hb.trans hl, hg⟩) (fun _ _ _ _ _ hl ⟨hc, hb, hg⟩ => ⟨hc, hb.trans hl, hg⟩) ⟨Sto.Le.refl _, rfl⟩ ?_ ?_ ?_
  · rintro x11 s11 o11 τ11 gs11 vx11 hl11 h rfl ⟨hb11, rfl⟩ l11 rc11 caller11 cs11 fs11
    refine st_seq ?_
    refine st_region ?_
    refine o_assign rfl rfl rfl rfl ?_
    refine st_end ?_
    refine st_region ?_
    refine o_assign rfl rfl rfl rfl ?_
    refine st_end ?_
    refine st_begin ?_
    refine st_block ?_
    refine st_seq ?_
    refine st_region ?_
    refine o_move rfl rfl rfl rfl ?_
    refine st_end ?_
    refine st_cond rfl (fun hc => ?_) (fun hc => ?_)
    · replace h := (if_pos hc).mp h
      refine st_seq ?_
      refine st_region ?_
      refine o_move rfl rfl rfl rfl ?_
      refine o_store (j := 0) (vs := [.int .i64 x11.1]) (cs' := [.int .i64 x11.1]) rfl rfl rfl z_size32 rfl rfl rfl (ones_cons rfl ones_nil) rfl rfl rfl ?_
      refine st_gs [[(b2, .cells [.int .i64 x11.1].toArray 32 (0, 0))]] rfl ?_
      refine st_end ?_
      exact st_rexit rfl (List.Sublist.refl _) (Sto.Le.refl _) ⟨_, h, rfl, hl11, rfl⟩
    · replace h := (if_neg (ne_t hc)).mp h
      refine st_skip ?_
      refine st_inBlock ?_
      exact st_rend (List.Sublist.refl _) (Sto.Le.refl _) ⟨_, h, hl11, rfl⟩
  · rintro p15 τ16 gs11 f11 ht hl17 ⟨hb, rfl⟩ rfl
    subst ht
    replace h := hA11
    refine st_ord [1] [[(b2, .cells [.int .i64 0].toArray 32 (0, 0))]] rfl ?_
    refine st_inBlock ?_
    refine st_env (ρ' := [(2, .int .i64 0), (3, .pointer (some ⟨b2, 0, none⟩))]) ⟨rfl, rfl, trivial⟩ ?_
    exact hk3 _ _ _ ⟨0, h, (hl7.trans hl17), rfl, rfl⟩
  · rintro p12 cd11 τ13 gs11 f11 ht hl14 ⟨rfl, hb, rfl⟩ rfl
    subst ht
    replace h := hA11
    refine st_ord [1] [[(b2, .cells [.int .i64 p12].toArray 32 (0, 0))]] rfl ?_
    refine st_exit rfl ?_
    refine st_env (ρ' := [(2, .int .i64 0), (3, .pointer (some ⟨b2, 0, none⟩))]) ⟨rfl, rfl, trivial⟩ ?_
    exact hk3 _ _ _ ⟨p12, h, (hl7.trans hl14), rfl, rfl⟩
theorem head_Bytes_ok {a0 : Int × Int × Int × Int × Int} {r : List Int × Int} (h : head_Bytes a0 r) (σ : Sto)  :
    Does Tryd.prog 14 [.agg [.int .i64 a0.1, .int .i64 a0.2.1, .int .u32 a0.2.2.1, .int .i64 a0.2.2.2.1, .int .i64 a0.2.2.2.2].toArray] σ [] (fun v τ gs => ∃ (v13 : Value), gs = [] ∧ .tuple [v13, .int .i64 r.2].toArray = v ∧ Sl (kI .u8) τ v13 r.1 ∧ Full v13) := by
  refine call_of Tryd.func14 Tryd.ntmps14 rfl rfl (fun cs fs => ?_)
  refine st_seq ?_
  refine st_region ?_
  refine o_box (cs := [.int .i64 a0.1, .int .i64 a0.2.1, .int .u32 a0.2.2.1, .int .i64 a0.2.2.2.1, .int .i64 a0.2.2.2.2]) rfl rfl rfl rfl rfl (fun b1 => ?_)
  refine o_assign rfl rfl rfl rfl ?_
  refine o_assign rfl rfl rfl rfl ?_
  refine st_end ?_
  refine st_seq ?_
  refine st_seq ?_
  refine st_region ?_
  refine o_loadN (j := 0) (vs := [.int .i64 a0.1, .int .i64 a0.2.1, .int .u32 a0.2.2.1, .int .i64 a0.2.2.2.1, .int .i64 a0.2.2.2.2]) rfl rfl rfl z_agg24 rfl rfl rfl ?_
  obtain ⟨r2, hr3, h⟩ := h
  refine st_call (foot := []) rfl rfl rfl rfl rfl rfl (callV_fn z_en17 (head_Check_ok hr3 σ)) ?_
  rintro vτ4 τ4 gsτ4 hl5 ⟨rfl, rfl⟩
  refine o_assign rfl rfl rfl rfl ?_
  refine st_end ?_
  refine st_seq ?_
  refine st_region ?_
  refine o_move rfl rfl rfl rfl ?_
  refine o_ibin (v := .bool (!(decide (r2 = 0)))) rfl rfl rfl rfl rfl rfl ?_
  refine st_end ?_
  refine st_cond rfl (fun hc => ?_) (fun hc => ?_)
  · replace h := (if_pos hc).mp h
    refine st_seq ?_
    refine st_region ?_
    refine o_move rfl rfl rfl rfl ?_
    refine o_assign rfl rfl rfl rfl ?_
    refine o_assign rfl rfl rfl rfl ?_
    refine st_end ?_
    refine st_ord [] [] rfl ?_
    obtain rfl := Eq.symm h
    exact st_ret (gs' := []) Tryd.func14 rfl (List.Sublist.refl _) hl5 ⟨_, rfl, rfl, Sl.nil, full_nil⟩
  · replace h := (if_neg (ne_t hc)).mp h
    refine st_skip ?_
    refine st_seq ?_
    refine st_region ?_
    refine o_fieldAddr rfl rfl rfl z_field24_0 rfl ?_
    refine o_load (j := 0) (v := .int .i64 a0.1) rfl rfl rfl z_sc3 rfl rfl rfl ?_
    refine o_conv rfl rfl rfl Tryd.underlying3 Tryd.underlying5 rfl ?_
    refine o_fieldAddr rfl rfl rfl z_field24_1 rfl ?_
    refine o_load (j := 0) (v := .int .i64 a0.2.1) rfl rfl rfl z_sc3 rfl rfl rfl ?_
    refine o_conv rfl rfl rfl Tryd.underlying3 Tryd.underlying5 rfl ?_
    refine o_fieldAddr rfl rfl rfl z_field24_2 rfl ?_
    refine o_load (j := 0) (v := .int .u32 a0.2.2.1) rfl rfl rfl z_sc22 rfl rfl rfl ?_
    refine o_conv rfl rfl rfl Tryd.underlying22 Tryd.underlying5 rfl ?_
    refine o_fieldAddr rfl rfl rfl z_field24_2 rfl ?_
    refine o_load (j := 0) (v := .int .u32 a0.2.2.1) rfl rfl rfl z_sc22 rfl rfl rfl ?_
    refine o_shr rfl rfl rfl rfl rfl (by decide) ?_
    refine o_conv rfl rfl rfl Tryd.underlying22 Tryd.underlying5 rfl ?_
    refine o_fieldAddr rfl rfl rfl z_field24_2 rfl ?_
    refine o_load (j := 0) (v := .int .u32 a0.2.2.1) rfl rfl rfl z_sc22 rfl rfl rfl ?_
    refine o_shr rfl rfl rfl rfl rfl (by decide) ?_
    refine o_conv rfl rfl rfl Tryd.underlying22 Tryd.underlying5 rfl ?_
    refine o_fieldAddr rfl rfl rfl z_field24_2 rfl ?_
    refine o_load (j := 0) (v := .int .u32 a0.2.2.1) rfl rfl rfl z_sc22 rfl rfl rfl ?_
    refine o_shr rfl rfl rfl rfl rfl (by decide) ?_
    refine o_conv rfl rfl rfl Tryd.underlying22 Tryd.underlying5 rfl ?_
    refine o_fieldAddr rfl rfl rfl z_field24_3 rfl ?_
    refine o_load (j := 0) (v := .int .i64 a0.2.2.2.1) rfl rfl rfl z_sc3 rfl rfl rfl ?_
    refine o_conv rfl rfl rfl Tryd.underlying3 Tryd.underlying5 rfl ?_
    refine o_fieldAddr rfl rfl rfl z_field24_4 rfl ?_
    refine o_load (j := 0) (v := .int .i64 a0.2.2.2.2) rfl rfl rfl z_sc3 rfl rfl rfl ?_
    refine o_conv rfl rfl rfl Tryd.underlying3 Tryd.underlying5 rfl ?_
    refine o_buildA (ps := [(0, [.int .u8 (IntKind.u8.wrap a0.1)]), (1, [.int .u8 (IntKind.u8.wrap a0.2.1)]), (2, [.int .u8 (IntKind.u8.wrap a0.2.2.1)]), (3, [.int .u8 (IntKind.u8.wrap (ishr .u32 a0.2.2.1 8))]), (4, [.int .u8 (IntKind.u8.wrap (ishr .u32 a0.2.2.1 16))]), (5, [.int .u8 (IntKind.u8.wrap (ishr .u32 a0.2.2.1 24))]), (6, [.int .u8 (IntKind.u8.wrap a0.2.2.2.1)]), (7, [.int .u8 (IntKind.u8.wrap a0.2.2.2.2)])]) (cs := [.int .u8 (IntKind.u8.wrap a0.1), .int .u8 (IntKind.u8.wrap a0.2.1), .int .u8 (IntKind.u8.wrap a0.2.2.1), .int .u8 (IntKind.u8.wrap (ishr .u32 a0.2.2.1 8)), .int .u8 (IntKind.u8.wrap (ishr .u32 a0.2.2.1 16)), .int .u8 (IntKind.u8.wrap (ishr .u32 a0.2.2.1 24)), .int .u8 (IntKind.u8.wrap a0.2.2.2.1), .int .u8 (IntKind.u8.wrap a0.2.2.2.2)]) rfl rfl rfl z_arrz78 ⟨rfl, ⟨_, rfl, rfl⟩, ⟨rfl, ⟨_, rfl, rfl⟩, ⟨rfl, ⟨_, rfl, rfl⟩, ⟨rfl, ⟨_, rfl, rfl⟩, ⟨rfl, ⟨_, rfl, rfl⟩, ⟨rfl, ⟨_, rfl, rfl⟩, ⟨rfl, ⟨_, rfl, rfl⟩, ⟨rfl, ⟨_, rfl, rfl⟩, trivial⟩⟩⟩⟩⟩⟩⟩⟩ (fill_all [.int .u8 (IntKind.u8.wrap a0.1), .int .u8 (IntKind.u8.wrap a0.2.1), .int .u8 (IntKind.u8.wrap a0.2.2.1), .int .u8 (IntKind.u8.wrap (ishr .u32 a0.2.2.1 8)), .int .u8 (IntKind.u8.wrap (ishr .u32 a0.2.2.1 16)), .int .u8 (IntKind.u8.wrap (ishr .u32 a0.2.2.1 24)), .int .u8 (IntKind.u8.wrap a0.2.2.2.1), .int .u8 (IntKind.u8.wrap a0.2.2.2.2)] _ rfl) ?_
    refine o_alloc rfl rfl rfl z_zero78 (fun b6 => ?_)
    refine o_store (j := 0) (vs := [.int .u8 (IntKind.u8.wrap a0.1), .int .u8 (IntKind.u8.wrap a0.2.1), .int .u8 (IntKind.u8.wrap a0.2.2.1), .int .u8 (IntKind.u8.wrap (ishr .u32 a0.2.2.1 8)), .int .u8 (IntKind.u8.wrap (ishr .u32 a0.2.2.1 16)), .int .u8 (IntKind.u8.wrap (ishr .u32 a0.2.2.1 24)), .int .u8 (IntKind.u8.wrap a0.2.2.2.1), .int .u8 (IntKind.u8.wrap a0.2.2.2.2)]) (cs' := [.int .u8 (IntKind.u8.wrap a0.1), .int .u8 (IntKind.u8.wrap a0.2.1), .int .u8 (IntKind.u8.wrap a0.2.2.1), .int .u8 (IntKind.u8.wrap (ishr .u32 a0.2.2.1 8)), .int .u8 (IntKind.u8.wrap (ishr .u32 a0.2.2.1 16)), .int .u8 (IntKind.u8.wrap (ishr .u32 a0.2.2.1 24)), .int .u8 (IntKind.u8.wrap a0.2.2.2.1), .int .u8 (IntKind.u8.wrap a0.2.2.2.2)]) rfl rfl rfl z_size78 rfl rfl rfl (ones_cons rfl (ones_cons rfl (ones_cons rfl (ones_cons rfl (ones_cons rfl (ones_cons rfl (ones_cons rfl (ones_cons rfl ones_nil)))))))) rfl rfl rfl ?_
    refine st_gs [[(b6, .cells [.int .u8 (IntKind.u8.wrap a0.1), .int .u8 (IntKind.u8.wrap a0.2.1), .int .u8 (IntKind.u8.wrap a0.2.2.1), .int .u8 (IntKind.u8.wrap (ishr .u32 a0.2.2.1 8)), .int .u8 (IntKind.u8.wrap (ishr .u32 a0.2.2.1 16)), .int .u8 (IntKind.u8.wrap (ishr .u32 a0.2.2.1 24)), .int .u8 (IntKind.u8.wrap a0.2.2.2.1), .int .u8 (IntKind.u8.wrap a0.2.2.2.2)].toArray 78 (0, 0))], [(b1, .cells [.int .i64 a0.1, .int .i64 a0.2.1, .int .u32 a0.2.2.1, .int .i64 a0.2.2.2.1, .int .i64 a0.2.2.2.2].toArray 24 (0, 0))]] rfl ?_
    refine st_end ?_
    refine st_seq ?_
    refine st_region ?_
    refine st_freeze (fun τ7 hl8 hg9 => ?_)
    refine o_sliceF (dk := (kI .u8)) (xs := [(IntKind.u8.wrap a0.1), (IntKind.u8.wrap a0.2.1), (IntKind.u8.wrap a0.2.2.1), (IntKind.u8.wrap (ishr .u32 a0.2.2.1 8)), (IntKind.u8.wrap (ishr .u32 a0.2.2.1 16)), (IntKind.u8.wrap (ishr .u32 a0.2.2.1 24)), (IntKind.u8.wrap a0.2.2.2.1), (IntKind.u8.wrap a0.2.2.2.2)]) rfl rfl rfl z_arr78 rfl (hg9 _ List.mem_cons_self) (manyI [(IntKind.u8.wrap a0.1), (IntKind.u8.wrap a0.2.1), (IntKind.u8.wrap a0.2.2.1), (IntKind.u8.wrap (ishr .u32 a0.2.2.1 8)), (IntKind.u8.wrap (ishr .u32 a0.2.2.1 16)), (IntKind.u8.wrap (ishr .u32 a0.2.2.1 24)), (IntKind.u8.wrap a0.2.2.2.1), (IntKind.u8.wrap a0.2.2.2.2)]) rfl rfl (fun v10 hs11 hF12 => ?_)
    refine o_assign rfl rfl rfl rfl ?_
    refine o_assign rfl rfl rfl rfl ?_
    refine st_end ?_
    refine st_ord [] [] rfl ?_
    obtain rfl := Eq.symm h
    exact st_ret (gs' := []) Tryd.func14 rfl (List.Sublist.refl _) (hl5.trans hl8) ⟨_, rfl, rfl, hs11, hF12⟩
theorem ref01_Same_ok {a0 : List Int} {a1 : List Int} {v1 : Value} {v3 : Value} {r : Bool} (h : ref01_Same a0 a1 r) (σ : Sto) (hs2 : Sl (kI .u8) σ v1 a0) (hs4 : Sl (kI .u8) σ v3 a1) :
    Does Tryd.prog 15 [v1, v3] σ [] (fun v τ gs => gs = [] ∧ .bool r = v) := by
  refine call_of Tryd.func15 Tryd.ntmps15 rfl rfl (fun cs fs => ?_)
  refine st_seq ?_
  refine st_region ?_
  refine o_assign rfl rfl rfl rfl ?_
  refine st_end ?_
  refine st_seq ?_
  refine st_seq ?_
  refine st_region ?_
  refine o_move rfl rfl rfl rfl ?_
  refine o_lenI rfl rfl rfl z_slT31 rfl hs2 ?_
  refine o_move rfl rfl rfl rfl ?_
  refine o_lenI rfl rfl rfl z_slT31 rfl hs4 ?_
  refine o_ibin (v := .bool (!(decide ((a0.length : Int) = (a1.length : Int))))) rfl rfl rfl rfl rfl rfl ?_
  refine st_end ?_
  refine st_cond rfl (fun hc => ?_) (fun hc => ?_)
  · replace h := (if_pos hc).mp h
    refine st_seq ?_
    refine st_region ?_
    refine o_assign rfl rfl rfl rfl ?_
    refine st_end ?_
    obtain rfl := Eq.symm h
    exact st_ret (gs' := []) Tryd.func15 rfl (List.Sublist.refl _) (Sto.Le.refl _) ⟨rfl, rfl⟩
  · replace h := (if_neg (ne_t hc)).mp h
    refine st_skip ?_
    refine st_seq ?_
    refine st_cut (fun ρ τ5 gs => ∃ (s5 : Unit), ref01_Same_j1 s5 r ∧ σ.Le τ5 ∧ ρ = [(4, .bool false)] ∧ gs = []) ?_ (fun hk5 => ?_)
    · rintro ρ5 τ5 gs5 ⟨s5, h, hl5, rfl, rfl⟩
      refine st_seq ?_
      refine st_region ?_
      refine o_assign rfl rfl rfl rfl ?_
      refine st_end ?_
      obtain rfl := Eq.symm h
      exact st_ret (gs' := []) Tryd.func15 rfl (List.Sublist.refl _) hl5 ⟨rfl, rfl⟩
    refine st_seq ?_
    refine st_region ?_
    refine o_assign rfl rfl rfl rfl ?_
    refine st_end ?_
    obtain ⟨e6, hL6, hA6⟩ := h
    refine st_env (ρ' := [(0, v1), (1, v3), (4, .bool false), (5, .int .i64 0)]) ⟨rfl, rfl, rfl, rfl, trivial⟩ ?_
    refine st_loop hL6 (fun (s6 : Int) ρ τ6 gs => σ.Le τ6 ∧ ρ = [(0, v1), (1, v3), (4, .bool false), (5, .int .i64 s6)] ∧ gs = []) ⟨Sto.Le.refl _, rfl, rfl⟩ ?_
    rintro s6 o6 h he6 ρ6 τ6 gs6 ⟨hl6, rfl, rfl⟩ hn6
    refine st_seq ?_
    refine st_seq ?_
    refine st_region ?_
    refine o_move rfl rfl rfl rfl ?_
    refine o_move rfl rfl rfl rfl ?_
    refine o_lenI rfl rfl rfl z_slT31 rfl (hs2.up hl6) ?_
    refine o_ibin (v := .bool (decide (s6 < (a0.length : Int)))) rfl rfl rfl rfl rfl rfl ?_
    refine st_end ?_
    refine st_cond rfl (fun hc => ?_) (fun hc => ?_)
    · replace h := (if_pos hc).mp h
      refine st_skip ?_
      refine st_seq ?_
      refine st_block ?_
      refine st_seq ?_
      obtain ⟨q7, hf8, h⟩ := h
      obtain ⟨q12, hf13, h⟩ := h
      refine st_draw 9 (tl [fun τ v => (v1 : Value) = v,
    fun τ v => (.int .i64 s6 : Value) = v,
    fun τ v => ∃ (b9 : Nat) (of10 : Nat) (vsb9 : List Value), (.pointer (some ⟨b9, of10, none⟩) : Value) = v ∧ CelN τ ⟨b9, of10, none⟩ vsb9 ∧ (kI .u8).rep τ vsb9 q7,
    fun τ v => (.int .u8 q7 : Value) = v,
    fun τ v => (v3 : Value) = v,
    fun τ v => (.int .i64 s6 : Value) = v,
    fun τ v => ∃ (b14 : Nat) (of15 : Nat) (vsb14 : List Value), (.pointer (some ⟨b14, of15, none⟩) : Value) = v ∧ CelN τ ⟨b14, of15, none⟩ vsb14 ∧ (kI .u8).rep τ vsb14 q12,
    fun τ v => (.int .u8 q12 : Value) = v,
    fun τ v => (.bool (!(decide (q7 = q12))) : Value) = v]) (fun _ _ => []) z_mix rfl (tl_mono ⟨fun _ _ _ _ h => h, ⟨fun _ _ _ _ h => h, ⟨fun _ _ _ hl ⟨b9, of10, vsb9, hv, hc11, hrepb9⟩ => ⟨b9, of10, vsb9, hv, hc11.up hl, Kd.mono _ hl hrepb9⟩, ⟨fun _ _ _ _ h => h, ⟨fun _ _ _ _ h => h, ⟨fun _ _ _ _ h => h, ⟨fun _ _ _ hl ⟨b14, of15, vsb14, hv, hc16, hrepb14⟩ => ⟨b14, of15, vsb14, hv, hc16.up hl, Kd.mono _ hl hrepb14⟩, ⟨fun _ _ _ _ h => h, ⟨fun _ _ _ _ h => h, trivial⟩⟩⟩⟩⟩⟩⟩⟩⟩) (allB_cons (allB_cons (allB_cons (allB_cons (allB_cons (allB_cons (allB_cons (allB_cons (allB_cons allB_nil ?_) ?_) ?_) ?_) ?_) ?_) ?_) ?_) ?_) ?_
      · intro ρ' τ pool rs hl hd hout hk
        refine o_move rfl rfl rfl ((hout 0 rfl).trans rfl) ?_
        exact st_addNil (hk _ _ (Sto.Le.refl _) rfl)
      · intro ρ' τ pool rs hl hd hout hk
        refine o_move rfl rfl rfl ((hout 5 rfl).trans rfl) ?_
        exact st_addNil (hk _ _ (Sto.Le.refl _) rfl)
      · intro ρ' τ pool rs hl hd hout hk
        obtain ⟨_, e0, rfl⟩ := hd 0 rfl
        obtain ⟨_, e1, rfl⟩ := hd 1 rfl
        refine o_index rfl rfl rfl z_slT31 rfl e0 (hs2.up (hl6.trans hl)) e1 hf8 (fun b9 of10 vsb9 hc11 hrepb9 => ?_)
        exact st_addNil (hk _ _ (Sto.Le.refl _) ⟨b9, of10, vsb9, rfl, hc11, hrepb9⟩)
      · intro ρ' τ pool rs hl hd hout hk
        obtain ⟨_, e2, b9, of10, vsb9, rfl, hc11, hrepb9⟩ := hd 2 rfl
        have hrepb9 := hrepb9
        obtain rfl := hrepb9
        refine o_loadI (v := .int .u8 q7) rfl rfl rfl z_sc5 e2 (hc11 0 _ rfl) ?_
        exact st_addNil (hk _ _ (Sto.Le.refl _) rfl)
      · intro ρ' τ pool rs hl hd hout hk
        refine o_move rfl rfl rfl ((hout 1 rfl).trans rfl) ?_
        exact st_addNil (hk _ _ (Sto.Le.refl _) rfl)
      · intro ρ' τ pool rs hl hd hout hk
        refine o_move rfl rfl rfl ((hout 5 rfl).trans rfl) ?_
        exact st_addNil (hk _ _ (Sto.Le.refl _) rfl)
      · intro ρ' τ pool rs hl hd hout hk
        obtain ⟨_, e4, rfl⟩ := hd 4 rfl
        obtain ⟨_, e5, rfl⟩ := hd 5 rfl
        refine o_index rfl rfl rfl z_slT31 rfl e4 (hs4.up (hl6.trans hl)) e5 hf13 (fun b14 of15 vsb14 hc16 hrepb14 => ?_)
        exact st_addNil (hk _ _ (Sto.Le.refl _) ⟨b14, of15, vsb14, rfl, hc16, hrepb14⟩)
      · intro ρ' τ pool rs hl hd hout hk
        obtain ⟨_, e6, b14, of15, vsb14, rfl, hc16, hrepb14⟩ := hd 6 rfl
        have hrepb14 := hrepb14
        obtain rfl := hrepb14
        refine o_loadI (v := .int .u8 q12) rfl rfl rfl z_sc5 e6 (hc16 0 _ rfl) ?_
        exact st_addNil (hk _ _ (Sto.Le.refl _) rfl)
      · intro ρ' τ pool rs hl hd hout hk
        obtain ⟨_, e3, rfl⟩ := hd 3 rfl
        obtain ⟨_, e7, rfl⟩ := hd 7 rfl
        refine o_ibin (v := .bool (!(decide (q7 = q12)))) rfl rfl rfl e3 e7 rfl ?_
        exact st_addNil (hk _ _ (Sto.Le.refl _) rfl)
      intro ρ' τ17 vals hl17 hv hout
      have l8 : Eng.look ρ' 25 = some (.bool (!(decide (q7 = q12)))) := (hv 8 (by decide)).1.trans (congrArg some (show vals 8 = .bool (!(decide (q7 = q12))) from Eq.symm (hv 8 (by decide)).2))
      refine st_ord [] [] rfl ?_
      refine st_env (ρ' := [(25, .bool (!(decide (q7 = q12)))), (0, v1), (1, v3), (4, .bool false), (5, .int .i64 s6)]) ⟨l8, (hout 0 rfl).trans rfl, (hout 1 rfl).trans rfl, (hout 4 rfl).trans rfl, (hout 5 rfl).trans rfl, trivial⟩ ?_
      refine st_end ?_
      refine st_cond rfl (fun hc => ?_) (fun hc => ?_)
      · replace h := (if_pos hc).mp h
        refine st_seq ?_
        refine st_region ?_
        refine o_assign rfl rfl rfl rfl ?_
        refine st_end ?_
        obtain rfl := he6 _ h
        replace h := hA6
        obtain rfl := Eq.symm h
        exact st_ret (gs' := []) Tryd.func15 rfl (List.Sublist.refl _) (hl6.trans hl17) ⟨rfl, rfl⟩
      · replace h := (if_neg (ne_t hc)).mp h
        refine st_skip ?_
        refine st_inBlock ?_
        refine st_region ?_
        refine o_move rfl rfl rfl rfl ?_
        refine o_ibin (v := .int .i64 (IntKind.i64.wrap (s6 + 1))) rfl rfl rfl rfl rfl rfl ?_
        refine o_assign rfl rfl rfl rfl ?_
        refine st_end ?_
        refine st_env (ρ' := [(0, v1), (1, v3), (4, .bool false), (5, .int .i64 (IntKind.i64.wrap (s6 + 1)))]) ⟨rfl, rfl, rfl, rfl, trivial⟩ ?_
        exact hn6 _ _ _ _ h ⟨(hl6.trans hl17), rfl, rfl⟩
    · replace h := (if_neg (ne_t hc)).mp h
      refine st_exit rfl ?_
      obtain rfl := he6 _ h
      replace h := hA6
      refine st_env (ρ' := [(4, .bool false)]) ⟨rfl, trivial⟩ ?_
      exact hk5 _ _ _ ⟨(), h, hl6, rfl, rfl⟩
theorem strconv_Itoa_ok {a0 : Int} {r : ByteArray} (h : strconv_Itoa a0 r) (σ : Sto) (hT : Tab Tryd.prog σ) :
    Does Tryd.prog 43 [.int .i64 a0] σ [] (fun v τ gs => gs = [] ∧ .string r = v) := by
  obtain ⟨hk, rfl⟩ := h
  rw [itoa_lib]
  exact does_grow fun w hw => Tryd.strconv_Itoa a0 (i64_lo hk) (i64_hi hk) w (hT w hw)
theorem internal_strconv_FormatUint_ok {a0 : Int} {a1 : Int} {r : ByteArray} (h : internal_strconv_FormatUint a0 a1 r) (σ : Sto) (hT : Tab Tryd.prog σ) :
    Does Tryd.prog 73 [.int .u64 a0, .int .i64 a1] σ [] (fun v τ gs => gs = [] ∧ .string r = v) := by
  obtain ⟨hk, rfl, rfl⟩ := h
  rw [itoa_lib]
  exact does_grow fun w hw => Tryd.FormatUint_10 a0 (u64_lo hk) (u64_hi hk) w (hT w hw)
theorem strconv_FormatUint_ok {a0 : Int} {a1 : Int} {r : ByteArray} (h : strconv_FormatUint a0 a1 r) (σ : Sto) (hT : Tab Tryd.prog σ) :
    Does Tryd.prog 44 [.int .u64 a0, .int .i64 a1] σ [] (fun v τ gs => gs = [] ∧ .string r = v) := by
  refine call_of Tryd.func44 Tryd.ntmps44 rfl rfl (fun cs fs => ?_)
  refine st_seq ?_
  refine st_region ?_
  refine o_assign rfl rfl rfl (ev_str z_str0) ?_
  refine st_end ?_
  refine st_seq ?_
  refine st_region ?_
  refine o_move rfl rfl rfl rfl ?_
  refine o_move rfl rfl rfl rfl ?_
  obtain ⟨r1, hr2, h⟩ := h
  refine st_call (foot := []) rfl rfl rfl rfl rfl rfl (callV_fn z_en73 (internal_strconv_FormatUint_ok hr2 σ hT)) ?_
  rintro vτ3 τ3 gsτ3 hl4 ⟨rfl, rfl⟩
  refine o_assign rfl rfl rfl rfl ?_
  refine st_end ?_
  obtain rfl := Eq.symm h
  exact st_ret (gs' := []) Tryd.func44 rfl (List.Sublist.refl _) hl4 ⟨rfl, rfl⟩
theorem head_Line_ok {a0 : Int × Int × Int × Int × Int} {r : ByteArray} (h : head_Line a0 r) (σ : Sto) (hT : Tab Tryd.prog σ) :
    Does Tryd.prog 18 [.agg [.int .i64 a0.1, .int .i64 a0.2.1, .int .u32 a0.2.2.1, .int .i64 a0.2.2.2.1, .int .i64 a0.2.2.2.2].toArray] σ [] (fun v τ gs => gs = [] ∧ .string r = v) := by
  refine call_of Tryd.func18 Tryd.ntmps18 rfl rfl (fun cs fs => ?_)
  refine st_seq ?_
  refine st_region ?_
  refine o_box (cs := [.int .i64 a0.1, .int .i64 a0.2.1, .int .u32 a0.2.2.1, .int .i64 a0.2.2.2.1, .int .i64 a0.2.2.2.2]) rfl rfl rfl rfl rfl (fun b1 => ?_)
  refine o_assign rfl rfl rfl (ev_str z_str0) ?_
  refine st_end ?_
  refine st_seq ?_
  obtain ⟨r2, hr3, h⟩ := h
  obtain ⟨hf6, h⟩ := h
  obtain ⟨hf7, h⟩ := h
  obtain ⟨r8, hr9, h⟩ := h
  obtain ⟨hf12, h⟩ := h
  obtain ⟨hf13, h⟩ := h
  obtain ⟨r14, hr15, h⟩ := h
  obtain ⟨hf18, h⟩ := h
  obtain ⟨hf19, h⟩ := h
  obtain ⟨r20, hr21, h⟩ := h
  obtain ⟨hf24, h⟩ := h
  obtain ⟨hf25, h⟩ := h
  obtain ⟨r26, hr27, h⟩ := h
  obtain ⟨hf30, h⟩ := h
  refine st_draw 25 (tl [fun τ v => (.pointer (some ⟨b1, 0, none⟩) : Value) = v,
    fun τ v => (.int .i64 a0.1 : Value) = v,
    fun τ v => (.string r2 : Value) = v,
    fun τ v => (.string ((bstr [118, 32]) ++ r2) : Value) = v,
    fun τ v => (.string (((bstr [118, 32]) ++ r2) ++ (bstr [32, 107, 32])) : Value) = v,
    fun τ v => (.pointer (some ⟨b1, 1, none⟩) : Value) = v,
    fun τ v => (.int .i64 a0.2.1 : Value) = v,
    fun τ v => (.string r8 : Value) = v,
    fun τ v => (.string ((((bstr [118, 32]) ++ r2) ++ (bstr [32, 107, 32])) ++ r8) : Value) = v,
    fun τ v => (.string (((((bstr [118, 32]) ++ r2) ++ (bstr [32, 107, 32])) ++ r8) ++ (bstr [32])) : Value) = v,
    fun τ v => (.pointer (some ⟨b1, 2, none⟩) : Value) = v,
    fun τ v => (.int .u32 a0.2.2.1 : Value) = v,
    fun τ v => (.int .u64 (IntKind.u64.wrap a0.2.2.1) : Value) = v,
    fun τ v => (.string r14 : Value) = v,
    fun τ v => (.string ((((((bstr [118, 32]) ++ r2) ++ (bstr [32, 107, 32])) ++ r8) ++ (bstr [32])) ++ r14) : Value) = v,
    fun τ v => (.string (((((((bstr [118, 32]) ++ r2) ++ (bstr [32, 107, 32])) ++ r8) ++ (bstr [32])) ++ r14) ++ (bstr [32])) : Value) = v,
    fun τ v => (.pointer (some ⟨b1, 3, none⟩) : Value) = v,
    fun τ v => (.int .i64 a0.2.2.2.1 : Value) = v,
    fun τ v => (.string r20 : Value) = v,
    fun τ v => (.string ((((((((bstr [118, 32]) ++ r2) ++ (bstr [32, 107, 32])) ++ r8) ++ (bstr [32])) ++ r14) ++ (bstr [32])) ++ r20) : Value) = v,
    fun τ v => (.string (((((((((bstr [118, 32]) ++ r2) ++ (bstr [32, 107, 32])) ++ r8) ++ (bstr [32])) ++ r14) ++ (bstr [32])) ++ r20) ++ (bstr [47])) : Value) = v,
    fun τ v => (.pointer (some ⟨b1, 4, none⟩) : Value) = v,
    fun τ v => (.int .i64 a0.2.2.2.2 : Value) = v,
    fun τ v => (.string r26 : Value) = v,
    fun τ v => (.string ((((((((((bstr [118, 32]) ++ r2) ++ (bstr [32, 107, 32])) ++ r8) ++ (bstr [32])) ++ r14) ++ (bstr [32])) ++ r20) ++ (bstr [47])) ++ r26) : Value) = v]) (fun _ _ => []) z_mix rfl (tl_mono ⟨fun _ _ _ _ h => h, ⟨fun _ _ _ _ h => h, ⟨fun _ _ _ _ h => h, ⟨fun _ _ _ _ h => h, ⟨fun _ _ _ _ h => h, ⟨fun _ _ _ _ h => h, ⟨fun _ _ _ _ h => h, ⟨fun _ _ _ _ h => h, ⟨fun _ _ _ _ h => h, ⟨fun _ _ _ _ h => h, ⟨fun _ _ _ _ h => h, ⟨fun _ _ _ _ h => h, ⟨fun _ _ _ _ h => h, ⟨fun _ _ _ _ h => h, ⟨fun _ _ _ _ h => h, ⟨fun _ _ _ _ h => h, ⟨fun _ _ _ _ h => h, ⟨fun _ _ _ _ h => h, ⟨fun _ _ _ _ h => h, ⟨fun _ _ _ _ h => h, ⟨fun _ _ _ _ h => h, ⟨fun _ _ _ _ h => h, ⟨fun _ _ _ _ h => h, ⟨fun _ _ _ _ h => h, ⟨fun _ _ _ _ h => h, trivial⟩⟩⟩⟩⟩⟩⟩⟩⟩⟩⟩⟩⟩⟩⟩⟩⟩⟩⟩⟩⟩⟩⟩⟩⟩) (allB_cons (allB_cons (allB_cons (allB_cons (allB_cons (allB_cons (allB_cons (allB_cons (allB_cons (allB_cons (allB_cons (allB_cons (allB_cons (allB_cons (allB_cons (allB_cons (allB_cons (allB_cons (allB_cons (allB_cons (allB_cons (allB_cons (allB_cons (allB_cons (allB_cons allB_nil ?_) ?_) ?_) ?_) ?_) ?_) ?_) ?_) ?_) ?_) ?_) ?_) ?_) ?_) ?_) ?_) ?_) ?_) ?_) ?_) ?_) ?_) ?_) ?_) ?_) ?_
  · intro ρ' τ pool rs hl hd hout hk
    refine o_fieldAddr rfl rfl rfl z_field24_0 ((hout 1 rfl).trans rfl) ?_
    exact st_addNil (hk _ _ (Sto.Le.refl _) rfl)
  · intro ρ' τ pool rs hl hd hout hk
    obtain ⟨_, e0, rfl⟩ := hd 0 rfl
    refine o_load (j := 0) (v := .int .i64 a0.1) rfl rfl rfl z_sc3 e0 rfl rfl ?_
    exact st_addNil (hk _ _ (Sto.Le.refl _) rfl)
  · intro ρ' τ pool rs hl hd hout hk
    obtain ⟨_, e1, rfl⟩ := hd 1 rfl
    refine st_call (foot := []) rfl rfl rfl rfl (evs_cons e1 rfl) rfl (callV_fn z_en43 (strconv_Itoa_ok hr3 τ (hT.up hl))) ?_
    rintro vτ4 τ4 gsτ4 hl5 ⟨rfl, rfl⟩
    exact st_addNil (hk _ _ hl5 rfl)
  · intro ρ' τ pool rs hl hd hout hk
    obtain ⟨_, e2, rfl⟩ := hd 2 rfl
    refine o_sadd rfl rfl rfl (ev_str z_str1) e2 hf6 ?_
    exact st_addNil (hk _ _ (Sto.Le.refl _) rfl)
  · intro ρ' τ pool rs hl hd hout hk
    obtain ⟨_, e3, rfl⟩ := hd 3 rfl
    refine o_sadd rfl rfl rfl e3 (ev_str z_str2) hf7 ?_
    exact st_addNil (hk _ _ (Sto.Le.refl _) rfl)
  · intro ρ' τ pool rs hl hd hout hk
    refine o_fieldAddr rfl rfl rfl z_field24_1 ((hout 1 rfl).trans rfl) ?_
    exact st_addNil (hk _ _ (Sto.Le.refl _) rfl)
  · intro ρ' τ pool rs hl hd hout hk
    obtain ⟨_, e5, rfl⟩ := hd 5 rfl
    refine o_load (j := 0) (v := .int .i64 a0.2.1) rfl rfl rfl z_sc3 e5 rfl rfl ?_
    exact st_addNil (hk _ _ (Sto.Le.refl _) rfl)
  · intro ρ' τ pool rs hl hd hout hk
    obtain ⟨_, e6, rfl⟩ := hd 6 rfl
    refine st_call (foot := []) rfl rfl rfl rfl (evs_cons e6 rfl) rfl (callV_fn z_en43 (strconv_Itoa_ok hr9 τ (hT.up hl))) ?_
    rintro vτ10 τ10 gsτ10 hl11 ⟨rfl, rfl⟩
    exact st_addNil (hk _ _ hl11 rfl)
  · intro ρ' τ pool rs hl hd hout hk
    obtain ⟨_, e4, rfl⟩ := hd 4 rfl
    obtain ⟨_, e7, rfl⟩ := hd 7 rfl
    refine o_sadd rfl rfl rfl e4 e7 hf12 ?_
    exact st_addNil (hk _ _ (Sto.Le.refl _) rfl)
  · intro ρ' τ pool rs hl hd hout hk
    obtain ⟨_, e8, rfl⟩ := hd 8 rfl
    refine o_sadd rfl rfl rfl e8 (ev_str z_str3) hf13 ?_
    exact st_addNil (hk _ _ (Sto.Le.refl _) rfl)
  · intro ρ' τ pool rs hl hd hout hk
    refine o_fieldAddr rfl rfl rfl z_field24_2 ((hout 1 rfl).trans rfl) ?_
    exact st_addNil (hk _ _ (Sto.Le.refl _) rfl)
  · intro ρ' τ pool rs hl hd hout hk
    obtain ⟨_, e10, rfl⟩ := hd 10 rfl
    refine o_load (j := 0) (v := .int .u32 a0.2.2.1) rfl rfl rfl z_sc22 e10 rfl rfl ?_
    exact st_addNil (hk _ _ (Sto.Le.refl _) rfl)
  · intro ρ' τ pool rs hl hd hout hk
    obtain ⟨_, e11, rfl⟩ := hd 11 rfl
    refine o_conv rfl rfl rfl Tryd.underlying22 Tryd.underlying48 e11 ?_
    exact st_addNil (hk _ _ (Sto.Le.refl _) rfl)
  · intro ρ' τ pool rs hl hd hout hk
    obtain ⟨_, e12, rfl⟩ := hd 12 rfl
    refine st_call (foot := []) rfl rfl rfl rfl (evs_cons e12 (evs_cons rfl rfl)) rfl (callV_fn z_en44 (strconv_FormatUint_ok hr15 τ (hT.up hl))) ?_
    rintro vτ16 τ16 gsτ16 hl17 ⟨rfl, rfl⟩
    exact st_addNil (hk _ _ hl17 rfl)
  · intro ρ' τ pool rs hl hd hout hk
    obtain ⟨_, e9, rfl⟩ := hd 9 rfl
    obtain ⟨_, e13, rfl⟩ := hd 13 rfl
    refine o_sadd rfl rfl rfl e9 e13 hf18 ?_
    exact st_addNil (hk _ _ (Sto.Le.refl _) rfl)
  · intro ρ' τ pool rs hl hd hout hk
    obtain ⟨_, e14, rfl⟩ := hd 14 rfl
    refine o_sadd rfl rfl rfl e14 (ev_str z_str3) hf19 ?_
    exact st_addNil (hk _ _ (Sto.Le.refl _) rfl)
  · intro ρ' τ pool rs hl hd hout hk
    refine o_fieldAddr rfl rfl rfl z_field24_3 ((hout 1 rfl).trans rfl) ?_
    exact st_addNil (hk _ _ (Sto.Le.refl _) rfl)
  · intro ρ' τ pool rs hl hd hout hk
    obtain ⟨_, e16, rfl⟩ := hd 16 rfl
    refine o_load (j := 0) (v := .int .i64 a0.2.2.2.1) rfl rfl rfl z_sc3 e16 rfl rfl ?_
    exact st_addNil (hk _ _ (Sto.Le.refl _) rfl)
  · intro ρ' τ pool rs hl hd hout hk
    obtain ⟨_, e17, rfl⟩ := hd 17 rfl
    refine st_call (foot := []) rfl rfl rfl rfl (evs_cons e17 rfl) rfl (callV_fn z_en43 (strconv_Itoa_ok hr21 τ (hT.up hl))) ?_
    rintro vτ22 τ22 gsτ22 hl23 ⟨rfl, rfl⟩
    exact st_addNil (hk _ _ hl23 rfl)
  · intro ρ' τ pool rs hl hd hout hk
    obtain ⟨_, e15, rfl⟩ := hd 15 rfl
    obtain ⟨_, e18, rfl⟩ := hd 18 rfl
    refine o_sadd rfl rfl rfl e15 e18 hf24 ?_
    exact st_addNil (hk _ _ (Sto.Le.refl _) rfl)
  · intro ρ' τ pool rs hl hd hout hk
    obtain ⟨_, e19, rfl⟩ := hd 19 rfl
    refine o_sadd rfl rfl rfl e19 (ev_str z_str4) hf25 ?_
    exact st_addNil (hk _ _ (Sto.Le.refl _) rfl)
  · intro ρ' τ pool rs hl hd hout hk
    refine o_fieldAddr rfl rfl rfl z_field24_4 ((hout 1 rfl).trans rfl) ?_
    exact st_addNil (hk _ _ (Sto.Le.refl _) rfl)
  · intro ρ' τ pool rs hl hd hout hk
    obtain ⟨_, e21, rfl⟩ := hd 21 rfl
    refine o_load (j := 0) (v := .int .i64 a0.2.2.2.2) rfl rfl rfl z_sc3 e21 rfl rfl ?_
    exact st_addNil (hk _ _ (Sto.Le.refl _) rfl)
  · intro ρ' τ pool rs hl hd hout hk
    obtain ⟨_, e22, rfl⟩ := hd 22 rfl
    refine st_call (foot := []) rfl rfl rfl rfl (evs_cons e22 rfl) rfl (callV_fn z_en43 (strconv_Itoa_ok hr27 τ (hT.up hl))) ?_
    rintro vτ28 τ28 gsτ28 hl29 ⟨rfl, rfl⟩
    exact st_addNil (hk _ _ hl29 rfl)
  · intro ρ' τ pool rs hl hd hout hk
    obtain ⟨_, e20, rfl⟩ := hd 20 rfl
    obtain ⟨_, e23, rfl⟩ := hd 23 rfl
    refine o_sadd rfl rfl rfl e20 e23 hf30 ?_
    exact st_addNil (hk _ _ (Sto.Le.refl _) rfl)
  intro ρ' τ31 vals hl31 hv hout
  have l24 : Eng.look ρ' 27 = some (.string ((((((((((bstr [118, 32]) ++ r2) ++ (bstr [32, 107, 32])) ++ r8) ++ (bstr [32])) ++ r14) ++ (bstr [32])) ++ r20) ++ (bstr [47])) ++ r26)) := (hv 24 (by decide)).1.trans (congrArg some (show vals 24 = .string ((((((((((bstr [118, 32]) ++ r2) ++ (bstr [32, 107, 32])) ++ r8) ++ (bstr [32])) ++ r14) ++ (bstr [32])) ++ r20) ++ (bstr [47])) ++ r26) from Eq.symm (hv 24 (by decide)).2))
  refine st_ord [0] [[(b1, .cells [.int .i64 a0.1, .int .i64 a0.2.1, .int .u32 a0.2.2.1, .int .i64 a0.2.2.2.1, .int .i64 a0.2.2.2.2].toArray 24 (0, 0))]] rfl ?_
  refine st_env (ρ' := [(27, .string ((((((((((bstr [118, 32]) ++ r2) ++ (bstr [32, 107, 32])) ++ r8) ++ (bstr [32])) ++ r14) ++ (bstr [32])) ++ r20) ++ (bstr [47])) ++ r26)), (2, .string (bstr []))]) ⟨l24, (hout 2 rfl).trans rfl, trivial⟩ ?_
  refine o_assign rfl rfl rfl rfl ?_
  refine st_end ?_
  refine st_ord [] [] rfl ?_
  obtain rfl := Eq.symm h
  exact st_ret (gs' := []) Tryd.func18 rfl (List.Sublist.refl _) hl31 ⟨rfl, rfl⟩
theorem law07_known_ok  {r : Bool} (h : law07_known r) (σ : Sto) (hT : Tab Tryd.prog σ) :
    Does Tryd.prog 8 [] σ [] (fun v τ gs => gs = [] ∧ .bool r = v) := by
  refine call_of Tryd.func8 Tryd.ntmps8 rfl rfl (fun cs fs => ?_)
  refine st_seq ?_
  refine st_region ?_
  refine o_assign rfl rfl rfl rfl ?_
  refine st_end ?_
  refine st_seq ?_
  refine st_region ?_
  refine o_build (ps := [(0, [.int .i64 2]), (1, [.int .i64 4]), (2, [.int .u32 258]), (4, [.int .i64 3])]) (cs := [.int .i64 2, .int .i64 4, .int .u32 258, .int .i64 0, .int .i64 3]) rfl rfl rfl z_struct24 ⟨rfl, ⟨_, rfl, rfl⟩, ⟨rfl, ⟨_, rfl, rfl⟩, ⟨rfl, ⟨_, rfl, rfl⟩, ⟨rfl, ⟨_, rfl, rfl⟩, trivial⟩⟩⟩⟩ rfl ?_
  refine o_alloc rfl rfl rfl z_zero24 (fun b1 => ?_)
  refine o_store (j := 0) (vs := [.int .i64 2, .int .i64 4, .int .u32 258, .int .i64 0, .int .i64 3]) (cs' := [.int .i64 2, .int .i64 4, .int .u32 258, .int .i64 0, .int .i64 3]) rfl rfl rfl z_size24 rfl rfl rfl (ones_cons rfl (ones_cons rfl (ones_cons rfl (ones_cons rfl (ones_cons rfl ones_nil))))) rfl rfl rfl ?_
  refine st_gs [[(b1, .cells [.int .i64 2, .int .i64 4, .int .u32 258, .int .i64 0, .int .i64 3].toArray 24 (0, 0))]] rfl ?_
  refine st_end ?_
  refine st_seq ?_
  refine st_region ?_
  refine o_loadN (j := 0) (vs := [.int .i64 2, .int .i64 4, .int .u32 258, .int .i64 0, .int .i64 3]) rfl rfl rfl z_agg24 rfl rfl rfl ?_
  obtain ⟨r2, hr3, h⟩ := h
  refine st_call (foot := []) rfl rfl rfl rfl rfl rfl (callV_fn z_en14 (head_Bytes_ok hr3 σ)) ?_
  rintro vτ4 τ4 gsτ4 hl5 ⟨v6, rfl, rfl, hs7, hF8⟩
  refine o_move rfl rfl rfl rfl ?_
  refine o_extract rfl rfl rfl rfl rfl ?_
  refine o_extract rfl rfl rfl rfl rfl ?_
  refine o_assign rfl rfl rfl rfl ?_
  refine o_assign rfl rfl rfl rfl ?_
  refine st_end ?_
  refine st_seq ?_
  refine st_region ?_
  refine o_fieldAddr rfl rfl rfl z_field24_2 rfl ?_
  refine o_store (j := 0) (vs := [.int .u32 77]) (cs' := [.int .i64 2, .int .i64 4, .int .u32 77, .int .i64 0, .int .i64 3]) rfl rfl rfl z_size22 rfl rfl rfl (ones_cons rfl ones_nil) rfl rfl rfl ?_
  refine st_gs [[(b1, .cells [.int .i64 2, .int .i64 4, .int .u32 77, .int .i64 0, .int .i64 3].toArray 24 (0, 0))]] rfl ?_
  refine st_end ?_
  refine st_seq ?_
  refine st_cut (fun ρ τ9 gs => ∃ (s9 : Bool), law07_known_j1 s9 r ∧ τ4.Le τ9 ∧ ρ = [(0, .bool s9)] ∧ gs = []) ?_ (fun hk9 => ?_)
  · rintro ρ9 τ9 gs9 ⟨s9, h, hl9, rfl, rfl⟩
    obtain rfl := Eq.symm h
    exact st_ret (gs' := []) Tryd.func8 rfl (List.Sublist.refl _) (hl5.trans hl9) ⟨rfl, rfl⟩
  refine st_region ?_
  refine o_move rfl rfl rfl rfl ?_
  refine o_ibin (v := .bool (decide (r2.2 = 0))) rfl rfl rfl rfl rfl rfl ?_
  refine o_moveB rfl rfl rfl rfl (fun hc => ?_) (fun hc => ?_)
  · replace h := (if_pos hc).mp h
    refine o_move rfl rfl rfl rfl ?_
    refine o_lit (dk := (kI .u8)) (xs := [2, 4, 2, 1, 0, 0, 0, 3]) (ps := [(0, [.int .u8 2]), (1, [.int .u8 4]), (2, [.int .u8 2]), (3, [.int .u8 1]), (4, [.int .u8 0]), (5, [.int .u8 0]), (6, [.int .u8 0]), (7, [.int .u8 3])]) (cs := [.int .u8 2, .int .u8 4, .int .u8 2, .int .u8 1, .int .u8 0, .int .u8 0, .int .u8 0, .int .u8 3]) rfl rfl rfl z_slT31 z_zero5 ⟨rfl, ⟨_, rfl, rfl⟩, ⟨rfl, ⟨_, rfl, rfl⟩, ⟨rfl, ⟨_, rfl, rfl⟩, ⟨rfl, ⟨_, rfl, rfl⟩, ⟨rfl, ⟨_, rfl, rfl⟩, ⟨rfl, ⟨_, rfl, rfl⟩, ⟨rfl, ⟨_, rfl, rfl⟩, ⟨rfl, ⟨_, rfl, rfl⟩, trivial⟩⟩⟩⟩⟩⟩⟩⟩ rfl rfl rfl rfl (Kd.Many.cons (a := [.int .u8 2]) rfl (Kd.Many.cons (a := [.int .u8 4]) rfl (Kd.Many.cons (a := [.int .u8 2]) rfl (Kd.Many.cons (a := [.int .u8 1]) rfl (Kd.Many.cons (a := [.int .u8 0]) rfl (Kd.Many.cons (a := [.int .u8 0]) rfl (Kd.Many.cons (a := [.int .u8 0]) rfl (Kd.Many.cons (a := [.int .u8 3]) rfl Kd.Many.nil)))))))) (fun v10 g11 ho12 => ?_)
    obtain ⟨r17, hr18, h⟩ := h
    refine st_freeze (fun τ13 hl14 hg15 => ?_)
    have hs16 := ho12.freeze hl14 hg15
    refine st_call (foot := []) rfl rfl rfl rfl rfl rfl (callV_fn z_en15 (ref01_Same_ok hr18 τ13 (hs7.up hl14) hs16)) ?_
    rintro vτ19 τ19 gsτ19 hl20 ⟨rfl, rfl⟩
    refine o_pick rfl rfl rfl rfl rfl ?_
    refine o_moveB rfl rfl rfl rfl (fun hc => ?_) (fun hc => ?_)
    · replace h := (if_pos hc).mp h
      refine o_loadN (j := 0) (vs := [.int .i64 2, .int .i64 4, .int .u32 77, .int .i64 0, .int .i64 3]) rfl rfl rfl z_agg24 rfl rfl rfl ?_
      obtain ⟨r21, hr22, h⟩ := h
      refine st_call (foot := []) rfl rfl rfl rfl rfl rfl (callV_fn z_en18 (head_Line_ok hr22 τ19 (hT.up ((hl5.trans hl14).trans hl20)))) ?_
      rintro vτ23 τ23 gsτ23 hl24 ⟨rfl, rfl⟩
      refine o_sbin (v := .bool (decide (r21 = (bstr [118, 32, 50, 32, 107, 32, 52, 32, 55, 55, 32, 48, 47, 51])))) rfl rfl rfl rfl (ev_str z_str5) rfl ?_
      refine o_pick rfl rfl rfl rfl rfl ?_
      refine o_assign rfl rfl rfl rfl ?_
      refine st_end ?_
      refine st_env (ρ' := [(0, .bool (decide (r21 = (bstr [118, 32, 50, 32, 107, 32, 52, 32, 55, 55, 32, 48, 47, 51]))))]) ⟨rfl, trivial⟩ ?_
      refine st_ord [] [] rfl ?_
      exact hk9 _ _ _ ⟨(decide (r21 = (bstr [118, 32, 50, 32, 107, 32, 52, 32, 55, 55, 32, 48, 47, 51]))), h, ((hl14.trans hl20).trans hl24), rfl, rfl⟩
    · replace h := (if_neg (ne_t hc)).mp h
      refine st_pass rfl rfl rfl rfl rfl rfl ?_
      refine st_pass rfl rfl rfl rfl rfl rfl ?_
      refine st_pass rfl rfl rfl rfl rfl rfl ?_
      refine o_pick rfl rfl rfl rfl rfl ?_
      refine o_assign rfl rfl rfl rfl ?_
      refine st_end ?_
      refine st_env (ρ' := [(0, .bool false)]) ⟨rfl, trivial⟩ ?_
      refine st_ord [] [] rfl ?_
      exact hk9 _ _ _ ⟨false, h, (hl14.trans hl20), rfl, rfl⟩
  · replace h := (if_neg (ne_t hc)).mp h
    refine st_pass rfl rfl rfl rfl rfl rfl ?_
    refine st_pass rfl rfl rfl rfl rfl rfl ?_
    refine st_pass rfl rfl rfl rfl rfl rfl ?_
    refine o_pick rfl rfl rfl rfl rfl ?_
    refine o_move rfl rfl rfl rfl ?_
    refine st_pass rfl rfl rfl rfl rfl rfl ?_
    refine st_pass rfl rfl rfl rfl rfl rfl ?_
    refine st_pass rfl rfl rfl rfl rfl rfl ?_
    refine o_pick rfl rfl rfl rfl rfl ?_
    refine o_assign rfl rfl rfl rfl ?_
    refine st_end ?_
    refine st_env (ρ' := [(0, .bool false)]) ⟨rfl, trivial⟩ ?_
    refine st_ord [] [] rfl ?_
    exact hk9 _ _ _ ⟨false, h, (Sto.Le.refl _), rfl, rfl⟩
theorem lens_New_ok {a0 : List Int} {v1 : Value} {r : (List Int × Int × Int)} (h : lens_New a0 r) (σ : Sto) (hs2 : Sl (kI .u8) σ v1 a0) :
    Does Tryd.prog 38 [v1] σ [] (fun v τ gs => ∃ (b15 : Nat) (v16 : Value), gs = [[(b15, .cells [v16, .int .i64 r.2.1, .int .i64 r.2.2].toArray 111 (0, 0))]] ∧ .pointer (some ⟨b15, 0, none⟩) = v ∧ Sl (kI .u8) τ v16 r.1) := by
  refine call_of Tryd.func38 Tryd.ntmps38 rfl rfl (fun cs fs => ?_)
  refine st_seq ?_
  refine st_region ?_
  refine o_assign rfl rfl rfl rfl ?_
  refine st_end ?_
  refine st_seq ?_
  refine st_region ?_
  refine o_move rfl rfl rfl rfl ?_
  obtain ⟨hf6, h⟩ := h
  obtain ⟨hf7, h⟩ := h
  refine st_addNil ?_
  refine o_append (dk := (kI .u8)) (xs := ([] : List Int)) (ys := a0) rfl rfl rfl rfl z_slT31 rfl Ow.nil rfl (Sl.src hs2) hf6 hf7 (fun v3 g4 ho5 => ?_)
  refine o_build (ps := [(0, [v3])]) (cs := [v3, .int .i64 0, .int .i64 0]) rfl rfl rfl z_struct111 ⟨rfl, ⟨_, rfl, (oneL_ow ho5)⟩, trivial⟩ rfl ?_
  refine o_box (cs := [v3, .int .i64 0, .int .i64 0]) rfl rfl rfl rfl rfl (fun b8 => ?_)
  refine o_assign rfl rfl rfl rfl ?_
  refine st_end ?_
  refine st_ord [1, 0] [g4, [(b8, .cells [v3, .int .i64 0, .int .i64 0].toArray 111 (0, 0))]] rfl ?_
  refine st_freeze (fun τ9 hl10 hg11 => ?_)
  have hs12 := ho5.freeze hl10 hg11
  obtain rfl := Eq.symm h
  exact st_ret (gs' := [[(b8, .cells [v3, .int .i64 0, .int .i64 0].toArray 111 (0, 0))]]) Tryd.func38 rfl (List.Sublist.refl _) hl10 ⟨_, _, rfl, rfl, hs12⟩
theorem lens_Lens_left_ok {a0 : List Int × Int × Int} {ba0 : Nat} {v1 : Value} {r : List Int} (h : lens_Lens_left a0 r) (σ : Sto) (hs2 : Sl (kI .u8) σ v1 a0.1) :
    Does Tryd.prog 92 [.pointer (some ⟨ba0, 0, none⟩)] σ [[(ba0, .cells [v1, .int .i64 a0.2.1, .int .i64 a0.2.2].toArray 111 (0, 0))]] (fun v τ gs => ∃ (v11 : Value), gs = [[(ba0, .cells [v1, .int .i64 a0.2.1, .int .i64 a0.2.2].toArray 111 (0, 0))]] ∧ v11 = v ∧ Sl (kI .u8) τ v11 r) := by
  refine call_of Tryd.func92 Tryd.ntmps92 rfl rfl (fun cs fs => ?_)
  refine st_seq ?_
  refine st_region ?_
  refine o_assign rfl rfl rfl rfl ?_
  refine st_end ?_
  refine st_seq ?_
  obtain ⟨hf3, h⟩ := h
  obtain ⟨hf4, h⟩ := h
  obtain ⟨hf5, h⟩ := h
  obtain ⟨hf6, h⟩ := h
  obtain ⟨hf7, h⟩ := h
  refine st_draw 19 (tl [fun τ v => (.pointer (some ⟨ba0, 0, none⟩) : Value) = v,
    fun τ v => (.pointer (some ⟨ba0, 0, none⟩) : Value) = v,
    fun τ v => (.pointer (some ⟨ba0, 0, none⟩) : Value) = v,
    fun τ v => (v1 : Value) = v,
    fun τ v => (.pointer (some ⟨ba0, 0, none⟩) : Value) = v,
    fun τ v => (.pointer (some ⟨ba0, 0, none⟩) : Value) = v,
    fun τ v => (.pointer (some ⟨ba0, 1, none⟩) : Value) = v,
    fun τ v => (.int .i64 a0.2.1 : Value) = v,
    fun τ v => (.pointer (some ⟨ba0, 0, none⟩) : Value) = v,
    fun τ v => (.pointer (some ⟨ba0, 0, none⟩) : Value) = v,
    fun τ v => (.pointer (some ⟨ba0, 0, none⟩) : Value) = v,
    fun τ v => (v1 : Value) = v,
    fun τ v => (.int .i64 (a0.1.length : Int) : Value) = v,
    fun τ v => (.pointer (some ⟨ba0, 0, none⟩) : Value) = v,
    fun τ v => (.pointer (some ⟨ba0, 0, none⟩) : Value) = v,
    fun τ v => (.pointer (some ⟨ba0, 0, none⟩) : Value) = v,
    fun τ v => (v1 : Value) = v,
    fun τ v => (.int .i64 (a0.1.length : Int) : Value) = v,
    fun τ v => ∃ (v8 : Value), (v8 : Value) = v ∧ Sl (kI .u8) τ v8 ((a0.1.drop a0.2.1.toNat).take (((a0.1.length : Int) : Int) - a0.2.1).toNat)]) (fun _ _ => []) z_mix rfl (tl_mono ⟨fun _ _ _ _ h => h, ⟨fun _ _ _ _ h => h, ⟨fun _ _ _ _ h => h, ⟨fun _ _ _ _ h => h, ⟨fun _ _ _ _ h => h, ⟨fun _ _ _ _ h => h, ⟨fun _ _ _ _ h => h, ⟨fun _ _ _ _ h => h, ⟨fun _ _ _ _ h => h, ⟨fun _ _ _ _ h => h, ⟨fun _ _ _ _ h => h, ⟨fun _ _ _ _ h => h, ⟨fun _ _ _ _ h => h, ⟨fun _ _ _ _ h => h, ⟨fun _ _ _ _ h => h, ⟨fun _ _ _ _ h => h, ⟨fun _ _ _ _ h => h, ⟨fun _ _ _ _ h => h, ⟨fun _ _ _ hl ⟨v8, hv, hs9⟩ => ⟨v8, hv, hs9.up hl⟩, trivial⟩⟩⟩⟩⟩⟩⟩⟩⟩⟩⟩⟩⟩⟩⟩⟩⟩⟩⟩) (allB_cons (allB_cons (allB_cons (allB_cons (allB_cons (allB_cons (allB_cons (allB_cons (allB_cons (allB_cons (allB_cons (allB_cons (allB_cons (allB_cons (allB_cons (allB_cons (allB_cons (allB_cons (allB_cons allB_nil ?_) ?_) ?_) ?_) ?_) ?_) ?_) ?_) ?_) ?_) ?_) ?_) ?_) ?_) ?_) ?_) ?_) ?_) ?_) ?_
  · intro ρ' τ pool rs hl hd hout hk
    refine o_move rfl rfl rfl ((hout 0 rfl).trans rfl) ?_
    exact st_addNil (hk _ _ (Sto.Le.refl _) rfl)
  · intro ρ' τ pool rs hl hd hout hk
    obtain ⟨_, e0, rfl⟩ := hd 0 rfl
    refine o_nilCheck rfl rfl rfl e0 ?_
    exact st_addNil (hk _ _ (Sto.Le.refl _) rfl)
  · intro ρ' τ pool rs hl hd hout hk
    obtain ⟨_, e1, rfl⟩ := hd 1 rfl
    refine o_fieldAddr rfl rfl rfl z_field111_0 e1 ?_
    exact st_addNil (hk _ _ (Sto.Le.refl _) rfl)
  · intro ρ' τ pool rs hl hd hout hk
    obtain ⟨_, e2, rfl⟩ := hd 2 rfl
    refine o_load (j := 0) (v := v1) rfl rfl rfl z_sc31 e2 rfl rfl ?_
    exact st_addNil (hk _ _ (Sto.Le.refl _) rfl)
  · intro ρ' τ pool rs hl hd hout hk
    refine o_move rfl rfl rfl ((hout 0 rfl).trans rfl) ?_
    exact st_addNil (hk _ _ (Sto.Le.refl _) rfl)
  · intro ρ' τ pool rs hl hd hout hk
    obtain ⟨_, e4, rfl⟩ := hd 4 rfl
    refine o_nilCheck rfl rfl rfl e4 ?_
    exact st_addNil (hk _ _ (Sto.Le.refl _) rfl)
  · intro ρ' τ pool rs hl hd hout hk
    obtain ⟨_, e5, rfl⟩ := hd 5 rfl
    refine o_fieldAddr rfl rfl rfl z_field111_1 e5 ?_
    exact st_addNil (hk _ _ (Sto.Le.refl _) rfl)
  · intro ρ' τ pool rs hl hd hout hk
    obtain ⟨_, e6, rfl⟩ := hd 6 rfl
    refine o_load (j := 0) (v := .int .i64 a0.2.1) rfl rfl rfl z_sc3 e6 rfl rfl ?_
    exact st_addNil (hk _ _ (Sto.Le.refl _) rfl)
  · intro ρ' τ pool rs hl hd hout hk
    refine o_move rfl rfl rfl ((hout 0 rfl).trans rfl) ?_
    exact st_addNil (hk _ _ (Sto.Le.refl _) rfl)
  · intro ρ' τ pool rs hl hd hout hk
    obtain ⟨_, e8, rfl⟩ := hd 8 rfl
    refine o_nilCheck rfl rfl rfl e8 ?_
    exact st_addNil (hk _ _ (Sto.Le.refl _) rfl)
  · intro ρ' τ pool rs hl hd hout hk
    obtain ⟨_, e9, rfl⟩ := hd 9 rfl
    refine o_fieldAddr rfl rfl rfl z_field111_0 e9 ?_
    exact st_addNil (hk _ _ (Sto.Le.refl _) rfl)
  · intro ρ' τ pool rs hl hd hout hk
    obtain ⟨_, e10, rfl⟩ := hd 10 rfl
    refine o_load (j := 0) (v := v1) rfl rfl rfl z_sc31 e10 rfl rfl ?_
    exact st_addNil (hk _ _ (Sto.Le.refl _) rfl)
  · intro ρ' τ pool rs hl hd hout hk
    obtain ⟨_, e11, rfl⟩ := hd 11 rfl
    refine o_lenI rfl rfl rfl z_slT31 e11 (hs2.up hl) ?_
    exact st_addNil (hk _ _ (Sto.Le.refl _) rfl)
  · intro ρ' τ pool rs hl hd hout hk
    refine o_move rfl rfl rfl ((hout 0 rfl).trans rfl) ?_
    exact st_addNil (hk _ _ (Sto.Le.refl _) rfl)
  · intro ρ' τ pool rs hl hd hout hk
    obtain ⟨_, e13, rfl⟩ := hd 13 rfl
    refine o_nilCheck rfl rfl rfl e13 ?_
    exact st_addNil (hk _ _ (Sto.Le.refl _) rfl)
  · intro ρ' τ pool rs hl hd hout hk
    obtain ⟨_, e14, rfl⟩ := hd 14 rfl
    refine o_fieldAddr rfl rfl rfl z_field111_0 e14 ?_
    exact st_addNil (hk _ _ (Sto.Le.refl _) rfl)
  · intro ρ' τ pool rs hl hd hout hk
    obtain ⟨_, e15, rfl⟩ := hd 15 rfl
    refine o_load (j := 0) (v := v1) rfl rfl rfl z_sc31 e15 rfl rfl ?_
    exact st_addNil (hk _ _ (Sto.Le.refl _) rfl)
  · intro ρ' τ pool rs hl hd hout hk
    obtain ⟨_, e16, rfl⟩ := hd 16 rfl
    refine o_lenI rfl rfl rfl z_slT31 e16 (hs2.up hl) ?_
    exact st_addNil (hk _ _ (Sto.Le.refl _) rfl)
  · intro ρ' τ pool rs hl hd hout hk
    obtain ⟨_, e3, rfl⟩ := hd 3 rfl
    obtain ⟨_, e7, rfl⟩ := hd 7 rfl
    obtain ⟨_, e12, rfl⟩ := hd 12 rfl
    obtain ⟨_, e17, rfl⟩ := hd 17 rfl
    refine o_slice (L := a0.2.1) (H := (a0.1.length : Int)) rfl rfl rfl z_slT31 rfl e3 (hs2.up hl) ⟨_, e7⟩ ⟨_, e12⟩ hf3 hf4 hf5 ⟨_, _, e17, hf6, hf7⟩ (by simp) (fun v8 hs9 => ?_)
    exact st_addNil (hk _ _ (Sto.Le.refl _) ⟨v8, rfl, hs9⟩)
  intro ρ' τ10 vals hl10 hv hout
  obtain ⟨l18, v8, t18, hs9⟩ := hv 18 (by decide)
  replace l18 : Eng.look ρ' 21 = some (v8) := l18.trans (congrArg some (Eq.symm t18))
  refine st_ord [0] [[(ba0, .cells [v1, .int .i64 a0.2.1, .int .i64 a0.2.2].toArray 111 (0, 0))]] rfl ?_
  refine st_env (ρ' := [(21, v8), (2, .slice none 0 0)]) ⟨l18, (hout 2 rfl).trans rfl, trivial⟩ ?_
  refine o_assign rfl rfl rfl rfl ?_
  refine st_end ?_
  obtain rfl := Eq.symm h
  exact st_ret (gs' := [[(ba0, .cells [v1, .int .i64 a0.2.1, .int .i64 a0.2.2].toArray 111 (0, 0))]]) Tryd.func92 rfl (List.Sublist.refl _) hl10 ⟨_, rfl, rfl, hs9⟩
theorem slices_Backward_byte_byte_1_ok {c0 : List Int} {bc0 : Nat} {v1 : Value} {σ0 : Sto} (hc0_0 : Cel σ0 ⟨bc0, 0, none⟩ (v1)) (hs2 : Sl (kI .u8) σ0 v1 c0) :
    IterV Tryd.prog (fun _ x vx => vx = [.int .i64 x.1, .int .u8 x.2]) (.func (.func 102) #[] [.pointer (some ⟨bc0, 0, none⟩)].toArray) σ0 [] (fun (_ : Unit) _ f => f = []) (slices_Backward_byte_byte_1 c0) := by
  intro S Y I y hyc hyo hIm hY s s' o hR σ g hle hIg
  obtain ⟨r, hr0⟩ : ∃ r, r = (s', o) := ⟨_, rfl⟩
  rw [← hr0] at hR
  have h := hR
  refine callV_of (caps := [.pointer (some ⟨bc0, 0, none⟩)]) z_en102 ?_
  refine call_of Tryd.func102 Tryd.ntmps102 rfl rfl (fun cs fs => ?_)
  refine st_ord [0] [g] rfl ?_
  refine st_seq ?_
  refine st_region ?_
  refine o_loadI (v := v1) rfl rfl rfl z_sc31 rfl (Cel.up hc0_0 hle) ?_
  refine o_lenI rfl rfl rfl z_slT31 rfl (hs2.up hle) ?_
  refine o_ibin (v := .int .i64 (IntKind.i64.wrap ((c0.length : Int) - 1))) rfl rfl rfl rfl rfl rfl ?_
  refine o_assign rfl rfl rfl rfl ?_
  refine st_end ?_
  obtain ⟨e3, hL3, hA3⟩ := h
  refine st_env (ρ' := [(0, y), (1, .pointer (some ⟨bc0, 0, none⟩)), (3, .int .i64 (IntKind.i64.wrap ((c0.length : Int) - 1)))]) ⟨rfl, rfl, rfl, trivial⟩ ?_
  refine st_loop hL3 (fun (s3 : S × Int) ρ τ3 gs => σ.Le τ3 ∧ ∃ (g4 : Grp), ρ = [(0, y), (1, .pointer (some ⟨bc0, 0, none⟩)), (3, .int .i64 s3.2)] ∧ gs = [g4] ∧ I s3.1 τ3 g4) ⟨Sto.Le.refl _, g, rfl, rfl, hIg⟩ ?_
  rintro s3 o3 h he3 ρ3 τ3 gs3 ⟨hl3, g4, rfl, rfl, hI5⟩ hn3
  refine st_seq ?_
  refine st_seq ?_
  refine st_region ?_
  refine o_move rfl rfl rfl rfl ?_
  refine o_ibin (v := .bool (decide (0 ≤ s3.2))) rfl rfl rfl rfl rfl rfl ?_
  refine st_end ?_
  refine st_cond rfl (fun hc => ?_) (fun hc => ?_)
  · replace h := (if_pos hc).mp h
    refine st_skip ?_
    refine st_seq ?_
    refine st_block ?_
    refine st_seq ?_
    refine st_region ?_
    refine o_move rfl rfl rfl rfl ?_
    refine o_move rfl rfl rfl rfl ?_
    refine o_loadI (v := v1) rfl rfl rfl z_sc31 rfl (Cel.up hc0_0 (hle.trans hl3)) ?_
    refine o_move rfl rfl rfl rfl ?_
    obtain ⟨q6, hf7, h⟩ := h
    refine o_index rfl rfl rfl z_slT31 rfl rfl (hs2.up (hle.trans hl3)) rfl hf7 (fun b8 of9 vs hc10 hrep => ?_)
    obtain rfl := hrep
    refine o_loadI (v := .int .u8 q6) rfl rfl rfl z_sc5 rfl (hc10 0 _ rfl) ?_
    obtain ⟨y11, u12, hy13, h⟩ := h
    refine st_call (foot := [g4]) rfl rfl rfl rfl rfl rfl (hY (s3.2, q6) s3.1 _ _ _ _ _ (hle.trans hl3) hy13 rfl hI5) ?_
    rintro vτ14 τ14 gsτ14 hl15 ⟨rfl, g16, rfl, hI17⟩
    refine o_not rfl rfl rfl rfl ?_
    refine st_end ?_
    refine st_cond rfl (fun hc => ?_) (fun hc => ?_)
    · replace h := (if_pos hc).mp h
      obtain rfl := he3 _ h
      replace h := hA3
      obtain rfl := Eq.symm h
      cases hr0
      exact st_ret (gs' := [g16, []]) Tryd.func102 rfl (by simp) (hl3.trans hl15) ⟨g16, _, rfl, hI17, rfl⟩
    · replace h := (if_neg (ne_t hc)).mp h
      refine st_skip ?_
      refine st_inBlock ?_
      refine st_region ?_
      refine o_move rfl rfl rfl rfl ?_
      refine o_ibin (v := .int .i64 (IntKind.i64.wrap (s3.2 - 1))) rfl rfl rfl rfl rfl rfl ?_
      refine o_assign rfl rfl rfl rfl ?_
      refine st_end ?_
      refine st_env (ρ' := [(0, y), (1, .pointer (some ⟨bc0, 0, none⟩)), (3, .int .i64 (IntKind.i64.wrap (s3.2 - 1)))]) ⟨rfl, rfl, rfl, trivial⟩ ?_
      exact hn3 _ _ _ _ h ⟨(hl3.trans hl15), g16, rfl, rfl, hI17⟩
  · replace h := (if_neg (ne_t hc)).mp h
    refine st_exit rfl ?_
    obtain rfl := he3 _ h
    replace h := hA3
    obtain rfl := Eq.symm h
    cases hr0
    exact st_fin (gs' := [g4, []]) Tryd.func102 rfl (by simp) hl3 ⟨g4, _, rfl, hI5, rfl⟩
theorem slices_Backward_byte_byte_ok {a0 : List Int} {v1 : Value} {r : (((S : Type) → ((Int × Int) → S → Bool × S → Prop) → S → S × Unit → Prop))} (h : slices_Backward_byte_byte a0 r) (σ : Sto) (hs2 : Sl (kI .u8) σ v1 a0) :
    Does Tryd.prog 91 [v1] σ [] (fun v τ gs => ∃ (f7 : Nat) (q8 : Array Value), gs = [] ∧ .func (.func f7) #[] q8 = v ∧ IterV Tryd.prog (fun _ x vx => vx = [.int .i64 x.1, .int .u8 x.2]) (.func (.func f7) #[] q8) τ [] (fun (_ : Unit) _ f => f = []) r) := by
  refine call_of Tryd.func91 Tryd.ntmps91 rfl rfl (fun cs fs => ?_)
  refine st_seq ?_
  refine st_region ?_
  refine o_box (cs := [v1]) rfl rfl rfl rfl (oneL_sl hs2) (fun b3 => ?_)
  refine o_assign rfl rfl rfl rfl ?_
  refine st_end ?_
  refine st_seq ?_
  refine st_region ?_
  refine st_freeze (fun τ4 hl5 hg6 => ?_)
  refine o_func rfl rfl rfl rfl rfl ?_
  refine o_assign rfl rfl rfl rfl ?_
  refine st_end ?_
  obtain rfl := Eq.symm h
  exact st_ret (gs' := []) Tryd.func91 rfl (List.Sublist.refl _) hl5 ⟨_, _, rfl, rfl, (slices_Backward_byte_byte_1_ok (cel_of hg6 rfl) (hs2.up hl5))⟩
theorem lens_Lens_word_1_ok {a0 : List Int} {c0 : Int} {c1 : Int} {v1 : Value} {bc0 : Nat} {bc1 : Nat} {r : Int × Int × Int} (h : lens_Lens_word_1 a0 c0 c1 r) (σ : Sto) (hs2 : Sl (kI .u8) σ v1 a0) :
    Does Tryd.prog 90 [v1, .pointer (some ⟨bc0, 0, none⟩), .pointer (some ⟨bc1, 0, none⟩)] σ [[(bc0, .cells [.int .i64 c0].toArray 3 (0, 0))], [(bc1, .cells [.int .u32 c1].toArray 22 (0, 0))]] (fun v τ gs => gs = [[(bc0, .cells [.int .i64 c0].toArray 3 (0, 0))], [(bc1, .cells [.int .u32 r.2.2].toArray 22 (0, 0))]] ∧ .tuple [.int .i64 r.1, .int .i64 r.2.1].toArray = v) := by
  refine call_of Tryd.func90 Tryd.ntmps90 rfl rfl (fun cs fs => ?_)
  refine st_seq ?_
  refine st_region ?_
  refine o_assign rfl rfl rfl rfl ?_
  refine o_assign rfl rfl rfl rfl ?_
  refine st_end ?_
  refine st_seq ?_
  refine st_seq ?_
  refine st_region ?_
  refine o_move rfl rfl rfl rfl ?_
  refine o_lenI rfl rfl rfl z_slT31 rfl hs2 ?_
  refine o_load (j := 0) (v := .int .i64 c0) rfl rfl rfl z_sc3 rfl rfl rfl ?_
  refine o_ibin (v := .bool (decide ((a0.length : Int) < c0))) rfl rfl rfl rfl rfl rfl ?_
  refine st_end ?_
  refine st_cond rfl (fun hc => ?_) (fun hc => ?_)
  · replace h := (if_pos hc).mp h
    refine st_seq ?_
    refine st_region ?_
    refine o_assign rfl rfl rfl rfl ?_
    refine o_assign rfl rfl rfl rfl ?_
    refine st_end ?_
    obtain rfl := Eq.symm h
    exact st_ret (gs' := [[(bc0, .cells [.int .i64 c0].toArray 3 (0, 0))], [(bc1, .cells [.int .u32 c1].toArray 22 (0, 0))]]) Tryd.func90 rfl (List.Sublist.refl _) (Sto.Le.refl _) ⟨rfl, rfl⟩
  · replace h := (if_neg (ne_t hc)).mp h
    refine st_skip ?_
    refine st_seq ?_
    refine st_seq ?_
    refine st_region ?_
    refine o_move rfl rfl rfl rfl ?_
    refine o_load (j := 0) (v := .int .i64 c0) rfl rfl rfl z_sc3 rfl rfl rfl ?_
    obtain ⟨hf3, h⟩ := h
    obtain ⟨hf4, h⟩ := h
    refine o_slice (L := 0) (H := c0) rfl rfl rfl z_slT31 rfl rfl hs2 rfl ⟨_, rfl⟩ (by decide) hf3 hf4 trivial (by simp) (fun v5 hs6 => ?_)
    obtain ⟨r7, hr8, h⟩ := h
    refine st_call (foot := []) rfl rfl rfl rfl rfl rfl (callV_fn z_en91 (slices_Backward_byte_byte_ok hr8 σ hs6)) ?_
    rintro vτ9 τ9 gsτ9 hl10 ⟨f11, q12, rfl, rfl, hit13⟩
    refine st_end ?_
    refine st_block ?_
    obtain ⟨t14, w14, hR14, hA14⟩ := h
    refine st_env (ρ' := [(1, .pointer (some ⟨bc0, 0, none⟩)), (2, .pointer (some ⟨bc1, 0, none⟩)), (4, .int .i64 0), (5, .int .i64 0), (15, .func (.func f11) #[] q12)]) ⟨rfl, rfl, rfl, rfl, rfl, trivial⟩ ?_
    refine st_addNil ?_
    refine st_range (B := lens_Lens_word_1_l1) (s0 := c1) ranges_fctx rfl hit13 (Sto.Le.refl _) hR14 rfl (fun _ _ _ h => by cases h; rfl) (fun (s14 : Int) τ14 gs => τ9.Le τ14 ∧ gs = [[(bc0, .cells [.int .i64 c0].toArray 3 (0, 0))], [(bc1, .cells [.int .u32 s14].toArray 22 (0, 0))]]) (fun _ _ _ _ => False) (fun _ _ _ _ hl ⟨hb, hg⟩ => ⟨hb.trans hl, hg⟩) (fun _ _ _ _ _ _ h => h.elim) ⟨Sto.Le.refl _, rfl⟩ ?_ ?_ ?_
    · rintro x14 s14 o14 τ14 gs14 vx14 hl14 h rfl ⟨hb14, rfl⟩ l14 rc14 caller14 cs14 fs14
      refine st_region ?_
      refine o_assign rfl rfl rfl rfl ?_
      refine st_end ?_
      refine st_begin ?_
      refine st_block ?_
      refine st_region ?_
      refine o_load (j := 1) (v := .int .u32 s14) rfl rfl rfl z_sc22 rfl rfl rfl ?_
      refine o_shl rfl rfl rfl rfl rfl (by decide) ?_
      refine o_move rfl rfl rfl rfl ?_
      refine o_conv rfl rfl rfl Tryd.underlying5 Tryd.underlying22 rfl ?_
      refine o_ibin (v := .int .u32 (ior .u32 (ishl .u32 s14 8) (IntKind.u32.wrap x14.2))) rfl rfl rfl rfl rfl rfl ?_
      refine o_store (j := 1) (vs := [.int .u32 (ior .u32 (ishl .u32 s14 8) (IntKind.u32.wrap x14.2))]) (cs' := [.int .u32 (ior .u32 (ishl .u32 s14 8) (IntKind.u32.wrap x14.2))]) rfl rfl rfl z_size22 rfl rfl rfl (ones_cons rfl ones_nil) rfl rfl rfl ?_
      refine st_gs [[(bc0, .cells [.int .i64 c0].toArray 3 (0, 0))], [(bc1, .cells [.int .u32 (ior .u32 (ishl .u32 s14 8) (IntKind.u32.wrap x14.2))].toArray 22 (0, 0))]] rfl ?_
      refine st_end ?_
      refine st_inBlock ?_
      exact st_rend (List.Sublist.refl _) (Sto.Le.refl _) ⟨_, h, hl14, rfl⟩
    · rintro p15 τ16 gs14 f14 ht hl17 ⟨hb, rfl⟩ rfl
      subst ht
      replace h := hA14
      refine st_ord [1, 1] [[(bc0, .cells [.int .i64 c0].toArray 3 (0, 0))], [(bc1, .cells [.int .u32 p15].toArray 22 (0, 0))]] rfl ?_
      refine st_inBlock ?_
      refine st_seq ?_
      refine st_region ?_
      refine o_load (j := 0) (v := .int .i64 c0) rfl rfl rfl z_sc3 rfl rfl rfl ?_
      refine o_assign rfl rfl rfl rfl ?_
      refine o_assign rfl rfl rfl rfl ?_
      refine st_end ?_
      obtain rfl := Eq.symm h
      exact st_ret (gs' := [[(bc0, .cells [.int .i64 c0].toArray 3 (0, 0))], [(bc1, .cells [.int .u32 p15].toArray 22 (0, 0))]]) Tryd.func90 rfl (List.Sublist.refl _) (hl10.trans hl17) ⟨rfl, rfl⟩
    · exact fun _ _ _ _ _ _ _ h => h.elim
theorem lens_Lens_read__lens_Lens_word_1_ok {a0 : List Int × Int × Int} {a1_0 : Int} {a1_1 : Int} {ba0 : Nat} {v1 : Value} {ba1_0 : Nat} {ba1_1 : Nat} {r : Bool × (List Int × Int × Int) × Int} (h : lens_Lens_read__lens_Lens_word_1 a0 a1_0 a1_1 r) (σ : Sto) (hs2 : Sl (kI .u8) σ v1 a0.1) :
    Does Tryd.prog 89 [.pointer (some ⟨ba0, 0, none⟩), .func (.func 90) #[] [.pointer (some ⟨ba1_0, 0, none⟩), .pointer (some ⟨ba1_1, 0, none⟩)].toArray] σ [[(ba0, .cells [v1, .int .i64 a0.2.1, .int .i64 a0.2.2].toArray 111 (0, 0))], [(ba1_0, .cells [.int .i64 a1_0].toArray 3 (0, 0))], [(ba1_1, .cells [.int .u32 a1_1].toArray 22 (0, 0))]] (fun v τ gs => ∃ (v13 : Value), gs = [[(ba0, .cells [v13, .int .i64 r.2.1.2.1, .int .i64 r.2.1.2.2].toArray 111 (0, 0))], [(ba1_0, .cells [.int .i64 a1_0].toArray 3 (0, 0))], [(ba1_1, .cells [.int .u32 r.2.2].toArray 22 (0, 0))]] ∧ .bool r.1 = v ∧ Sl (kI .u8) τ v13 r.2.1.1) := by
  refine call_of Tryd.func89 Tryd.ntmps89 rfl rfl (fun cs fs => ?_)
  refine st_seq ?_
  refine st_region ?_
  refine o_assign rfl rfl rfl rfl ?_
  refine st_end ?_
  refine st_seq ?_
  refine st_seq ?_
  refine st_region ?_
  refine o_move rfl rfl rfl rfl ?_
  refine o_ptrNil (b := false) rfl rfl rfl Tryd.underlying72 rfl rfl rfl ?_
  refine o_move rfl rfl rfl rfl ?_
  refine o_move rfl rfl rfl rfl ?_
  refine o_nilCheck rfl rfl rfl rfl ?_
  refine o_fieldAddr rfl rfl rfl z_field111_2 rfl ?_
  refine o_load (j := 0) (v := .int .i64 a0.2.2) rfl rfl rfl z_sc32 rfl rfl rfl ?_
  refine o_ibin (v := .bool (!(decide (a0.2.2 = 0)))) rfl rfl rfl rfl rfl rfl ?_
  refine o_pick rfl rfl rfl rfl rfl ?_
  refine st_end ?_
  refine st_cond rfl (fun hc => ?_) (fun hc => ?_)
  · replace h := (if_pos hc).mp h
    refine st_seq ?_
    refine st_region ?_
    refine o_assign rfl rfl rfl rfl ?_
    refine st_end ?_
    obtain rfl := Eq.symm h
    exact st_ret (gs' := [[(ba0, .cells [v1, .int .i64 a0.2.1, .int .i64 a0.2.2].toArray 111 (0, 0))], [(ba1_0, .cells [.int .i64 a1_0].toArray 3 (0, 0))], [(ba1_1, .cells [.int .u32 a1_1].toArray 22 (0, 0))]]) Tryd.func89 rfl (List.Sublist.refl _) (Sto.Le.refl _) ⟨_, rfl, rfl, hs2⟩
  · replace h := (if_neg (ne_t hc)).mp h
    refine st_skip ?_
    refine st_seq ?_
    refine st_region ?_
    refine o_move rfl rfl rfl rfl ?_
    refine o_move rfl rfl rfl rfl ?_
    obtain ⟨r3, hr4, h⟩ := h
    refine st_call (foot := [[(ba0, .cells [v1, .int .i64 a0.2.1, .int .i64 a0.2.2].toArray 111 (0, 0))]]) rfl rfl rfl rfl rfl rfl (callV_fn z_en92 (lens_Lens_left_ok hr4 σ hs2)) ?_
    rintro vτ5 τ5 gsτ5 hl6 ⟨v7, rfl, rfl, hs8⟩
    obtain ⟨r9, hr10, h⟩ := h
    refine st_ord [1, 1, 0] [[(ba1_0, .cells [.int .i64 a1_0].toArray 3 (0, 0))], [(ba1_1, .cells [.int .u32 a1_1].toArray 22 (0, 0))], [(ba0, .cells [v1, .int .i64 a0.2.1, .int .i64 a0.2.2].toArray 111 (0, 0))]] rfl ?_
    refine st_call (foot := [[(ba1_0, .cells [.int .i64 a1_0].toArray 3 (0, 0))], [(ba1_1, .cells [.int .u32 a1_1].toArray 22 (0, 0))]]) rfl rfl rfl rfl rfl rfl (callV_of2 (caps := [.pointer (some ⟨ba1_0, 0, none⟩), .pointer (some ⟨ba1_1, 0, none⟩)]) z_en90 (lens_Lens_word_1_ok hr10 τ5 hs8) rfl) ?_
    rintro vτ11 τ11 gsτ11 hl12 ⟨rfl, rfl⟩
    refine o_move rfl rfl rfl rfl ?_
    refine o_extract rfl rfl rfl rfl rfl ?_
    refine o_extract rfl rfl rfl rfl rfl ?_
    refine o_assign rfl rfl rfl rfl ?_
    refine o_assign rfl rfl rfl rfl ?_
    refine st_end ?_
    refine st_seq ?_
    refine st_seq ?_
    refine st_region ?_
    refine o_move rfl rfl rfl rfl ?_
    refine o_ibin (v := .bool (!(decide (r9.2.1 = 0)))) rfl rfl rfl rfl rfl rfl ?_
    refine st_end ?_
    refine st_cond rfl (fun hc => ?_) (fun hc => ?_)
    · replace h := (if_pos hc).mp h
      refine st_seq ?_
      refine st_region ?_
      refine o_move rfl rfl rfl rfl ?_
      refine o_move rfl rfl rfl rfl ?_
      refine o_nilCheck rfl rfl rfl rfl ?_
      refine o_fieldAddr rfl rfl rfl z_field111_2 rfl ?_
      refine o_store (j := 2) (vs := [.int .i64 r9.2.1]) (cs' := [v1, .int .i64 a0.2.1, .int .i64 r9.2.1]) rfl rfl rfl z_size32 rfl rfl rfl (ones_cons rfl ones_nil) rfl rfl rfl ?_
      refine st_gs [[(ba1_0, .cells [.int .i64 a1_0].toArray 3 (0, 0))], [(ba1_1, .cells [.int .u32 r9.2.2].toArray 22 (0, 0))], [(ba0, .cells [v1, .int .i64 a0.2.1, .int .i64 r9.2.1].toArray 111 (0, 0))]] rfl ?_
      refine st_end ?_
      refine st_seq ?_
      refine st_region ?_
      refine o_assign rfl rfl rfl rfl ?_
      refine st_end ?_
      refine st_ord [2, 0, 0] [[(ba0, .cells [v1, .int .i64 a0.2.1, .int .i64 r9.2.1].toArray 111 (0, 0))], [(ba1_0, .cells [.int .i64 a1_0].toArray 3 (0, 0))], [(ba1_1, .cells [.int .u32 r9.2.2].toArray 22 (0, 0))]] rfl ?_
      obtain rfl := Eq.symm h
      exact st_ret (gs' := [[(ba0, .cells [v1, .int .i64 a0.2.1, .int .i64 r9.2.1].toArray 111 (0, 0))], [(ba1_0, .cells [.int .i64 a1_0].toArray 3 (0, 0))], [(ba1_1, .cells [.int .u32 r9.2.2].toArray 22 (0, 0))]]) Tryd.func89 rfl (List.Sublist.refl _) (hl6.trans hl12) ⟨_, rfl, rfl, (hs2.up (hl6.trans hl12))⟩
    · replace h := (if_neg (ne_t hc)).mp h
      refine st_skip ?_
      refine st_seq ?_
      refine st_region ?_
      refine o_move rfl rfl rfl rfl ?_
      refine o_nilCheck rfl rfl rfl rfl ?_
      refine o_fieldAddr rfl rfl rfl z_field111_1 rfl ?_
      refine o_load (j := 2) (v := .int .i64 a0.2.1) rfl rfl rfl z_sc3 rfl rfl rfl ?_
      refine o_move rfl rfl rfl rfl ?_
      refine o_ibin (v := .int .i64 (IntKind.i64.wrap (a0.2.1 + r9.1))) rfl rfl rfl rfl rfl rfl ?_
      refine o_nilCheck rfl rfl rfl rfl ?_
      refine o_fieldAddr rfl rfl rfl z_field111_1 rfl ?_
      refine o_store (j := 2) (vs := [.int .i64 (IntKind.i64.wrap (a0.2.1 + r9.1))]) (cs' := [v1, .int .i64 (IntKind.i64.wrap (a0.2.1 + r9.1)), .int .i64 a0.2.2]) rfl rfl rfl z_size3 rfl rfl rfl (ones_cons rfl ones_nil) rfl rfl rfl ?_
      refine st_gs [[(ba1_0, .cells [.int .i64 a1_0].toArray 3 (0, 0))], [(ba1_1, .cells [.int .u32 r9.2.2].toArray 22 (0, 0))], [(ba0, .cells [v1, .int .i64 (IntKind.i64.wrap (a0.2.1 + r9.1)), .int .i64 a0.2.2].toArray 111 (0, 0))]] rfl ?_
      refine st_end ?_
      refine st_seq ?_
      refine st_region ?_
      refine o_assign rfl rfl rfl rfl ?_
      refine st_end ?_
      refine st_ord [2, 0, 0] [[(ba0, .cells [v1, .int .i64 (IntKind.i64.wrap (a0.2.1 + r9.1)), .int .i64 a0.2.2].toArray 111 (0, 0))], [(ba1_0, .cells [.int .i64 a1_0].toArray 3 (0, 0))], [(ba1_1, .cells [.int .u32 r9.2.2].toArray 22 (0, 0))]] rfl ?_
      obtain rfl := Eq.symm h
      exact st_ret (gs' := [[(ba0, .cells [v1, .int .i64 (IntKind.i64.wrap (a0.2.1 + r9.1)), .int .i64 a0.2.2].toArray 111 (0, 0))], [(ba1_0, .cells [.int .i64 a1_0].toArray 3 (0, 0))], [(ba1_1, .cells [.int .u32 r9.2.2].toArray 22 (0, 0))]]) Tryd.func89 rfl (List.Sublist.refl _) (hl6.trans hl12) ⟨_, rfl, rfl, (hs2.up (hl6.trans hl12))⟩
theorem lens_Lens_word_ok {a0 : List Int × Int × Int} {a1 : Int} {ba0 : Nat} {v1 : Value} {r : Int × (List Int × Int × Int)} (h : lens_Lens_word a0 a1 r) (σ : Sto) (hs2 : Sl (kI .u8) σ v1 a0.1) :
    Does Tryd.prog 68 [.pointer (some ⟨ba0, 0, none⟩), .int .i64 a1] σ [[(ba0, .cells [v1, .int .i64 a0.2.1, .int .i64 a0.2.2].toArray 111 (0, 0))]] (fun v τ gs => ∃ (v11 : Value), gs = [[(ba0, .cells [v11, .int .i64 r.2.2.1, .int .i64 r.2.2.2].toArray 111 (0, 0))]] ∧ .int .u32 r.1 = v ∧ Sl (kI .u8) τ v11 r.2.1) := by
  refine call_of Tryd.func68 Tryd.ntmps68 rfl rfl (fun cs fs => ?_)
  refine st_seq ?_
  refine st_region ?_
  refine o_box (cs := [.int .i64 a1]) rfl rfl rfl rfl rfl (fun b3 => ?_)
  refine o_assign rfl rfl rfl rfl ?_
  refine st_end ?_
  refine st_seq ?_
  refine st_region ?_
  refine o_alloc rfl rfl rfl z_zero22 (fun b4 => ?_)
  refine o_store (j := 0) (vs := [.int .u32 0]) (cs' := [.int .u32 0]) rfl rfl rfl z_size22 rfl rfl rfl (ones_cons rfl ones_nil) rfl rfl rfl ?_
  refine st_gs [[(b4, .cells [.int .u32 0].toArray 22 (0, 0))], [(b3, .cells [.int .i64 a1].toArray 3 (0, 0))], [(ba0, .cells [v1, .int .i64 a0.2.1, .int .i64 a0.2.2].toArray 111 (0, 0))]] rfl ?_
  refine st_end ?_
  refine st_seq ?_
  refine st_region ?_
  refine o_move rfl rfl rfl rfl ?_
  refine o_func rfl rfl rfl rfl rfl ?_
  obtain ⟨r5, hr6, h⟩ := h
  refine st_ord [2, 1, 0] [[(ba0, .cells [v1, .int .i64 a0.2.1, .int .i64 a0.2.2].toArray 111 (0, 0))], [(b3, .cells [.int .i64 a1].toArray 3 (0, 0))], [(b4, .cells [.int .u32 0].toArray 22 (0, 0))]] rfl ?_
  refine st_call (foot := [[(ba0, .cells [v1, .int .i64 a0.2.1, .int .i64 a0.2.2].toArray 111 (0, 0))], [(b3, .cells [.int .i64 a1].toArray 3 (0, 0))], [(b4, .cells [.int .u32 0].toArray 22 (0, 0))]]) rfl rfl rfl rfl rfl rfl (callV_fn z_en89 (lens_Lens_read__lens_Lens_word_1_ok hr6 σ hs2)) ?_
  rintro vτ7 τ7 gsτ7 hl8 ⟨v9, rfl, rfl, hs10⟩
  refine st_end ?_
  refine st_seq ?_
  refine st_region ?_
  refine o_load (j := 2) (v := .int .u32 r5.2.2) rfl rfl rfl z_sc22 rfl rfl rfl ?_
  refine o_assign rfl rfl rfl rfl ?_
  refine st_end ?_
  refine st_ord [0] [[(ba0, .cells [v9, .int .i64 r5.2.1.2.1, .int .i64 r5.2.1.2.2].toArray 111 (0, 0))]] rfl ?_
  obtain rfl := Eq.symm h
  exact st_ret (gs' := [[(ba0, .cells [v9, .int .i64 r5.2.1.2.1, .int .i64 r5.2.1.2.2].toArray 111 (0, 0))]]) Tryd.func68 rfl (List.Sublist.refl _) hl8 ⟨_, rfl, rfl, hs10⟩
theorem lens_Lens_U8_ok {a0 : List Int × Int × Int} {ba0 : Nat} {v1 : Value} {r : Int × (List Int × Int × Int)} (h : lens_Lens_U8 a0 r) (σ : Sto) (hs2 : Sl (kI .u8) σ v1 a0.1) :
    Does Tryd.prog 39 [.pointer (some ⟨ba0, 0, none⟩)] σ [[(ba0, .cells [v1, .int .i64 a0.2.1, .int .i64 a0.2.2].toArray 111 (0, 0))]] (fun v τ gs => ∃ (v9 : Value), gs = [[(ba0, .cells [v9, .int .i64 r.2.2.1, .int .i64 r.2.2.2].toArray 111 (0, 0))]] ∧ .int .u8 r.1 = v ∧ Sl (kI .u8) τ v9 r.2.1) := by
  refine call_of Tryd.func39 Tryd.ntmps39 rfl rfl (fun cs fs => ?_)
  refine st_seq ?_
  refine st_region ?_
  refine o_assign rfl rfl rfl rfl ?_
  refine st_end ?_
  refine st_seq ?_
  refine st_region ?_
  refine o_move rfl rfl rfl rfl ?_
  obtain ⟨r3, hr4, h⟩ := h
  refine st_call (foot := [[(ba0, .cells [v1, .int .i64 a0.2.1, .int .i64 a0.2.2].toArray 111 (0, 0))]]) rfl rfl rfl rfl rfl rfl (callV_fn z_en68 (lens_Lens_word_ok hr4 σ hs2)) ?_
  rintro vτ5 τ5 gsτ5 hl6 ⟨v7, rfl, rfl, hs8⟩
  refine o_conv rfl rfl rfl Tryd.underlying22 Tryd.underlying5 rfl ?_
  refine o_assign rfl rfl rfl rfl ?_
  refine st_end ?_
  obtain rfl := Eq.symm h
  exact st_ret (gs' := [[(ba0, .cells [v7, .int .i64 r3.2.2.1, .int .i64 r3.2.2.2].toArray 111 (0, 0))]]) Tryd.func39 rfl (List.Sublist.refl _) hl6 ⟨_, rfl, rfl, hs8⟩
theorem lens_Lens_U32_ok {a0 : List Int × Int × Int} {ba0 : Nat} {v1 : Value} {r : Int × (List Int × Int × Int)} (h : lens_Lens_U32 a0 r) (σ : Sto) (hs2 : Sl (kI .u8) σ v1 a0.1) :
    Does Tryd.prog 40 [.pointer (some ⟨ba0, 0, none⟩)] σ [[(ba0, .cells [v1, .int .i64 a0.2.1, .int .i64 a0.2.2].toArray 111 (0, 0))]] (fun v τ gs => ∃ (v9 : Value), gs = [[(ba0, .cells [v9, .int .i64 r.2.2.1, .int .i64 r.2.2.2].toArray 111 (0, 0))]] ∧ .int .u32 r.1 = v ∧ Sl (kI .u8) τ v9 r.2.1) := by
  refine call_of Tryd.func40 Tryd.ntmps40 rfl rfl (fun cs fs => ?_)
  refine st_seq ?_
  refine st_region ?_
  refine o_assign rfl rfl rfl rfl ?_
  refine st_end ?_
  refine st_seq ?_
  refine st_region ?_
  refine o_move rfl rfl rfl rfl ?_
  obtain ⟨r3, hr4, h⟩ := h
  refine st_call (foot := [[(ba0, .cells [v1, .int .i64 a0.2.1, .int .i64 a0.2.2].toArray 111 (0, 0))]]) rfl rfl rfl rfl rfl rfl (callV_fn z_en68 (lens_Lens_word_ok hr4 σ hs2)) ?_
  rintro vτ5 τ5 gsτ5 hl6 ⟨v7, rfl, rfl, hs8⟩
  refine o_assign rfl rfl rfl rfl ?_
  refine st_end ?_
  obtain rfl := Eq.symm h
  exact st_ret (gs' := [[(ba0, .cells [v7, .int .i64 r3.2.2.1, .int .i64 r3.2.2.2].toArray 111 (0, 0))]]) Tryd.func40 rfl (List.Sublist.refl _) hl6 ⟨_, rfl, rfl, hs8⟩
theorem lens_Lens_Err_ok {a0 : List Int × Int × Int} {ba0 : Nat} {v1 : Value} {r : Int} (h : lens_Lens_Err a0 r) (σ : Sto) (hs2 : Sl (kI .u8) σ v1 a0.1) :
    Does Tryd.prog 69 [.pointer (some ⟨ba0, 0, none⟩)] σ [[(ba0, .cells [v1, .int .i64 a0.2.1, .int .i64 a0.2.2].toArray 111 (0, 0))]] (fun v τ gs => gs = [[(ba0, .cells [v1, .int .i64 a0.2.1, .int .i64 a0.2.2].toArray 111 (0, 0))]] ∧ .int .i64 r = v) := by
  refine call_of Tryd.func69 Tryd.ntmps69 rfl rfl (fun cs fs => ?_)
  refine st_seq ?_
  refine st_region ?_
  refine o_assign rfl rfl rfl rfl ?_
  refine st_end ?_
  refine st_seq ?_
  refine st_seq ?_
  refine st_region ?_
  refine o_move rfl rfl rfl rfl ?_
  refine o_ptrNil (b := false) rfl rfl rfl Tryd.underlying72 rfl rfl rfl ?_
  refine st_end ?_
  refine st_condF rfl ?_
  refine st_skip ?_
  refine st_seq ?_
  refine st_region ?_
  refine o_move rfl rfl rfl rfl ?_
  refine o_nilCheck rfl rfl rfl rfl ?_
  refine o_fieldAddr rfl rfl rfl z_field111_2 rfl ?_
  refine o_load (j := 0) (v := .int .i64 a0.2.2) rfl rfl rfl z_sc32 rfl rfl rfl ?_
  refine o_assign rfl rfl rfl rfl ?_
  refine st_end ?_
  obtain rfl := Eq.symm h
  exact st_ret (gs' := [[(ba0, .cells [v1, .int .i64 a0.2.1, .int .i64 a0.2.2].toArray 111 (0, 0))]]) Tryd.func69 rfl (List.Sublist.refl _) (Sto.Le.refl _) ⟨rfl, rfl⟩
theorem lens_Lens_Left_ok {a0 : List Int × Int × Int} {ba0 : Nat} {v1 : Value} {r : Int} (h : lens_Lens_Left a0 r) (σ : Sto) (hs2 : Sl (kI .u8) σ v1 a0.1) :
    Does Tryd.prog 70 [.pointer (some ⟨ba0, 0, none⟩)] σ [[(ba0, .cells [v1, .int .i64 a0.2.1, .int .i64 a0.2.2].toArray 111 (0, 0))]] (fun v τ gs => gs = [[(ba0, .cells [v1, .int .i64 a0.2.1, .int .i64 a0.2.2].toArray 111 (0, 0))]] ∧ .int .i64 r = v) := by
  refine call_of Tryd.func70 Tryd.ntmps70 rfl rfl (fun cs fs => ?_)
  refine st_seq ?_
  refine st_region ?_
  refine o_assign rfl rfl rfl rfl ?_
  refine st_end ?_
  refine st_seq ?_
  refine st_seq ?_
  refine st_region ?_
  refine o_move rfl rfl rfl rfl ?_
  refine o_ptrNil (b := false) rfl rfl rfl Tryd.underlying72 rfl rfl rfl ?_
  refine st_end ?_
  refine st_condF rfl ?_
  refine st_skip ?_
  refine st_seq ?_
  refine st_region ?_
  refine o_move rfl rfl rfl rfl ?_
  obtain ⟨r3, hr4, h⟩ := h
  refine st_call (foot := [[(ba0, .cells [v1, .int .i64 a0.2.1, .int .i64 a0.2.2].toArray 111 (0, 0))]]) rfl rfl rfl rfl rfl rfl (callV_fn z_en92 (lens_Lens_left_ok hr4 σ hs2)) ?_
  rintro vτ5 τ5 gsτ5 hl6 ⟨v7, rfl, rfl, hs8⟩
  refine o_lenI rfl rfl rfl z_slT31 rfl hs8 ?_
  refine o_assign rfl rfl rfl rfl ?_
  refine st_end ?_
  obtain rfl := Eq.symm h
  exact st_ret (gs' := [[(ba0, .cells [v1, .int .i64 a0.2.1, .int .i64 a0.2.2].toArray 111 (0, 0))]]) Tryd.func70 rfl (List.Sublist.refl _) hl6 ⟨rfl, rfl⟩
theorem lens_Lens_End_ok {a0 : List Int × Int × Int} {ba0 : Nat} {v1 : Value} {r : Int} (h : lens_Lens_End a0 r) (σ : Sto) (hs2 : Sl (kI .u8) σ v1 a0.1) :
    Does Tryd.prog 41 [.pointer (some ⟨ba0, 0, none⟩)] σ [[(ba0, .cells [v1, .int .i64 a0.2.1, .int .i64 a0.2.2].toArray 111 (0, 0))]] (fun v τ gs => gs = [[(ba0, .cells [v1, .int .i64 a0.2.1, .int .i64 a0.2.2].toArray 111 (0, 0))]] ∧ .int .i64 r = v) := by
  refine call_of Tryd.func41 Tryd.ntmps41 rfl rfl (fun cs fs => ?_)
  refine st_seq ?_
  refine st_region ?_
  refine o_assign rfl rfl rfl rfl ?_
  refine st_end ?_
  refine st_seq ?_
  refine st_seq ?_
  refine st_region ?_
  refine o_move rfl rfl rfl rfl ?_
  obtain ⟨r3, hr4, h⟩ := h
  refine st_call (foot := [[(ba0, .cells [v1, .int .i64 a0.2.1, .int .i64 a0.2.2].toArray 111 (0, 0))]]) rfl rfl rfl rfl rfl rfl (callV_fn z_en69 (lens_Lens_Err_ok hr4 σ hs2)) ?_
  rintro vτ5 τ5 gsτ5 hl6 ⟨rfl, rfl⟩
  refine o_assign rfl rfl rfl rfl ?_
  refine st_end ?_
  refine st_seq ?_
  refine st_cut (fun ρ τ7 gs => ∃ (s7 : Bool), lens_Lens_End_j1 r3 s7 r ∧ τ5.Le τ7 ∧ ρ = [(2, .int .i64 0), (3, .int .i64 r3), (12, .bool s7)] ∧ gs = [[(ba0, .cells [v1, .int .i64 a0.2.1, .int .i64 a0.2.2].toArray 111 (0, 0))]]) ?_ (fun hk7 => ?_)
  · rintro ρ7 τ7 gs7 ⟨s7, h, hl7, rfl, rfl⟩
    refine st_cond rfl (fun hc => ?_) (fun hc => ?_)
    · replace h := (if_pos hc).mp h
      refine st_seq ?_
      refine st_region ?_
      refine o_move rfl rfl rfl rfl ?_
      refine o_assign rfl rfl rfl rfl ?_
      refine st_end ?_
      obtain rfl := Eq.symm h
      exact st_ret (gs' := [[(ba0, .cells [v1, .int .i64 a0.2.1, .int .i64 a0.2.2].toArray 111 (0, 0))]]) Tryd.func41 rfl (List.Sublist.refl _) (hl6.trans hl7) ⟨rfl, rfl⟩
    · replace h := (if_neg (ne_t hc)).mp h
      refine st_skip ?_
      refine st_seq ?_
      refine st_region ?_
      refine o_assign rfl rfl rfl rfl ?_
      refine st_end ?_
      obtain rfl := Eq.symm h
      exact st_ret (gs' := [[(ba0, .cells [v1, .int .i64 a0.2.1, .int .i64 a0.2.2].toArray 111 (0, 0))]]) Tryd.func41 rfl (List.Sublist.refl _) (hl6.trans hl7) ⟨rfl, rfl⟩
  refine st_region ?_
  refine o_move rfl rfl rfl rfl ?_
  refine o_ibin (v := .bool (!(decide (r3 = 0)))) rfl rfl rfl rfl rfl rfl ?_
  refine o_moveB rfl rfl rfl rfl (fun hc => ?_) (fun hc => ?_)
  · replace h := (if_pos hc).mp h
    refine st_pass rfl rfl rfl rfl rfl rfl ?_
    refine st_pass rfl rfl rfl rfl rfl rfl ?_
    refine st_pass rfl rfl rfl rfl rfl rfl ?_
    refine o_pick rfl rfl rfl rfl rfl ?_
    refine st_end ?_
    refine st_env (ρ' := [(2, .int .i64 0), (3, .int .i64 r3), (12, .bool true)]) ⟨rfl, rfl, rfl, trivial⟩ ?_
    exact hk7 _ _ _ ⟨true, h, (Sto.Le.refl _), rfl, rfl⟩
  · replace h := (if_neg (ne_t hc)).mp h
    refine o_move rfl rfl rfl rfl ?_
    obtain ⟨r8, hr9, h⟩ := h
    refine st_call (foot := [[(ba0, .cells [v1, .int .i64 a0.2.1, .int .i64 a0.2.2].toArray 111 (0, 0))]]) rfl rfl rfl rfl rfl rfl (callV_fn z_en70 (lens_Lens_Left_ok hr9 τ5 (hs2.up hl6))) ?_
    rintro vτ10 τ10 gsτ10 hl11 ⟨rfl, rfl⟩
    refine o_ibin (v := .bool (decide (r8 = 0))) rfl rfl rfl rfl rfl rfl ?_
    refine o_pick rfl rfl rfl rfl rfl ?_
    refine st_end ?_
    refine st_env (ρ' := [(2, .int .i64 0), (3, .int .i64 r3), (12, .bool (decide (r8 = 0)))]) ⟨rfl, rfl, rfl, trivial⟩ ?_
    exact hk7 _ _ _ ⟨(decide (r8 = 0)), h, hl11, rfl, rfl⟩
theorem head_Parse_ok {a0 : List Int} {v1 : Value} {r : (Int × Int × Int × Int × Int) × Int} (h : head_Parse a0 r) (σ : Sto) (hs2 : Sl (kI .u8) σ v1 a0) :
    Does Tryd.prog 12 [v1] σ [] (fun v τ gs => gs = [] ∧ .tuple [.agg [.int .i64 r.1.1, .int .i64 r.1.2.1, .int .u32 r.1.2.2.1, .int .i64 r.1.2.2.2.1, .int .i64 r.1.2.2.2.2].toArray, .int .i64 r.2].toArray = v) := by
  refine call_of Tryd.func12 Tryd.ntmps12 rfl rfl (fun cs fs => ?_)
  refine st_seq ?_
  refine st_region ?_
  refine o_alloc rfl rfl rfl z_zero24 (fun b3 => ?_)
  refine o_assign rfl rfl rfl rfl ?_
  refine st_end ?_
  refine st_seq ?_
  refine st_seq ?_
  refine st_region ?_
  refine o_move rfl rfl rfl rfl ?_
  refine o_lenI rfl rfl rfl z_slT31 rfl hs2 ?_
  refine o_ibin (v := .bool (decide ((a0.length : Int) < 8))) rfl rfl rfl rfl rfl rfl ?_
  refine st_end ?_
  refine st_cond rfl (fun hc => ?_) (fun hc => ?_)
  · replace h := (if_pos hc).mp h
    refine st_seq ?_
    refine st_region ?_
    refine o_build (ps := []) (cs := [.int .i64 0, .int .i64 0, .int .u32 0, .int .i64 0, .int .i64 0]) rfl rfl rfl z_struct24 trivial rfl ?_
    refine o_store (j := 0) (vs := [.int .i64 0, .int .i64 0, .int .u32 0, .int .i64 0, .int .i64 0]) (cs' := [.int .i64 0, .int .i64 0, .int .u32 0, .int .i64 0, .int .i64 0]) rfl rfl rfl z_size24 rfl rfl rfl (ones_cons rfl (ones_cons rfl (ones_cons rfl (ones_cons rfl (ones_cons rfl ones_nil))))) rfl rfl rfl ?_
    refine st_gs [[(b3, .cells [.int .i64 0, .int .i64 0, .int .u32 0, .int .i64 0, .int .i64 0].toArray 24 (0, 0))]] rfl ?_
    refine o_assign rfl rfl rfl rfl ?_
    refine st_end ?_
    obtain rfl := Eq.symm h
    exact st_retC (gs' := []) [.agg [.int .i64 0, .int .i64 0, .int .u32 0, .int .i64 0, .int .i64 0].toArray, .int .i64 13] Tryd.func12 ⟨⟨_, _, _, _, rfl, mem_flat 0 rfl, fun w hw => cellOfN (vs := [.int .i64 0, .int .i64 0, .int .u32 0, .int .i64 0, .int .i64 0]) z_agg24 rfl w hw⟩, rfl, trivial⟩ (by simp) (Sto.Le.refl _) ⟨rfl, rfl⟩
  · replace h := (if_neg (ne_t hc)).mp h
    refine st_skip ?_
    refine st_seq ?_
    refine st_region ?_
    refine o_move rfl rfl rfl rfl ?_
    obtain ⟨r4, hr5, h⟩ := h
    refine st_call (foot := []) rfl rfl rfl rfl rfl rfl (callV_fn z_en38 (lens_New_ok hr5 σ hs2)) ?_
    rintro vτ6 τ6 gsτ6 hl7 ⟨b8, v9, rfl, rfl, hs10⟩
    refine o_assign rfl rfl rfl rfl ?_
    refine st_end ?_
    refine st_seq ?_
    refine st_region ?_
    refine o_move rfl rfl rfl rfl ?_
    obtain ⟨r11, hr12, h⟩ := h
    refine st_call (foot := [[(b8, .cells [v9, .int .i64 r4.2.1, .int .i64 r4.2.2].toArray 111 (0, 0))]]) rfl rfl rfl rfl rfl rfl (callV_fn z_en39 (lens_Lens_U8_ok hr12 τ6 hs10)) ?_
    rintro vτ13 τ13 gsτ13 hl14 ⟨v15, rfl, rfl, hs16⟩
    refine o_conv rfl rfl rfl Tryd.underlying5 Tryd.underlying3 rfl ?_
    refine o_move rfl rfl rfl rfl ?_
    obtain ⟨r17, hr18, h⟩ := h
    refine st_call (foot := [[(b8, .cells [v15, .int .i64 r11.2.2.1, .int .i64 r11.2.2.2].toArray 111 (0, 0))]]) rfl rfl rfl rfl rfl rfl (callV_fn z_en39 (lens_Lens_U8_ok hr18 τ13 hs16)) ?_
    rintro vτ19 τ19 gsτ19 hl20 ⟨v21, rfl, rfl, hs22⟩
    refine o_conv rfl rfl rfl Tryd.underlying5 Tryd.underlying3 rfl ?_
    refine o_move rfl rfl rfl rfl ?_
    obtain ⟨r23, hr24, h⟩ := h
    refine st_call (foot := [[(b8, .cells [v21, .int .i64 r17.2.2.1, .int .i64 r17.2.2.2].toArray 111 (0, 0))]]) rfl rfl rfl rfl rfl rfl (callV_fn z_en40 (lens_Lens_U32_ok hr24 τ19 hs22)) ?_
    rintro vτ25 τ25 gsτ25 hl26 ⟨v27, rfl, rfl, hs28⟩
    refine o_move rfl rfl rfl rfl ?_
    obtain ⟨r29, hr30, h⟩ := h
    refine st_call (foot := [[(b8, .cells [v27, .int .i64 r23.2.2.1, .int .i64 r23.2.2.2].toArray 111 (0, 0))]]) rfl rfl rfl rfl rfl rfl (callV_fn z_en39 (lens_Lens_U8_ok hr30 τ25 hs28)) ?_
    rintro vτ31 τ31 gsτ31 hl32 ⟨v33, rfl, rfl, hs34⟩
    refine o_conv rfl rfl rfl Tryd.underlying5 Tryd.underlying3 rfl ?_
    refine o_move rfl rfl rfl rfl ?_
    obtain ⟨r35, hr36, h⟩ := h
    refine st_call (foot := [[(b8, .cells [v33, .int .i64 r29.2.2.1, .int .i64 r29.2.2.2].toArray 111 (0, 0))]]) rfl rfl rfl rfl rfl rfl (callV_fn z_en39 (lens_Lens_U8_ok hr36 τ31 hs34)) ?_
    rintro vτ37 τ37 gsτ37 hl38 ⟨v39, rfl, rfl, hs40⟩
    refine o_conv rfl rfl rfl Tryd.underlying5 Tryd.underlying3 rfl ?_
    refine o_build (ps := [(0, [.int .i64 (IntKind.i64.wrap r11.1)]), (1, [.int .i64 (IntKind.i64.wrap r17.1)]), (2, [.int .u32 r23.1]), (3, [.int .i64 (IntKind.i64.wrap r29.1)]), (4, [.int .i64 (IntKind.i64.wrap r35.1)])]) (cs := [.int .i64 (IntKind.i64.wrap r11.1), .int .i64 (IntKind.i64.wrap r17.1), .int .u32 r23.1, .int .i64 (IntKind.i64.wrap r29.1), .int .i64 (IntKind.i64.wrap r35.1)]) rfl rfl rfl z_struct24 ⟨rfl, ⟨_, rfl, rfl⟩, ⟨rfl, ⟨_, rfl, rfl⟩, ⟨rfl, ⟨_, rfl, rfl⟩, ⟨rfl, ⟨_, rfl, rfl⟩, ⟨rfl, ⟨_, rfl, rfl⟩, trivial⟩⟩⟩⟩⟩ rfl ?_
    refine o_alloc rfl rfl rfl z_zero24 (fun b41 => ?_)
    refine o_store (j := 0) (vs := [.int .i64 (IntKind.i64.wrap r11.1), .int .i64 (IntKind.i64.wrap r17.1), .int .u32 r23.1, .int .i64 (IntKind.i64.wrap r29.1), .int .i64 (IntKind.i64.wrap r35.1)]) (cs' := [.int .i64 (IntKind.i64.wrap r11.1), .int .i64 (IntKind.i64.wrap r17.1), .int .u32 r23.1, .int .i64 (IntKind.i64.wrap r29.1), .int .i64 (IntKind.i64.wrap r35.1)]) rfl rfl rfl z_size24 rfl rfl rfl (ones_cons rfl (ones_cons rfl (ones_cons rfl (ones_cons rfl (ones_cons rfl ones_nil))))) rfl rfl rfl ?_
    refine st_gs [[(b41, .cells [.int .i64 (IntKind.i64.wrap r11.1), .int .i64 (IntKind.i64.wrap r17.1), .int .u32 r23.1, .int .i64 (IntKind.i64.wrap r29.1), .int .i64 (IntKind.i64.wrap r35.1)].toArray 24 (0, 0))], [(b8, .cells [v39, .int .i64 r35.2.2.1, .int .i64 r35.2.2.2].toArray 111 (0, 0))], [(b3, .cells [.int .i64 0, .int .i64 0, .int .u32 0, .int .i64 0, .int .i64 0].toArray 24 (0, 0))]] rfl ?_
    refine st_end ?_
    refine st_seq ?_
    refine st_region ?_
    refine o_move rfl rfl rfl rfl ?_
    obtain ⟨r42, hr43, h⟩ := h
    refine st_ord [1, 0, 0] [[(b8, .cells [v39, .int .i64 r35.2.2.1, .int .i64 r35.2.2.2].toArray 111 (0, 0))], [(b41, .cells [.int .i64 (IntKind.i64.wrap r11.1), .int .i64 (IntKind.i64.wrap r17.1), .int .u32 r23.1, .int .i64 (IntKind.i64.wrap r29.1), .int .i64 (IntKind.i64.wrap r35.1)].toArray 24 (0, 0))], [(b3, .cells [.int .i64 0, .int .i64 0, .int .u32 0, .int .i64 0, .int .i64 0].toArray 24 (0, 0))]] rfl ?_
    refine st_call (foot := [[(b8, .cells [v39, .int .i64 r35.2.2.1, .int .i64 r35.2.2.2].toArray 111 (0, 0))]]) rfl rfl rfl rfl rfl rfl (callV_fn z_en41 (lens_Lens_End_ok hr43 τ37 hs40)) ?_
    rintro vτ44 τ44 gsτ44 hl45 ⟨rfl, rfl⟩
    refine o_assign rfl rfl rfl rfl ?_
    refine st_end ?_
    refine st_seq ?_
    refine st_cut (fun ρ τ46 gs => ∃ (s46 : Int), head_Parse_j1 r11 r17 r23 r29 r35 s46 r ∧ τ44.Le τ46 ∧ ρ = [(2, .pointer (some ⟨b3, 0, none⟩)), (3, .int .i64 0), (5, .pointer (some ⟨b41, 0, none⟩)), (6, .int .i64 s46)] ∧ gs = [[(b3, .cells [.int .i64 0, .int .i64 0, .int .u32 0, .int .i64 0, .int .i64 0].toArray 24 (0, 0))], [(b41, .cells [.int .i64 (IntKind.i64.wrap r11.1), .int .i64 (IntKind.i64.wrap r17.1), .int .u32 r23.1, .int .i64 (IntKind.i64.wrap r29.1), .int .i64 (IntKind.i64.wrap r35.1)].toArray 24 (0, 0))]]) ?_ (fun hk46 => ?_)
    · rintro ρ46 τ46 gs46 ⟨s46, h, hl46, rfl, rfl⟩
      refine st_seq ?_
      refine st_seq ?_
      refine st_region ?_
      refine o_move rfl rfl rfl rfl ?_
      refine o_ibin (v := .bool (!(decide (s46 = 0)))) rfl rfl rfl rfl rfl rfl ?_
      refine st_end ?_
      refine st_cond rfl (fun hc => ?_) (fun hc => ?_)
      · replace h := (if_pos hc).mp h
        refine st_seq ?_
        refine st_region ?_
        refine o_build (ps := []) (cs := [.int .i64 0, .int .i64 0, .int .u32 0, .int .i64 0, .int .i64 0]) rfl rfl rfl z_struct24 trivial rfl ?_
        refine o_move rfl rfl rfl rfl ?_
        refine o_store (j := 0) (vs := [.int .i64 0, .int .i64 0, .int .u32 0, .int .i64 0, .int .i64 0]) (cs' := [.int .i64 0, .int .i64 0, .int .u32 0, .int .i64 0, .int .i64 0]) rfl rfl rfl z_size24 rfl rfl rfl (ones_cons rfl (ones_cons rfl (ones_cons rfl (ones_cons rfl (ones_cons rfl ones_nil))))) rfl rfl rfl ?_
        refine st_gs [[(b3, .cells [.int .i64 0, .int .i64 0, .int .u32 0, .int .i64 0, .int .i64 0].toArray 24 (0, 0))], [(b41, .cells [.int .i64 (IntKind.i64.wrap r11.1), .int .i64 (IntKind.i64.wrap r17.1), .int .u32 r23.1, .int .i64 (IntKind.i64.wrap r29.1), .int .i64 (IntKind.i64.wrap r35.1)].toArray 24 (0, 0))]] rfl ?_
        refine o_assign rfl rfl rfl rfl ?_
        refine st_end ?_
        obtain rfl := Eq.symm h
        exact st_retC (gs' := []) [.agg [.int .i64 0, .int .i64 0, .int .u32 0, .int .i64 0, .int .i64 0].toArray, .int .i64 s46] Tryd.func12 ⟨⟨_, _, _, _, rfl, mem_flat 0 rfl, fun w hw => cellOfN (vs := [.int .i64 0, .int .i64 0, .int .u32 0, .int .i64 0, .int .i64 0]) z_agg24 rfl w hw⟩, rfl, trivial⟩ (by simp) (((((((hl7.trans hl14).trans hl20).trans hl26).trans hl32).trans hl38).trans hl45).trans hl46) ⟨rfl, rfl⟩
      · replace h := (if_neg (ne_t hc)).mp h
        refine st_skip ?_
        refine st_seq ?_
        refine st_region ?_
        refine o_loadN (j := 1) (vs := [.int .i64 (IntKind.i64.wrap r11.1), .int .i64 (IntKind.i64.wrap r17.1), .int .u32 r23.1, .int .i64 (IntKind.i64.wrap r29.1), .int .i64 (IntKind.i64.wrap r35.1)]) rfl rfl rfl z_agg24 rfl rfl rfl ?_
        refine o_store (j := 0) (vs := [.int .i64 (IntKind.i64.wrap r11.1), .int .i64 (IntKind.i64.wrap r17.1), .int .u32 r23.1, .int .i64 (IntKind.i64.wrap r29.1), .int .i64 (IntKind.i64.wrap r35.1)]) (cs' := [.int .i64 (IntKind.i64.wrap r11.1), .int .i64 (IntKind.i64.wrap r17.1), .int .u32 r23.1, .int .i64 (IntKind.i64.wrap r29.1), .int .i64 (IntKind.i64.wrap r35.1)]) rfl rfl rfl z_size24 rfl rfl rfl (ones_cons rfl (ones_cons rfl (ones_cons rfl (ones_cons rfl (ones_cons rfl ones_nil))))) rfl rfl rfl ?_
        refine st_gs [[(b3, .cells [.int .i64 (IntKind.i64.wrap r11.1), .int .i64 (IntKind.i64.wrap r17.1), .int .u32 r23.1, .int .i64 (IntKind.i64.wrap r29.1), .int .i64 (IntKind.i64.wrap r35.1)].toArray 24 (0, 0))], [(b41, .cells [.int .i64 (IntKind.i64.wrap r11.1), .int .i64 (IntKind.i64.wrap r17.1), .int .u32 r23.1, .int .i64 (IntKind.i64.wrap r29.1), .int .i64 (IntKind.i64.wrap r35.1)].toArray 24 (0, 0))]] rfl ?_
        refine o_assign rfl rfl rfl rfl ?_
        refine st_end ?_
        obtain rfl := Eq.symm h
        exact st_retC (gs' := []) [.agg [.int .i64 (IntKind.i64.wrap r11.1), .int .i64 (IntKind.i64.wrap r17.1), .int .u32 r23.1, .int .i64 (IntKind.i64.wrap r29.1), .int .i64 (IntKind.i64.wrap r35.1)].toArray, .int .i64 0] Tryd.func12 ⟨⟨_, _, _, _, rfl, mem_flat 0 rfl, fun w hw => cellOfN (vs := [.int .i64 (IntKind.i64.wrap r11.1), .int .i64 (IntKind.i64.wrap r17.1), .int .u32 r23.1, .int .i64 (IntKind.i64.wrap r29.1), .int .i64 (IntKind.i64.wrap r35.1)]) z_agg24 rfl w hw⟩, rfl, trivial⟩ (by simp) (((((((hl7.trans hl14).trans hl20).trans hl26).trans hl32).trans hl38).trans hl45).trans hl46) ⟨rfl, rfl⟩
    refine st_seq ?_
    refine st_region ?_
    refine o_move rfl rfl rfl rfl ?_
    refine o_ibin (v := .bool (decide (r42 = 0))) rfl rfl rfl rfl rfl rfl ?_
    refine st_end ?_
    refine st_cond rfl (fun hc => ?_) (fun hc => ?_)
    · replace h := (if_pos hc).mp h
      refine st_region ?_
      refine o_loadN (j := 1) (vs := [.int .i64 (IntKind.i64.wrap r11.1), .int .i64 (IntKind.i64.wrap r17.1), .int .u32 r23.1, .int .i64 (IntKind.i64.wrap r29.1), .int .i64 (IntKind.i64.wrap r35.1)]) rfl rfl rfl z_agg24 rfl rfl rfl ?_
      obtain ⟨r47, hr48, h⟩ := h
      refine st_call (foot := []) rfl rfl rfl rfl rfl rfl (callV_fn z_en17 (head_Check_ok hr48 τ44)) ?_
      rintro vτ49 τ49 gsτ49 hl50 ⟨rfl, rfl⟩
      refine o_assign rfl rfl rfl rfl ?_
      refine st_end ?_
      refine st_env (ρ' := [(2, .pointer (some ⟨b3, 0, none⟩)), (3, .int .i64 0), (5, .pointer (some ⟨b41, 0, none⟩)), (6, .int .i64 r47)]) ⟨rfl, rfl, rfl, rfl, trivial⟩ ?_
      refine st_ord [2, 1] [[(b3, .cells [.int .i64 0, .int .i64 0, .int .u32 0, .int .i64 0, .int .i64 0].toArray 24 (0, 0))], [(b41, .cells [.int .i64 (IntKind.i64.wrap r11.1), .int .i64 (IntKind.i64.wrap r17.1), .int .u32 r23.1, .int .i64 (IntKind.i64.wrap r29.1), .int .i64 (IntKind.i64.wrap r35.1)].toArray 24 (0, 0))]] rfl ?_
      exact hk46 _ _ _ ⟨r47, h, hl50, rfl, rfl⟩
    · replace h := (if_neg (ne_t hc)).mp h
      refine st_skip ?_
      refine st_env (ρ' := [(2, .pointer (some ⟨b3, 0, none⟩)), (3, .int .i64 0), (5, .pointer (some ⟨b41, 0, none⟩)), (6, .int .i64 r42)]) ⟨rfl, rfl, rfl, rfl, trivial⟩ ?_
      refine st_ord [2, 1] [[(b3, .cells [.int .i64 0, .int .i64 0, .int .u32 0, .int .i64 0, .int .i64 0].toArray 24 (0, 0))], [(b41, .cells [.int .i64 (IntKind.i64.wrap r11.1), .int .i64 (IntKind.i64.wrap r17.1), .int .u32 r23.1, .int .i64 (IntKind.i64.wrap r29.1), .int .i64 (IntKind.i64.wrap r35.1)].toArray 24 (0, 0))]] rfl ?_
      exact hk46 _ _ _ ⟨r42, h, (Sto.Le.refl _), rfl, rfl⟩
theorem ref07_Check_ok {a0 : Int × Int × Int × Int × Int} {r : Int} (h : ref07_Check a0 r) (σ : Sto)  :
    Does Tryd.prog 16 [.agg [.int .i64 a0.1, .int .i64 a0.2.1, .int .u32 a0.2.2.1, .int .i64 a0.2.2.2.1, .int .i64 a0.2.2.2.2].toArray] σ [] (fun v τ gs => gs = [] ∧ .int .i64 r = v) := by
  refine call_of Tryd.func16 Tryd.ntmps16 rfl rfl (fun cs fs => ?_)
  refine st_seq ?_
  refine st_region ?_
  refine o_box (cs := [.int .i64 a0.1, .int .i64 a0.2.1, .int .u32 a0.2.2.1, .int .i64 a0.2.2.2.1, .int .i64 a0.2.2.2.2]) rfl rfl rfl rfl rfl (fun b1 => ?_)
  refine o_assign rfl rfl rfl rfl ?_
  refine st_end ?_
  refine st_seq ?_
  refine st_seq ?_
  refine st_cut (fun ρ τ2 gs => ∃ (s2 : Bool), ref07_Check_j1 a0 s2 r ∧ σ.Le τ2 ∧ ρ = [(1, .pointer (some ⟨b1, 0, none⟩)), (2, .int .i64 0), (10, .bool s2)] ∧ gs = [[(b1, .cells [.int .i64 a0.1, .int .i64 a0.2.1, .int .u32 a0.2.2.1, .int .i64 a0.2.2.2.1, .int .i64 a0.2.2.2.2].toArray 35 (0, 0))]]) ?_ (fun hk2 => ?_)
  · rintro ρ2 τ2 gs2 ⟨s2, h, hl2, rfl, rfl⟩
    refine st_cond rfl (fun hc => ?_) (fun hc => ?_)
    · replace h := (if_pos hc).mp h
      refine st_seq ?_
      refine st_region ?_
      refine o_assign rfl rfl rfl rfl ?_
      refine st_end ?_
      refine st_ord [] [] rfl ?_
      obtain rfl := Eq.symm h
      exact st_ret (gs' := []) Tryd.func16 rfl (List.Sublist.refl _) hl2 ⟨rfl, rfl⟩
    · replace h := (if_neg (ne_t hc)).mp h
      refine st_skip ?_
      refine st_seq ?_
      refine st_seq ?_
      refine st_cut (fun ρ τ3 gs => ∃ (s3 : Bool), ref07_Check_j2 a0 s3 r ∧ τ2.Le τ3 ∧ ρ = [(1, .pointer (some ⟨b1, 0, none⟩)), (2, .int .i64 0), (18, .bool s3)] ∧ gs = [[(b1, .cells [.int .i64 a0.1, .int .i64 a0.2.1, .int .u32 a0.2.2.1, .int .i64 a0.2.2.2.1, .int .i64 a0.2.2.2.2].toArray 35 (0, 0))]]) ?_ (fun hk3 => ?_)
      · rintro ρ3 τ3 gs3 ⟨s3, h, hl3, rfl, rfl⟩
        refine st_cond rfl (fun hc => ?_) (fun hc => ?_)
        · replace h := (if_pos hc).mp h
          refine st_seq ?_
          refine st_region ?_
          refine o_assign rfl rfl rfl rfl ?_
          refine st_end ?_
          refine st_ord [] [] rfl ?_
          obtain rfl := Eq.symm h
          exact st_ret (gs' := []) Tryd.func16 rfl (List.Sublist.refl _) (hl2.trans hl3) ⟨rfl, rfl⟩
        · replace h := (if_neg (ne_t hc)).mp h
          refine st_skip ?_
          refine st_seq ?_
          refine st_seq ?_
          refine st_cut (fun ρ τ4 gs => ∃ (s4 : Bool), ref07_Check_j3 s4 r ∧ τ3.Le τ4 ∧ ρ = [(2, .int .i64 0), (38, .bool s4)] ∧ gs = []) ?_ (fun hk4 => ?_)
          · rintro ρ4 τ4 gs4 ⟨s4, h, hl4, rfl, rfl⟩
            refine st_cond rfl (fun hc => ?_) (fun hc => ?_)
            · replace h := (if_pos hc).mp h
              refine st_seq ?_
              refine st_region ?_
              refine o_assign rfl rfl rfl rfl ?_
              refine st_end ?_
              obtain rfl := Eq.symm h
              exact st_ret (gs' := []) Tryd.func16 rfl (List.Sublist.refl _) ((hl2.trans hl3).trans hl4) ⟨rfl, rfl⟩
            · replace h := (if_neg (ne_t hc)).mp h
              refine st_skip ?_
              refine st_seq ?_
              refine st_region ?_
              refine o_assign rfl rfl rfl rfl ?_
              refine st_end ?_
              obtain rfl := Eq.symm h
              exact st_ret (gs' := []) Tryd.func16 rfl (List.Sublist.refl _) ((hl2.trans hl3).trans hl4) ⟨rfl, rfl⟩
          refine st_region ?_
          refine o_fieldAddr rfl rfl rfl z_field35_4 rfl ?_
          refine o_load (j := 0) (v := .int .i64 a0.2.2.2.2) rfl rfl rfl z_sc3 rfl rfl rfl ?_
          refine o_ibin (v := .bool (decide (a0.2.2.2.2 < 1))) rfl rfl rfl rfl rfl rfl ?_
          refine o_moveB rfl rfl rfl rfl (fun hc => ?_) (fun hc => ?_)
          · replace h := (if_pos hc).mp h
            refine st_pass rfl rfl rfl rfl rfl rfl ?_
            refine st_pass rfl rfl rfl rfl rfl rfl ?_
            refine st_pass rfl rfl rfl rfl rfl rfl ?_
            refine o_pick rfl rfl rfl rfl rfl ?_
            refine o_move rfl rfl rfl rfl ?_
            refine st_pass rfl rfl rfl rfl rfl rfl ?_
            refine st_pass rfl rfl rfl rfl rfl rfl ?_
            refine st_pass rfl rfl rfl rfl rfl rfl ?_
            refine o_pick rfl rfl rfl rfl rfl ?_
            refine o_move rfl rfl rfl rfl ?_
            refine st_pass rfl rfl rfl rfl rfl rfl ?_
            refine st_pass rfl rfl rfl rfl rfl rfl ?_
            refine st_pass rfl rfl rfl rfl rfl rfl ?_
            refine st_pass rfl rfl rfl rfl rfl rfl ?_
            refine st_pass rfl rfl rfl rfl rfl rfl ?_
            refine o_pick rfl rfl rfl rfl rfl ?_
            refine st_end ?_
            refine st_env (ρ' := [(2, .int .i64 0), (38, .bool true)]) ⟨rfl, rfl, trivial⟩ ?_
            refine st_ord [] [] rfl ?_
            exact hk4 _ _ _ ⟨true, h, (Sto.Le.refl _), rfl, rfl⟩
          · replace h := (if_neg (ne_t hc)).mp h
            refine o_fieldAddr rfl rfl rfl z_field35_4 rfl ?_
            refine o_load (j := 0) (v := .int .i64 a0.2.2.2.2) rfl rfl rfl z_sc3 rfl rfl rfl ?_
            refine o_ibin (v := .bool (decide (255 < a0.2.2.2.2))) rfl rfl rfl rfl rfl rfl ?_
            refine o_pick rfl rfl rfl rfl rfl ?_
            refine o_moveB rfl rfl rfl rfl (fun hc => ?_) (fun hc => ?_)
            · replace h := (if_pos hc).mp h
              refine st_pass rfl rfl rfl rfl rfl rfl ?_
              refine st_pass rfl rfl rfl rfl rfl rfl ?_
              refine st_pass rfl rfl rfl rfl rfl rfl ?_
              refine o_pick rfl rfl rfl rfl rfl ?_
              refine o_move rfl rfl rfl rfl ?_
              refine st_pass rfl rfl rfl rfl rfl rfl ?_
              refine st_pass rfl rfl rfl rfl rfl rfl ?_
              refine st_pass rfl rfl rfl rfl rfl rfl ?_
              refine st_pass rfl rfl rfl rfl rfl rfl ?_
              refine st_pass rfl rfl rfl rfl rfl rfl ?_
              refine o_pick rfl rfl rfl rfl rfl ?_
              refine st_end ?_
              refine st_env (ρ' := [(2, .int .i64 0), (38, .bool true)]) ⟨rfl, rfl, trivial⟩ ?_
              refine st_ord [] [] rfl ?_
              exact hk4 _ _ _ ⟨true, h, (Sto.Le.refl _), rfl, rfl⟩
            · replace h := (if_neg (ne_t hc)).mp h
              refine o_fieldAddr rfl rfl rfl z_field35_3 rfl ?_
              refine o_load (j := 0) (v := .int .i64 a0.2.2.2.1) rfl rfl rfl z_sc3 rfl rfl rfl ?_
              refine o_ibin (v := .bool (decide (a0.2.2.2.1 < 0))) rfl rfl rfl rfl rfl rfl ?_
              refine o_pick rfl rfl rfl rfl rfl ?_
              refine o_moveB rfl rfl rfl rfl (fun hc => ?_) (fun hc => ?_)
              · replace h := (if_pos hc).mp h
                refine st_pass rfl rfl rfl rfl rfl rfl ?_
                refine st_pass rfl rfl rfl rfl rfl rfl ?_
                refine st_pass rfl rfl rfl rfl rfl rfl ?_
                refine st_pass rfl rfl rfl rfl rfl rfl ?_
                refine st_pass rfl rfl rfl rfl rfl rfl ?_
                refine o_pick rfl rfl rfl rfl rfl ?_
                refine st_end ?_
                refine st_env (ρ' := [(2, .int .i64 0), (38, .bool true)]) ⟨rfl, rfl, trivial⟩ ?_
                refine st_ord [] [] rfl ?_
                exact hk4 _ _ _ ⟨true, h, (Sto.Le.refl _), rfl, rfl⟩
              · replace h := (if_neg (ne_t hc)).mp h
                refine o_fieldAddr rfl rfl rfl z_field35_3 rfl ?_
                refine o_load (j := 0) (v := .int .i64 a0.2.2.2.1) rfl rfl rfl z_sc3 rfl rfl rfl ?_
                refine o_fieldAddr rfl rfl rfl z_field35_4 rfl ?_
                refine o_load (j := 0) (v := .int .i64 a0.2.2.2.2) rfl rfl rfl z_sc3 rfl rfl rfl ?_
                refine o_ibin (v := .bool (decide (a0.2.2.2.2 ≤ a0.2.2.2.1))) rfl rfl rfl rfl rfl rfl ?_
                refine o_pick rfl rfl rfl rfl rfl ?_
                refine st_end ?_
                refine st_env (ρ' := [(2, .int .i64 0), (38, .bool (decide (a0.2.2.2.2 ≤ a0.2.2.2.1)))]) ⟨rfl, rfl, trivial⟩ ?_
                refine st_ord [] [] rfl ?_
                exact hk4 _ _ _ ⟨(decide (a0.2.2.2.2 ≤ a0.2.2.2.1)), h, (Sto.Le.refl _), rfl, rfl⟩
      refine st_region ?_
      refine o_fieldAddr rfl rfl rfl z_field35_1 rfl ?_
      refine o_load (j := 0) (v := .int .i64 a0.2.1) rfl rfl rfl z_sc3 rfl rfl rfl ?_
      refine o_ibin (v := .bool (decide (a0.2.1 < 1))) rfl rfl rfl rfl rfl rfl ?_
      refine o_moveB rfl rfl rfl rfl (fun hc => ?_) (fun hc => ?_)
      · replace h := (if_pos hc).mp h
        refine st_pass rfl rfl rfl rfl rfl rfl ?_
        refine st_pass rfl rfl rfl rfl rfl rfl ?_
        refine st_pass rfl rfl rfl rfl rfl rfl ?_
        refine o_pick rfl rfl rfl rfl rfl ?_
        refine st_end ?_
        refine st_env (ρ' := [(1, .pointer (some ⟨b1, 0, none⟩)), (2, .int .i64 0), (18, .bool true)]) ⟨rfl, rfl, rfl, trivial⟩ ?_
        exact hk3 _ _ _ ⟨true, h, (Sto.Le.refl _), rfl, rfl⟩
      · replace h := (if_neg (ne_t hc)).mp h
        refine o_fieldAddr rfl rfl rfl z_field35_1 rfl ?_
        refine o_load (j := 0) (v := .int .i64 a0.2.1) rfl rfl rfl z_sc3 rfl rfl rfl ?_
        refine o_ibin (v := .bool (decide (5 < a0.2.1))) rfl rfl rfl rfl rfl rfl ?_
        refine o_pick rfl rfl rfl rfl rfl ?_
        refine st_end ?_
        refine st_env (ρ' := [(1, .pointer (some ⟨b1, 0, none⟩)), (2, .int .i64 0), (18, .bool (decide (5 < a0.2.1)))]) ⟨rfl, rfl, rfl, trivial⟩ ?_
        exact hk3 _ _ _ ⟨(decide (5 < a0.2.1)), h, (Sto.Le.refl _), rfl, rfl⟩
  refine st_region ?_
  refine o_fieldAddr rfl rfl rfl z_field35_0 rfl ?_
  refine o_load (j := 0) (v := .int .i64 a0.1) rfl rfl rfl z_sc3 rfl rfl rfl ?_
  refine o_ibin (v := .bool (!(decide (a0.1 = 1)))) rfl rfl rfl rfl rfl rfl ?_
  refine o_moveB rfl rfl rfl rfl (fun hc => ?_) (fun hc => ?_)
  · replace h := (if_pos hc).mp h
    refine o_fieldAddr rfl rfl rfl z_field35_0 rfl ?_
    refine o_load (j := 0) (v := .int .i64 a0.1) rfl rfl rfl z_sc3 rfl rfl rfl ?_
    refine o_ibin (v := .bool (!(decide (a0.1 = 2)))) rfl rfl rfl rfl rfl rfl ?_
    refine o_pick rfl rfl rfl rfl rfl ?_
    refine st_end ?_
    refine st_env (ρ' := [(1, .pointer (some ⟨b1, 0, none⟩)), (2, .int .i64 0), (10, .bool (!(decide (a0.1 = 2))))]) ⟨rfl, rfl, rfl, trivial⟩ ?_
    exact hk2 _ _ _ ⟨(!(decide (a0.1 = 2))), h, (Sto.Le.refl _), rfl, rfl⟩
  · replace h := (if_neg (ne_t hc)).mp h
    refine st_pass rfl rfl rfl rfl rfl rfl ?_
    refine st_pass rfl rfl rfl rfl rfl rfl ?_
    refine st_pass rfl rfl rfl rfl rfl rfl ?_
    refine o_pick rfl rfl rfl rfl rfl ?_
    refine st_end ?_
    refine st_env (ρ' := [(1, .pointer (some ⟨b1, 0, none⟩)), (2, .int .i64 0), (10, .bool false)]) ⟨rfl, rfl, rfl, trivial⟩ ?_
    exact hk2 _ _ _ ⟨false, h, (Sto.Le.refl _), rfl, rfl⟩
theorem ref07_Digits_ok {a0 : Int} {r : ByteArray} (h : ref07_Digits a0 r) (σ : Sto)  :
    Does Tryd.prog 45 [.int .i64 a0] σ [] (fun v τ gs => gs = [] ∧ .string r = v) := by
  refine call_of Tryd.func45 Tryd.ntmps45 rfl rfl (fun cs fs => ?_)
  refine st_seq ?_
  refine st_region ?_
  refine o_assign rfl rfl rfl (ev_str z_str0) ?_
  refine st_end ?_
  refine st_seq ?_
  refine st_seq ?_
  refine st_region ?_
  refine o_move rfl rfl rfl rfl ?_
  refine o_ibin (v := .bool (decide (a0 < 0))) rfl rfl rfl rfl rfl rfl ?_
  refine st_end ?_
  refine st_cond rfl (fun hc => ?_) (fun hc => ?_)
  · replace h := (if_pos hc).mp h
    refine st_seq ?_
    refine st_region ?_
    refine o_assign rfl rfl rfl (ev_str z_str0) ?_
    refine st_end ?_
    refine st_seq ?_
    refine st_cut (fun ρ τ1 gs => ∃ (s1 : Int × ByteArray), ref07_Digits_j1 s1 r ∧ σ.Le τ1 ∧ ρ = [(0, .int .i64 s1.1), (2, .string (bstr [])), (3, .string s1.2)] ∧ gs = []) ?_ (fun hk1 => ?_)
    · rintro ρ1 τ1 gs1 ⟨s1, h, hl1, rfl, rfl⟩
      refine st_seq ?_
      refine st_region ?_
      refine o_move rfl rfl rfl rfl ?_
      obtain ⟨hf2, h⟩ := h
      refine o_sadd rfl rfl rfl (ev_str z_str8) rfl hf2 ?_
      refine o_assign rfl rfl rfl rfl ?_
      refine st_end ?_
      obtain rfl := Eq.symm h
      exact st_ret (gs' := []) Tryd.func45 rfl (List.Sublist.refl _) hl1 ⟨rfl, rfl⟩
    obtain ⟨e3, hL3, hA3⟩ := h
    refine st_env (ρ' := [(0, .int .i64 a0), (2, .string (bstr [])), (3, .string (bstr []))]) ⟨rfl, rfl, rfl, trivial⟩ ?_
    refine st_loop hL3 (fun (s3 : Int × ByteArray) ρ τ3 gs => σ.Le τ3 ∧ ρ = [(0, .int .i64 s3.1), (2, .string (bstr [])), (3, .string s3.2)] ∧ gs = []) ⟨Sto.Le.refl _, rfl, rfl⟩ ?_
    rintro s3 o3 h he3 ρ3 τ3 gs3 ⟨hl3, rfl, rfl⟩ hn3
    refine st_seq ?_
    refine st_seq ?_
    refine st_region ?_
    refine o_move rfl rfl rfl rfl ?_
    refine o_ibin (v := .bool (decide (s3.1 < 0))) rfl rfl rfl rfl rfl rfl ?_
    refine st_end ?_
    refine st_cond rfl (fun hc => ?_) (fun hc => ?_)
    · replace h := (if_pos hc).mp h
      refine st_skip ?_
      refine st_block ?_
      refine st_seq ?_
      refine st_region ?_
      refine o_move rfl rfl rfl rfl ?_
      refine o_rem rfl rfl rfl rfl rfl (by decide) ?_
      refine o_ibin (v := .int .i64 (IntKind.i64.wrap (48 - (s3.1.tmod 10)))) rfl rfl rfl rfl rfl rfl ?_
      refine o_conv rfl rfl rfl Tryd.underlying3 Tryd.underlying5 rfl ?_
      refine o_lit (dk := (kI .u8)) (xs := [(IntKind.u8.wrap (IntKind.i64.wrap (48 - (s3.1.tmod 10))))]) (ps := [(0, [.int .u8 (IntKind.u8.wrap (IntKind.i64.wrap (48 - (s3.1.tmod 10))))])]) (cs := [.int .u8 (IntKind.u8.wrap (IntKind.i64.wrap (48 - (s3.1.tmod 10))))]) rfl rfl rfl z_slT31 z_zero5 ⟨rfl, ⟨_, rfl, rfl⟩, trivial⟩ rfl rfl rfl rfl (Kd.Many.cons (a := [.int .u8 (IntKind.u8.wrap (IntKind.i64.wrap (48 - (s3.1.tmod 10))))]) rfl Kd.Many.nil) (fun v4 g5 ho6 => ?_)
      refine st_freeze (fun τ7 hl8 hg9 => ?_)
      have hs10 := ho6.freeze hl8 hg9
      refine o_bstr (xs := [(IntKind.u8.wrap (IntKind.i64.wrap (48 - (s3.1.tmod 10))))]) rfl rfl rfl Tryd.underlying31 Tryd.underlying5 Tryd.underlying9 rfl hs10 ?_
      refine o_move rfl rfl rfl rfl ?_
      obtain ⟨hf11, h⟩ := h
      refine o_sadd rfl rfl rfl rfl rfl hf11 ?_
      refine o_assign rfl rfl rfl rfl ?_
      refine st_end ?_
      refine st_region ?_
      refine o_move rfl rfl rfl rfl ?_
      refine o_quo rfl rfl rfl rfl rfl (by decide) ?_
      refine o_assign rfl rfl rfl rfl ?_
      refine st_end ?_
      refine st_inBlock ?_
      refine st_env (ρ' := [(0, .int .i64 (IntKind.i64.wrap (s3.1.tdiv 10))), (2, .string (bstr [])), (3, .string ((bstr [(IntKind.u8.wrap (IntKind.i64.wrap (48 - (s3.1.tmod 10))))]) ++ s3.2))]) ⟨rfl, rfl, rfl, trivial⟩ ?_
      exact hn3 _ _ _ _ h ⟨(hl3.trans hl8), rfl, rfl⟩
    · replace h := (if_neg (ne_t hc)).mp h
      refine st_exit rfl ?_
      obtain rfl := he3 _ h
      replace h := hA3
      refine st_env (ρ' := [(0, .int .i64 s3.1), (2, .string (bstr [])), (3, .string s3.2)]) ⟨rfl, rfl, rfl, trivial⟩ ?_
      exact hk1 _ _ _ ⟨(s3.1, s3.2), h, hl3, rfl, rfl⟩
  · replace h := (if_neg (ne_t hc)).mp h
    refine st_skip ?_
    refine st_seq ?_
    refine st_region ?_
    refine o_assign rfl rfl rfl (ev_str z_str0) ?_
    refine st_end ?_
    refine st_seq ?_
    refine st_cut (fun ρ τ13 gs => ∃ (s13 : Int × ByteArray), ref07_Digits_j3 s13 r ∧ σ.Le τ13 ∧ ρ = [(0, .int .i64 s13.1), (2, .string (bstr [])), (4, .string s13.2)] ∧ gs = []) ?_ (fun hk13 => ?_)
    · rintro ρ13 τ13 gs13 ⟨s13, h, hl13, rfl, rfl⟩
      refine st_seq ?_
      refine st_region ?_
      refine o_move rfl rfl rfl rfl ?_
      refine o_ibin (v := .int .i64 (IntKind.i64.wrap (48 + s13.1))) rfl rfl rfl rfl rfl rfl ?_
      refine o_conv rfl rfl rfl Tryd.underlying3 Tryd.underlying5 rfl ?_
      refine o_lit (dk := (kI .u8)) (xs := [(IntKind.u8.wrap (IntKind.i64.wrap (48 + s13.1)))]) (ps := [(0, [.int .u8 (IntKind.u8.wrap (IntKind.i64.wrap (48 + s13.1)))])]) (cs := [.int .u8 (IntKind.u8.wrap (IntKind.i64.wrap (48 + s13.1)))]) rfl rfl rfl z_slT31 z_zero5 ⟨rfl, ⟨_, rfl, rfl⟩, trivial⟩ rfl rfl rfl rfl (Kd.Many.cons (a := [.int .u8 (IntKind.u8.wrap (IntKind.i64.wrap (48 + s13.1)))]) rfl Kd.Many.nil) (fun v14 g15 ho16 => ?_)
      refine st_freeze (fun τ17 hl18 hg19 => ?_)
      have hs20 := ho16.freeze hl18 hg19
      refine o_bstr (xs := [(IntKind.u8.wrap (IntKind.i64.wrap (48 + s13.1)))]) rfl rfl rfl Tryd.underlying31 Tryd.underlying5 Tryd.underlying9 rfl hs20 ?_
      refine o_move rfl rfl rfl rfl ?_
      obtain ⟨hf21, h⟩ := h
      refine o_sadd rfl rfl rfl rfl rfl hf21 ?_
      refine o_assign rfl rfl rfl rfl ?_
      refine st_end ?_
      obtain rfl := Eq.symm h
      exact st_ret (gs' := []) Tryd.func45 rfl (List.Sublist.refl _) (hl13.trans hl18) ⟨rfl, rfl⟩
    obtain ⟨e22, hL22, hA22⟩ := h
    refine st_env (ρ' := [(0, .int .i64 a0), (2, .string (bstr [])), (4, .string (bstr []))]) ⟨rfl, rfl, rfl, trivial⟩ ?_
    refine st_loop hL22 (fun (s22 : Int × ByteArray) ρ τ22 gs => σ.Le τ22 ∧ ρ = [(0, .int .i64 s22.1), (2, .string (bstr [])), (4, .string s22.2)] ∧ gs = []) ⟨Sto.Le.refl _, rfl, rfl⟩ ?_
    rintro s22 o22 h he22 ρ22 τ22 gs22 ⟨hl22, rfl, rfl⟩ hn22
    refine st_seq ?_
    refine st_seq ?_
    refine st_region ?_
    refine o_move rfl rfl rfl rfl ?_
    refine o_ibin (v := .bool (decide (10 ≤ s22.1))) rfl rfl rfl rfl rfl rfl ?_
    refine st_end ?_
    refine st_cond rfl (fun hc => ?_) (fun hc => ?_)
    · replace h := (if_pos hc).mp h
      refine st_skip ?_
      refine st_block ?_
      refine st_seq ?_
      refine st_region ?_
      refine o_move rfl rfl rfl rfl ?_
      refine o_rem rfl rfl rfl rfl rfl (by decide) ?_
      refine o_ibin (v := .int .i64 (IntKind.i64.wrap (48 + (s22.1.tmod 10)))) rfl rfl rfl rfl rfl rfl ?_
      refine o_conv rfl rfl rfl Tryd.underlying3 Tryd.underlying5 rfl ?_
      refine o_lit (dk := (kI .u8)) (xs := [(IntKind.u8.wrap (IntKind.i64.wrap (48 + (s22.1.tmod 10))))]) (ps := [(0, [.int .u8 (IntKind.u8.wrap (IntKind.i64.wrap (48 + (s22.1.tmod 10))))])]) (cs := [.int .u8 (IntKind.u8.wrap (IntKind.i64.wrap (48 + (s22.1.tmod 10))))]) rfl rfl rfl z_slT31 z_zero5 ⟨rfl, ⟨_, rfl, rfl⟩, trivial⟩ rfl rfl rfl rfl (Kd.Many.cons (a := [.int .u8 (IntKind.u8.wrap (IntKind.i64.wrap (48 + (s22.1.tmod 10))))]) rfl Kd.Many.nil) (fun v23 g24 ho25 => ?_)
      refine st_freeze (fun τ26 hl27 hg28 => ?_)
      have hs29 := ho25.freeze hl27 hg28
      refine o_bstr (xs := [(IntKind.u8.wrap (IntKind.i64.wrap (48 + (s22.1.tmod 10))))]) rfl rfl rfl Tryd.underlying31 Tryd.underlying5 Tryd.underlying9 rfl hs29 ?_
      refine o_move rfl rfl rfl rfl ?_
      obtain ⟨hf30, h⟩ := h
      refine o_sadd rfl rfl rfl rfl rfl hf30 ?_
      refine o_assign rfl rfl rfl rfl ?_
      refine st_end ?_
      refine st_region ?_
      refine o_move rfl rfl rfl rfl ?_
      refine o_quo rfl rfl rfl rfl rfl (by decide) ?_
      refine o_assign rfl rfl rfl rfl ?_
      refine st_end ?_
      refine st_inBlock ?_
      refine st_env (ρ' := [(0, .int .i64 (IntKind.i64.wrap (s22.1.tdiv 10))), (2, .string (bstr [])), (4, .string ((bstr [(IntKind.u8.wrap (IntKind.i64.wrap (48 + (s22.1.tmod 10))))]) ++ s22.2))]) ⟨rfl, rfl, rfl, trivial⟩ ?_
      exact hn22 _ _ _ _ h ⟨(hl22.trans hl27), rfl, rfl⟩
    · replace h := (if_neg (ne_t hc)).mp h
      refine st_exit rfl ?_
      obtain rfl := he22 _ h
      replace h := hA22
      refine st_env (ρ' := [(0, .int .i64 s22.1), (2, .string (bstr [])), (4, .string s22.2)]) ⟨rfl, rfl, rfl, trivial⟩ ?_
      exact hk13 _ _ _ ⟨(s22.1, s22.2), h, hl22, rfl, rfl⟩
theorem ref07_Line_ok {a0 : Int × Int × Int × Int × Int} {r : ByteArray} (h : ref07_Line a0 r) (σ : Sto)  :
    Does Tryd.prog 19 [.agg [.int .i64 a0.1, .int .i64 a0.2.1, .int .u32 a0.2.2.1, .int .i64 a0.2.2.2.1, .int .i64 a0.2.2.2.2].toArray] σ [] (fun v τ gs => gs = [] ∧ .string r = v) := by
  refine call_of Tryd.func19 Tryd.ntmps19 rfl rfl (fun cs fs => ?_)
  refine st_seq ?_
  refine st_region ?_
  refine o_box (cs := [.int .i64 a0.1, .int .i64 a0.2.1, .int .u32 a0.2.2.1, .int .i64 a0.2.2.2.1, .int .i64 a0.2.2.2.2]) rfl rfl rfl rfl rfl (fun b1 => ?_)
  refine o_assign rfl rfl rfl (ev_str z_str0) ?_
  refine st_end ?_
  refine st_seq ?_
  obtain ⟨r2, hr3, h⟩ := h
  obtain ⟨hf6, h⟩ := h
  obtain ⟨hf7, h⟩ := h
  obtain ⟨r8, hr9, h⟩ := h
  obtain ⟨hf12, h⟩ := h
  obtain ⟨hf13, h⟩ := h
  obtain ⟨r14, hr15, h⟩ := h
  obtain ⟨hf18, h⟩ := h
  obtain ⟨hf19, h⟩ := h
  obtain ⟨r20, hr21, h⟩ := h
  obtain ⟨hf24, h⟩ := h
  obtain ⟨hf25, h⟩ := h
  obtain ⟨r26, hr27, h⟩ := h
  obtain ⟨hf30, h⟩ := h
  refine st_draw 25 (tl [fun τ v => (.pointer (some ⟨b1, 0, none⟩) : Value) = v,
    fun τ v => (.int .i64 a0.1 : Value) = v,
    fun τ v => (.string r2 : Value) = v,
    fun τ v => (.string ((bstr [118, 32]) ++ r2) : Value) = v,
    fun τ v => (.string (((bstr [118, 32]) ++ r2) ++ (bstr [32, 107, 32])) : Value) = v,
    fun τ v => (.pointer (some ⟨b1, 1, none⟩) : Value) = v,
    fun τ v => (.int .i64 a0.2.1 : Value) = v,
    fun τ v => (.string r8 : Value) = v,
    fun τ v => (.string ((((bstr [118, 32]) ++ r2) ++ (bstr [32, 107, 32])) ++ r8) : Value) = v,
    fun τ v => (.string (((((bstr [118, 32]) ++ r2) ++ (bstr [32, 107, 32])) ++ r8) ++ (bstr [32])) : Value) = v,
    fun τ v => (.pointer (some ⟨b1, 2, none⟩) : Value) = v,
    fun τ v => (.int .u32 a0.2.2.1 : Value) = v,
    fun τ v => (.int .i64 (IntKind.i64.wrap a0.2.2.1) : Value) = v,
    fun τ v => (.string r14 : Value) = v,
    fun τ v => (.string ((((((bstr [118, 32]) ++ r2) ++ (bstr [32, 107, 32])) ++ r8) ++ (bstr [32])) ++ r14) : Value) = v,
    fun τ v => (.string (((((((bstr [118, 32]) ++ r2) ++ (bstr [32, 107, 32])) ++ r8) ++ (bstr [32])) ++ r14) ++ (bstr [32])) : Value) = v,
    fun τ v => (.pointer (some ⟨b1, 3, none⟩) : Value) = v,
    fun τ v => (.int .i64 a0.2.2.2.1 : Value) = v,
    fun τ v => (.string r20 : Value) = v,
    fun τ v => (.string ((((((((bstr [118, 32]) ++ r2) ++ (bstr [32, 107, 32])) ++ r8) ++ (bstr [32])) ++ r14) ++ (bstr [32])) ++ r20) : Value) = v,
    fun τ v => (.string (((((((((bstr [118, 32]) ++ r2) ++ (bstr [32, 107, 32])) ++ r8) ++ (bstr [32])) ++ r14) ++ (bstr [32])) ++ r20) ++ (bstr [47])) : Value) = v,
    fun τ v => (.pointer (some ⟨b1, 4, none⟩) : Value) = v,
    fun τ v => (.int .i64 a0.2.2.2.2 : Value) = v,
    fun τ v => (.string r26 : Value) = v,
    fun τ v => (.string ((((((((((bstr [118, 32]) ++ r2) ++ (bstr [32, 107, 32])) ++ r8) ++ (bstr [32])) ++ r14) ++ (bstr [32])) ++ r20) ++ (bstr [47])) ++ r26) : Value) = v]) (fun _ _ => []) z_mix rfl (tl_mono ⟨fun _ _ _ _ h => h, ⟨fun _ _ _ _ h => h, ⟨fun _ _ _ _ h => h, ⟨fun _ _ _ _ h => h, ⟨fun _ _ _ _ h => h, ⟨fun _ _ _ _ h => h, ⟨fun _ _ _ _ h => h, ⟨fun _ _ _ _ h => h, ⟨fun _ _ _ _ h => h, ⟨fun _ _ _ _ h => h, ⟨fun _ _ _ _ h => h, ⟨fun _ _ _ _ h => h, ⟨fun _ _ _ _ h => h, ⟨fun _ _ _ _ h => h, ⟨fun _ _ _ _ h => h, ⟨fun _ _ _ _ h => h, ⟨fun _ _ _ _ h => h, ⟨fun _ _ _ _ h => h, ⟨fun _ _ _ _ h => h, ⟨fun _ _ _ _ h => h, ⟨fun _ _ _ _ h => h, ⟨fun _ _ _ _ h => h, ⟨fun _ _ _ _ h => h, ⟨fun _ _ _ _ h => h, ⟨fun _ _ _ _ h => h, trivial⟩⟩⟩⟩⟩⟩⟩⟩⟩⟩⟩⟩⟩⟩⟩⟩⟩⟩⟩⟩⟩⟩⟩⟩⟩) (allB_cons (allB_cons (allB_cons (allB_cons (allB_cons (allB_cons (allB_cons (allB_cons (allB_cons (allB_cons (allB_cons (allB_cons (allB_cons (allB_cons (allB_cons (allB_cons (allB_cons (allB_cons (allB_cons (allB_cons (allB_cons (allB_cons (allB_cons (allB_cons (allB_cons allB_nil ?_) ?_) ?_) ?_) ?_) ?_) ?_) ?_) ?_) ?_) ?_) ?_) ?_) ?_) ?_) ?_) ?_) ?_) ?_) ?_) ?_) ?_) ?_) ?_) ?_) ?_
  · intro ρ' τ pool rs hl hd hout hk
    refine o_fieldAddr rfl rfl rfl z_field35_0 ((hout 1 rfl).trans rfl) ?_
    exact st_addNil (hk _ _ (Sto.Le.refl _) rfl)
  · intro ρ' τ pool rs hl hd hout hk
    obtain ⟨_, e0, rfl⟩ := hd 0 rfl
    refine o_load (j := 0) (v := .int .i64 a0.1) rfl rfl rfl z_sc3 e0 rfl rfl ?_
    exact st_addNil (hk _ _ (Sto.Le.refl _) rfl)
  · intro ρ' τ pool rs hl hd hout hk
    obtain ⟨_, e1, rfl⟩ := hd 1 rfl
    refine st_call (foot := []) rfl rfl rfl rfl (evs_cons e1 rfl) rfl (callV_fn z_en45 (ref07_Digits_ok hr3 τ)) ?_
    rintro vτ4 τ4 gsτ4 hl5 ⟨rfl, rfl⟩
    exact st_addNil (hk _ _ hl5 rfl)
  · intro ρ' τ pool rs hl hd hout hk
    obtain ⟨_, e2, rfl⟩ := hd 2 rfl
    refine o_sadd rfl rfl rfl (ev_str z_str1) e2 hf6 ?_
    exact st_addNil (hk _ _ (Sto.Le.refl _) rfl)
  · intro ρ' τ pool rs hl hd hout hk
    obtain ⟨_, e3, rfl⟩ := hd 3 rfl
    refine o_sadd rfl rfl rfl e3 (ev_str z_str2) hf7 ?_
    exact st_addNil (hk _ _ (Sto.Le.refl _) rfl)
  · intro ρ' τ pool rs hl hd hout hk
    refine o_fieldAddr rfl rfl rfl z_field35_1 ((hout 1 rfl).trans rfl) ?_
    exact st_addNil (hk _ _ (Sto.Le.refl _) rfl)
  · intro ρ' τ pool rs hl hd hout hk
    obtain ⟨_, e5, rfl⟩ := hd 5 rfl
    refine o_load (j := 0) (v := .int .i64 a0.2.1) rfl rfl rfl z_sc3 e5 rfl rfl ?_
    exact st_addNil (hk _ _ (Sto.Le.refl _) rfl)
  · intro ρ' τ pool rs hl hd hout hk
    obtain ⟨_, e6, rfl⟩ := hd 6 rfl
    refine st_call (foot := []) rfl rfl rfl rfl (evs_cons e6 rfl) rfl (callV_fn z_en45 (ref07_Digits_ok hr9 τ)) ?_
    rintro vτ10 τ10 gsτ10 hl11 ⟨rfl, rfl⟩
    exact st_addNil (hk _ _ hl11 rfl)
  · intro ρ' τ pool rs hl hd hout hk
    obtain ⟨_, e4, rfl⟩ := hd 4 rfl
    obtain ⟨_, e7, rfl⟩ := hd 7 rfl
    refine o_sadd rfl rfl rfl e4 e7 hf12 ?_
    exact st_addNil (hk _ _ (Sto.Le.refl _) rfl)
  · intro ρ' τ pool rs hl hd hout hk
    obtain ⟨_, e8, rfl⟩ := hd 8 rfl
    refine o_sadd rfl rfl rfl e8 (ev_str z_str3) hf13 ?_
    exact st_addNil (hk _ _ (Sto.Le.refl _) rfl)
  · intro ρ' τ pool rs hl hd hout hk
    refine o_fieldAddr rfl rfl rfl z_field35_2 ((hout 1 rfl).trans rfl) ?_
    exact st_addNil (hk _ _ (Sto.Le.refl _) rfl)
  · intro ρ' τ pool rs hl hd hout hk
    obtain ⟨_, e10, rfl⟩ := hd 10 rfl
    refine o_load (j := 0) (v := .int .u32 a0.2.2.1) rfl rfl rfl z_sc22 e10 rfl rfl ?_
    exact st_addNil (hk _ _ (Sto.Le.refl _) rfl)
  · intro ρ' τ pool rs hl hd hout hk
    obtain ⟨_, e11, rfl⟩ := hd 11 rfl
    refine o_conv rfl rfl rfl Tryd.underlying22 Tryd.underlying3 e11 ?_
    exact st_addNil (hk _ _ (Sto.Le.refl _) rfl)
  · intro ρ' τ pool rs hl hd hout hk
    obtain ⟨_, e12, rfl⟩ := hd 12 rfl
    refine st_call (foot := []) rfl rfl rfl rfl (evs_cons e12 rfl) rfl (callV_fn z_en45 (ref07_Digits_ok hr15 τ)) ?_
    rintro vτ16 τ16 gsτ16 hl17 ⟨rfl, rfl⟩
    exact st_addNil (hk _ _ hl17 rfl)
  · intro ρ' τ pool rs hl hd hout hk
    obtain ⟨_, e9, rfl⟩ := hd 9 rfl
    obtain ⟨_, e13, rfl⟩ := hd 13 rfl
    refine o_sadd rfl rfl rfl e9 e13 hf18 ?_
    exact st_addNil (hk _ _ (Sto.Le.refl _) rfl)
  · intro ρ' τ pool rs hl hd hout hk
    obtain ⟨_, e14, rfl⟩ := hd 14 rfl
    refine o_sadd rfl rfl rfl e14 (ev_str z_str3) hf19 ?_
    exact st_addNil (hk _ _ (Sto.Le.refl _) rfl)
  · intro ρ' τ pool rs hl hd hout hk
    refine o_fieldAddr rfl rfl rfl z_field35_3 ((hout 1 rfl).trans rfl) ?_
    exact st_addNil (hk _ _ (Sto.Le.refl _) rfl)
  · intro ρ' τ pool rs hl hd hout hk
    obtain ⟨_, e16, rfl⟩ := hd 16 rfl
    refine o_load (j := 0) (v := .int .i64 a0.2.2.2.1) rfl rfl rfl z_sc3 e16 rfl rfl ?_
    exact st_addNil (hk _ _ (Sto.Le.refl _) rfl)
  · intro ρ' τ pool rs hl hd hout hk
    obtain ⟨_, e17, rfl⟩ := hd 17 rfl
    refine st_call (foot := []) rfl rfl rfl rfl (evs_cons e17 rfl) rfl (callV_fn z_en45 (ref07_Digits_ok hr21 τ)) ?_
    rintro vτ22 τ22 gsτ22 hl23 ⟨rfl, rfl⟩
    exact st_addNil (hk _ _ hl23 rfl)
  · intro ρ' τ pool rs hl hd hout hk
    obtain ⟨_, e15, rfl⟩ := hd 15 rfl
    obtain ⟨_, e18, rfl⟩ := hd 18 rfl
    refine o_sadd rfl rfl rfl e15 e18 hf24 ?_
    exact st_addNil (hk _ _ (Sto.Le.refl _) rfl)
  · intro ρ' τ pool rs hl hd hout hk
    obtain ⟨_, e19, rfl⟩ := hd 19 rfl
    refine o_sadd rfl rfl rfl e19 (ev_str z_str4) hf25 ?_
    exact st_addNil (hk _ _ (Sto.Le.refl _) rfl)
  · intro ρ' τ pool rs hl hd hout hk
    refine o_fieldAddr rfl rfl rfl z_field35_4 ((hout 1 rfl).trans rfl) ?_
    exact st_addNil (hk _ _ (Sto.Le.refl _) rfl)
  · intro ρ' τ pool rs hl hd hout hk
    obtain ⟨_, e21, rfl⟩ := hd 21 rfl
    refine o_load (j := 0) (v := .int .i64 a0.2.2.2.2) rfl rfl rfl z_sc3 e21 rfl rfl ?_
    exact st_addNil (hk _ _ (Sto.Le.refl _) rfl)
  · intro ρ' τ pool rs hl hd hout hk
    obtain ⟨_, e22, rfl⟩ := hd 22 rfl
    refine st_call (foot := []) rfl rfl rfl rfl (evs_cons e22 rfl) rfl (callV_fn z_en45 (ref07_Digits_ok hr27 τ)) ?_
    rintro vτ28 τ28 gsτ28 hl29 ⟨rfl, rfl⟩
    exact st_addNil (hk _ _ hl29 rfl)
  · intro ρ' τ pool rs hl hd hout hk
    obtain ⟨_, e20, rfl⟩ := hd 20 rfl
    obtain ⟨_, e23, rfl⟩ := hd 23 rfl
    refine o_sadd rfl rfl rfl e20 e23 hf30 ?_
    exact st_addNil (hk _ _ (Sto.Le.refl _) rfl)
  intro ρ' τ31 vals hl31 hv hout
  have l24 : Eng.look ρ' 27 = some (.string ((((((((((bstr [118, 32]) ++ r2) ++ (bstr [32, 107, 32])) ++ r8) ++ (bstr [32])) ++ r14) ++ (bstr [32])) ++ r20) ++ (bstr [47])) ++ r26)) := (hv 24 (by decide)).1.trans (congrArg some (show vals 24 = .string ((((((((((bstr [118, 32]) ++ r2) ++ (bstr [32, 107, 32])) ++ r8) ++ (bstr [32])) ++ r14) ++ (bstr [32])) ++ r20) ++ (bstr [47])) ++ r26) from Eq.symm (hv 24 (by decide)).2))
  refine st_ord [0] [[(b1, .cells [.int .i64 a0.1, .int .i64 a0.2.1, .int .u32 a0.2.2.1, .int .i64 a0.2.2.2.1, .int .i64 a0.2.2.2.2].toArray 35 (0, 0))]] rfl ?_
  refine st_env (ρ' := [(27, .string ((((((((((bstr [118, 32]) ++ r2) ++ (bstr [32, 107, 32])) ++ r8) ++ (bstr [32])) ++ r14) ++ (bstr [32])) ++ r20) ++ (bstr [47])) ++ r26)), (2, .string (bstr []))]) ⟨l24, (hout 2 rfl).trans rfl, trivial⟩ ?_
  refine o_assign rfl rfl rfl rfl ?_
  refine st_end ?_
  refine st_ord [] [] rfl ?_
  obtain rfl := Eq.symm h
  exact st_ret (gs' := []) Tryd.func19 rfl (List.Sublist.refl _) hl31 ⟨rfl, rfl⟩
theorem ref02_Word_ok {a0 : Int} {a1 : Int} {r : List Int} (h : ref02_Word a0 a1 r) (σ : Sto)  :
    Does Tryd.prog 46 [.int .u32 a0, .int .i64 a1] σ [] (fun v τ gs => ∃ (v24 : Value), gs = [] ∧ v24 = v ∧ Sl (kI .u8) τ v24 r) := by
  refine call_of Tryd.func46 Tryd.ntmps46 rfl rfl (fun cs fs => ?_)
  refine st_seq ?_
  refine st_region ?_
  refine o_assign rfl rfl rfl rfl ?_
  refine st_end ?_
  refine st_seq ?_
  refine st_region ?_
  refine o_assign rfl rfl rfl rfl ?_
  refine st_end ?_
  refine st_seq ?_
  refine st_cut (fun ρ τ1 gs => ∃ (s1 : List Int) (v2 : Value) (g3 : Grp), ref02_Word_j1 s1 r ∧ σ.Le τ1 ∧ ρ = [(4, .slice none 0 0), (5, v2)] ∧ gs = [g3] ∧ Ow (kI .u8) 5 τ1 v2 s1 g3) ?_ (fun hk1 => ?_)
  · rintro ρ1 τ1 gs1 ⟨s1, v2, g3, h, hl1, rfl, rfl, ho4⟩
    refine st_seq ?_
    refine st_region ?_
    refine o_move rfl rfl rfl rfl ?_
    refine o_assign rfl rfl rfl rfl ?_
    refine st_end ?_
    refine st_freeze (fun τ5 hl6 hg7 => ?_)
    have hs8 := ho4.freeze hl6 hg7
    obtain rfl := Eq.symm h
    exact st_ret (gs' := []) Tryd.func46 rfl (List.Sublist.refl _) (hl1.trans hl6) ⟨_, rfl, rfl, hs8⟩
  refine st_seq ?_
  refine st_region ?_
  refine o_assign rfl rfl rfl rfl ?_
  refine st_end ?_
  obtain ⟨e11, hL11, hA11⟩ := h
  refine st_env (ρ' := [(0, .int .u32 a0), (1, .int .i64 a1), (4, .slice none 0 0), (5, .slice none 0 0), (6, .int .i64 0)]) ⟨rfl, rfl, rfl, rfl, rfl, trivial⟩ ?_
  refine st_addNil ?_
  refine st_loop hL11 (fun (s11 : Int × List Int × Int) ρ τ11 gs => σ.Le τ11 ∧ ∃ (v12 : Value) (g13 : Grp), ρ = [(0, .int .u32 s11.1), (1, .int .i64 a1), (4, .slice none 0 0), (5, v12), (6, .int .i64 s11.2.2)] ∧ gs = [g13] ∧ Ow (kI .u8) 5 τ11 v12 s11.2.1 g13) ⟨Sto.Le.refl _, _, _, rfl, rfl, Ow.nil⟩ ?_
  rintro s11 o11 h he11 ρ11 τ11 gs11 ⟨hl11, v12, g13, rfl, rfl, ho14⟩ hn11
  refine st_seq ?_
  refine st_seq ?_
  refine st_region ?_
  refine o_move rfl rfl rfl rfl ?_
  refine o_move rfl rfl rfl rfl ?_
  refine o_ibin (v := .bool (decide (s11.2.2 < a1))) rfl rfl rfl rfl rfl rfl ?_
  refine st_end ?_
  refine st_cond rfl (fun hc => ?_) (fun hc => ?_)
  · replace h := (if_pos hc).mp h
    refine st_skip ?_
    refine st_seq ?_
    refine st_block ?_
    refine st_seq ?_
    refine st_region ?_
    refine o_move rfl rfl rfl rfl ?_
    refine o_move rfl rfl rfl rfl ?_
    refine o_rem rfl rfl rfl rfl rfl (by decide) ?_
    refine o_conv rfl rfl rfl Tryd.underlying22 Tryd.underlying5 rfl ?_
    refine o_lit (dk := (kI .u8)) (xs := [(IntKind.u8.wrap (s11.1.tmod 256))]) (ps := [(0, [.int .u8 (IntKind.u8.wrap (s11.1.tmod 256))])]) (cs := [.int .u8 (IntKind.u8.wrap (s11.1.tmod 256))]) rfl rfl rfl z_slT31 z_zero5 ⟨rfl, ⟨_, rfl, rfl⟩, trivial⟩ rfl rfl rfl rfl (Kd.Many.cons (a := [.int .u8 (IntKind.u8.wrap (s11.1.tmod 256))]) rfl Kd.Many.nil) (fun v15 g16 ho17 => ?_)
    obtain ⟨hf21, h⟩ := h
    obtain ⟨hf22, h⟩ := h
    refine st_ord [1, 0] [g13, g16] rfl ?_
    refine o_append (dk := (kI .u8)) (xs := s11.2.1) (ys := [(IntKind.u8.wrap (s11.1.tmod 256))]) rfl rfl rfl rfl z_slT31 rfl ho14 rfl (Ow.src (j := 1) ho17 rfl) hf21 hf22 (fun v18 g19 ho20 => ?_)
    refine o_assign rfl rfl rfl rfl ?_
    refine st_end ?_
    refine st_region ?_
    refine o_move rfl rfl rfl rfl ?_
    refine o_quo rfl rfl rfl rfl rfl (by decide) ?_
    refine o_assign rfl rfl rfl rfl ?_
    refine st_end ?_
    refine st_inBlock ?_
    refine st_region ?_
    refine o_move rfl rfl rfl rfl ?_
    refine o_ibin (v := .int .i64 (IntKind.i64.wrap (s11.2.2 + 1))) rfl rfl rfl rfl rfl rfl ?_
    refine o_assign rfl rfl rfl rfl ?_
    refine st_end ?_
    refine st_env (ρ' := [(0, .int .u32 (IntKind.u32.wrap (s11.1.tdiv 256))), (1, .int .i64 a1), (4, .slice none 0 0), (5, v18), (6, .int .i64 (IntKind.i64.wrap (s11.2.2 + 1)))]) ⟨rfl, rfl, rfl, rfl, rfl, trivial⟩ ?_
    refine st_ord [0] [g19] rfl ?_
    exact hn11 _ _ _ _ h ⟨hl11, _, _, rfl, rfl, ho20⟩
  · replace h := (if_neg (ne_t hc)).mp h
    refine st_exit rfl ?_
    obtain rfl := he11 _ h
    replace h := hA11
    refine st_env (ρ' := [(4, .slice none 0 0), (5, v12)]) ⟨rfl, rfl, trivial⟩ ?_
    exact hk1 _ _ _ ⟨s11.2.1, _, _, h, hl11, rfl, rfl, ho14⟩
theorem ref07_Bytes_ok {a0 : Int × Int × Int × Int × Int} {r : List Int} (h : ref07_Bytes a0 r) (σ : Sto)  :
    Does Tryd.prog 20 [.agg [.int .i64 a0.1, .int .i64 a0.2.1, .int .u32 a0.2.2.1, .int .i64 a0.2.2.2.1, .int .i64 a0.2.2.2.2].toArray] σ [] (fun v τ gs => ∃ (v36 : Value), gs = [] ∧ v36 = v ∧ Sl (kI .u8) τ v36 r) := by
  refine call_of Tryd.func20 Tryd.ntmps20 rfl rfl (fun cs fs => ?_)
  refine st_seq ?_
  refine st_region ?_
  refine o_box (cs := [.int .i64 a0.1, .int .i64 a0.2.1, .int .u32 a0.2.2.1, .int .i64 a0.2.2.2.1, .int .i64 a0.2.2.2.2]) rfl rfl rfl rfl rfl (fun b1 => ?_)
  refine o_assign rfl rfl rfl rfl ?_
  refine st_end ?_
  refine st_seq ?_
  obtain ⟨r8, hr9, h⟩ := h
  obtain ⟨hf17, h⟩ := h
  obtain ⟨hf18, h⟩ := h
  refine st_draw2 (gs := [[(b1, .cells [.int .i64 a0.1, .int .i64 a0.2.1, .int .u32 a0.2.2.1, .int .i64 a0.2.2.2.1, .int .i64 a0.2.2.2.2].toArray 35 (0, 0))]]) (F0 := []) 11 2 (tlS [none, none, none, none, none, none, some 0, none, none, none, some 1]) (tlN [0, 10, 14]) (tl [fun τ v => (.pointer (some ⟨b1, 0, none⟩) : Value) = v,
    fun τ v => (.int .i64 a0.1 : Value) = v,
    fun τ v => (.int .u8 (IntKind.u8.wrap a0.1) : Value) = v,
    fun τ v => (.pointer (some ⟨b1, 1, none⟩) : Value) = v,
    fun τ v => (.int .i64 a0.2.1 : Value) = v,
    fun τ v => (.int .u8 (IntKind.u8.wrap a0.2.1) : Value) = v,
    fun _ _ => True,
    fun τ v => (.pointer (some ⟨b1, 2, none⟩) : Value) = v,
    fun τ v => (.int .u32 a0.2.2.1 : Value) = v,
    fun τ v => ∃ (v12 : Value), (v12 : Value) = v ∧ Sl (kI .u8) τ v12 r8,
    fun _ _ => True]) (tlI [fun τ u F => F = [],
    fun τ u F => ∃ (v5 : Value) (g6 : Grp), F = [g6] ∧ v5 = u ∧ Ow (kI .u8) 5 τ v5 [(IntKind.u8.wrap a0.1), (IntKind.u8.wrap a0.2.1)] g6,
    fun τ u F => ∃ (v19 : Value) (g20 : Grp), F = [g20] ∧ v19 = u ∧ Ow (kI .u8) 5 τ v19 ([(IntKind.u8.wrap a0.1), (IntKind.u8.wrap a0.2.1)] ++ r8) g20]) z_mix rfl (tl_mono ⟨fun _ _ _ _ h => h, ⟨fun _ _ _ _ h => h, ⟨fun _ _ _ _ h => h, ⟨fun _ _ _ _ h => h, ⟨fun _ _ _ _ h => h, ⟨fun _ _ _ _ h => h, ⟨fun _ _ _ _ _ => trivial, ⟨fun _ _ _ _ h => h, ⟨fun _ _ _ _ h => h, ⟨fun _ _ _ hl ⟨v12, hv, hs13⟩ => ⟨v12, hv, hs13.up hl⟩, ⟨fun _ _ _ _ _ => trivial, trivial⟩⟩⟩⟩⟩⟩⟩⟩⟩⟩⟩) (tlI_mono ⟨fun _ _ _ _ hl h => h, ⟨fun _ _ _ _ hl h => (let ⟨v5, g6, hF, hU, ho7⟩ := h; ⟨v5, g6, hF, hU, ho7.up hl⟩), ⟨fun _ _ _ _ hl h => (let ⟨v19, g20, hF, hU, ho21⟩ := h; ⟨v19, g20, hF, hU, ho21.up hl⟩), trivial⟩⟩⟩) rfl (rowSd rfl) rfl (allB_cons (allB_cons (allB_cons (allB_cons (allB_cons (allB_cons (allB_cons (allB_cons (allB_cons (allB_cons (allB_cons allB_nil ?_) ?_) ?_) ?_) ?_) ?_) ?_) ?_) ?_) ?_) ?_) ?_
  · intro ρ' τ Fv rs hl hd hout hk
    refine st_flat (gs := [[(b1, .cells [.int .i64 a0.1, .int .i64 a0.2.1, .int .u32 a0.2.2.1, .int .i64 a0.2.2.2.1, .int .i64 a0.2.2.2.2].toArray 35 (0, 0))]]) (fun pool hp => ?_)
    refine o_fieldAddr rfl rfl rfl z_field35_0 ((hout 1 rfl).trans rfl) ?_
    exact st_unflat (gs := [[(b1, .cells [.int .i64 a0.1, .int .i64 a0.2.1, .int .u32 a0.2.2.1, .int .i64 a0.2.2.2.1, .int .i64 a0.2.2.2.2].toArray 35 (0, 0))]]) hp (hk _ _ (Sto.Le.refl _) rfl)
  · intro ρ' τ Fv rs hl hd hout hk
    obtain ⟨_, e0, rfl⟩ := hd 0 rfl
    refine st_flat (gs := [[(b1, .cells [.int .i64 a0.1, .int .i64 a0.2.1, .int .u32 a0.2.2.1, .int .i64 a0.2.2.2.1, .int .i64 a0.2.2.2.2].toArray 35 (0, 0))]]) (fun pool hp => ?_)
    refine o_load (j := 0) (v := .int .i64 a0.1) rfl rfl rfl z_sc3 e0 rfl rfl ?_
    exact st_unflat (gs := [[(b1, .cells [.int .i64 a0.1, .int .i64 a0.2.1, .int .u32 a0.2.2.1, .int .i64 a0.2.2.2.1, .int .i64 a0.2.2.2.2].toArray 35 (0, 0))]]) hp (hk _ _ (Sto.Le.refl _) rfl)
  · intro ρ' τ Fv rs hl hd hout hk
    obtain ⟨_, e1, rfl⟩ := hd 1 rfl
    refine st_flat (gs := [[(b1, .cells [.int .i64 a0.1, .int .i64 a0.2.1, .int .u32 a0.2.2.1, .int .i64 a0.2.2.2.1, .int .i64 a0.2.2.2.2].toArray 35 (0, 0))]]) (fun pool hp => ?_)
    refine o_conv rfl rfl rfl Tryd.underlying3 Tryd.underlying5 e1 ?_
    exact st_unflat (gs := [[(b1, .cells [.int .i64 a0.1, .int .i64 a0.2.1, .int .u32 a0.2.2.1, .int .i64 a0.2.2.2.1, .int .i64 a0.2.2.2.2].toArray 35 (0, 0))]]) hp (hk _ _ (Sto.Le.refl _) rfl)
  · intro ρ' τ Fv rs hl hd hout hk
    refine st_flat (gs := [[(b1, .cells [.int .i64 a0.1, .int .i64 a0.2.1, .int .u32 a0.2.2.1, .int .i64 a0.2.2.2.1, .int .i64 a0.2.2.2.2].toArray 35 (0, 0))]]) (fun pool hp => ?_)
    refine o_fieldAddr rfl rfl rfl z_field35_1 ((hout 1 rfl).trans rfl) ?_
    exact st_unflat (gs := [[(b1, .cells [.int .i64 a0.1, .int .i64 a0.2.1, .int .u32 a0.2.2.1, .int .i64 a0.2.2.2.1, .int .i64 a0.2.2.2.2].toArray 35 (0, 0))]]) hp (hk _ _ (Sto.Le.refl _) rfl)
  · intro ρ' τ Fv rs hl hd hout hk
    obtain ⟨_, e3, rfl⟩ := hd 3 rfl
    refine st_flat (gs := [[(b1, .cells [.int .i64 a0.1, .int .i64 a0.2.1, .int .u32 a0.2.2.1, .int .i64 a0.2.2.2.1, .int .i64 a0.2.2.2.2].toArray 35 (0, 0))]]) (fun pool hp => ?_)
    refine o_load (j := 0) (v := .int .i64 a0.2.1) rfl rfl rfl z_sc3 e3 rfl rfl ?_
    exact st_unflat (gs := [[(b1, .cells [.int .i64 a0.1, .int .i64 a0.2.1, .int .u32 a0.2.2.1, .int .i64 a0.2.2.2.1, .int .i64 a0.2.2.2.2].toArray 35 (0, 0))]]) hp (hk _ _ (Sto.Le.refl _) rfl)
  · intro ρ' τ Fv rs hl hd hout hk
    obtain ⟨_, e4, rfl⟩ := hd 4 rfl
    refine st_flat (gs := [[(b1, .cells [.int .i64 a0.1, .int .i64 a0.2.1, .int .u32 a0.2.2.1, .int .i64 a0.2.2.2.1, .int .i64 a0.2.2.2.2].toArray 35 (0, 0))]]) (fun pool hp => ?_)
    refine o_conv rfl rfl rfl Tryd.underlying3 Tryd.underlying5 e4 ?_
    exact st_unflat (gs := [[(b1, .cells [.int .i64 a0.1, .int .i64 a0.2.1, .int .u32 a0.2.2.1, .int .i64 a0.2.2.2.1, .int .i64 a0.2.2.2.2].toArray 35 (0, 0))]]) hp (hk _ _ (Sto.Le.refl _) rfl)
  · intro ρ' τ u Fv rs hl hI hu hd hout hk
    obtain ⟨_, e2, rfl⟩ := hd 2 rfl
    obtain ⟨_, e5, rfl⟩ := hd 5 rfl
    have hI0 := hI
    obtain rfl := hI
    refine st_gs [[(b1, .cells [.int .i64 a0.1, .int .i64 a0.2.1, .int .u32 a0.2.2.1, .int .i64 a0.2.2.2.1, .int .i64 a0.2.2.2.2].toArray 35 (0, 0))]] rfl ?_
    refine o_lit (dk := (kI .u8)) (xs := [(IntKind.u8.wrap a0.1), (IntKind.u8.wrap a0.2.1)]) (ps := [(0, [.int .u8 (IntKind.u8.wrap a0.1)]), (1, [.int .u8 (IntKind.u8.wrap a0.2.1)])]) (cs := [.int .u8 (IntKind.u8.wrap a0.1), .int .u8 (IntKind.u8.wrap a0.2.1)]) rfl rfl rfl z_slT31 z_zero5 ⟨rfl, ⟨_, e2, rfl⟩, ⟨rfl, ⟨_, e5, rfl⟩, trivial⟩⟩ rfl rfl rfl rfl (Kd.Many.cons (a := [.int .u8 (IntKind.u8.wrap a0.1)]) rfl (Kd.Many.cons (a := [.int .u8 (IntKind.u8.wrap a0.2.1)]) rfl Kd.Many.nil)) (fun v2 g3 ho4 => ?_)
    refine st_ord [1, 0] [[(b1, .cells [.int .i64 a0.1, .int .i64 a0.2.1, .int .u32 a0.2.2.1, .int .i64 a0.2.2.2.1, .int .i64 a0.2.2.2.2].toArray 35 (0, 0))], g3] rfl ?_
    exact hk _ _ [g3] (Sto.Le.refl _) trivial ⟨v2, g3, rfl, rfl, ho4⟩
  · intro ρ' τ Fv rs hl hd hout hk
    refine st_flat (gs := [[(b1, .cells [.int .i64 a0.1, .int .i64 a0.2.1, .int .u32 a0.2.2.1, .int .i64 a0.2.2.2.1, .int .i64 a0.2.2.2.2].toArray 35 (0, 0))]]) (fun pool hp => ?_)
    refine o_fieldAddr rfl rfl rfl z_field35_2 ((hout 1 rfl).trans rfl) ?_
    exact st_unflat (gs := [[(b1, .cells [.int .i64 a0.1, .int .i64 a0.2.1, .int .u32 a0.2.2.1, .int .i64 a0.2.2.2.1, .int .i64 a0.2.2.2.2].toArray 35 (0, 0))]]) hp (hk _ _ (Sto.Le.refl _) rfl)
  · intro ρ' τ Fv rs hl hd hout hk
    obtain ⟨_, e7, rfl⟩ := hd 7 rfl
    refine st_flat (gs := [[(b1, .cells [.int .i64 a0.1, .int .i64 a0.2.1, .int .u32 a0.2.2.1, .int .i64 a0.2.2.2.1, .int .i64 a0.2.2.2.2].toArray 35 (0, 0))]]) (fun pool hp => ?_)
    refine o_load (j := 0) (v := .int .u32 a0.2.2.1) rfl rfl rfl z_sc22 e7 rfl rfl ?_
    exact st_unflat (gs := [[(b1, .cells [.int .i64 a0.1, .int .i64 a0.2.1, .int .u32 a0.2.2.1, .int .i64 a0.2.2.2.1, .int .i64 a0.2.2.2.2].toArray 35 (0, 0))]]) hp (hk _ _ (Sto.Le.refl _) rfl)
  · intro ρ' τ Fv rs hl hd hout hk
    obtain ⟨_, e8, rfl⟩ := hd 8 rfl
    refine st_flat (gs := [[(b1, .cells [.int .i64 a0.1, .int .i64 a0.2.1, .int .u32 a0.2.2.1, .int .i64 a0.2.2.2.1, .int .i64 a0.2.2.2.2].toArray 35 (0, 0))]]) (fun pool hp => ?_)
    refine st_call (foot := []) rfl rfl rfl rfl (evs_cons e8 (evs_cons rfl rfl)) rfl (callV_fn z_en46 (ref02_Word_ok hr9 τ)) ?_
    rintro vτ10 τ10 gsτ10 hl11 ⟨v12, rfl, rfl, hs13⟩
    exact st_unflat (gs := [[(b1, .cells [.int .i64 a0.1, .int .i64 a0.2.1, .int .u32 a0.2.2.1, .int .i64 a0.2.2.2.1, .int .i64 a0.2.2.2.2].toArray 35 (0, 0))]]) hp (hk _ _ hl11 ⟨v12, rfl, hs13⟩)
  · intro ρ' τ u Fv rs hl hI hu hd hout hk
    obtain ⟨_, e9, v12, rfl, hs13⟩ := hd 9 rfl
    obtain ⟨v5, g6, rfl, rfl, ho7⟩ := hI
    refine st_gs [[(b1, .cells [.int .i64 a0.1, .int .i64 a0.2.1, .int .u32 a0.2.2.1, .int .i64 a0.2.2.2.1, .int .i64 a0.2.2.2.2].toArray 35 (0, 0))], g6] rfl ?_
    refine st_ord [1, 0] [g6, [(b1, .cells [.int .i64 a0.1, .int .i64 a0.2.1, .int .u32 a0.2.2.1, .int .i64 a0.2.2.2.1, .int .i64 a0.2.2.2.2].toArray 35 (0, 0))]] rfl ?_
    refine o_append (dk := (kI .u8)) (xs := [(IntKind.u8.wrap a0.1), (IntKind.u8.wrap a0.2.1)]) (ys := r8) rfl rfl rfl rfl z_slT31 (hu (by decide)) ho7 e9 (Sl.src hs13) hf17 hf18 (fun v14 g15 ho16 => ?_)
    refine st_ord [1, 0] [[(b1, .cells [.int .i64 a0.1, .int .i64 a0.2.1, .int .u32 a0.2.2.1, .int .i64 a0.2.2.2.1, .int .i64 a0.2.2.2.2].toArray 35 (0, 0))], g15] rfl ?_
    exact hk _ _ [g15] (Sto.Le.refl _) trivial ⟨v14, g15, rfl, rfl, ho16⟩
  intro ρ' τ22 vals u Fv hl22 hI hu hv hout
  obtain ⟨v19, g20, rfl, rfl, ho21⟩ := hI
  refine st_gs [[(b1, .cells [.int .i64 a0.1, .int .i64 a0.2.1, .int .u32 a0.2.2.1, .int .i64 a0.2.2.2.1, .int .i64 a0.2.2.2.2].toArray 35 (0, 0))], g20] rfl ?_
  refine st_env (ρ' := [(1, .pointer (some ⟨b1, 0, none⟩)), (2, .slice none 0 0), (14, v19)]) ⟨(hout 1 rfl).trans rfl, (hout 2 rfl).trans rfl, (by exact hu), trivial⟩ ?_
  refine o_assign rfl rfl rfl rfl ?_
  refine st_end ?_
  refine st_seq ?_
  refine st_region ?_
  refine o_move rfl rfl rfl rfl ?_
  refine o_fieldAddr rfl rfl rfl z_field35_3 rfl ?_
  refine o_load (j := 0) (v := .int .i64 a0.2.2.2.1) rfl rfl rfl z_sc3 rfl rfl rfl ?_
  refine o_conv rfl rfl rfl Tryd.underlying3 Tryd.underlying5 rfl ?_
  refine o_fieldAddr rfl rfl rfl z_field35_4 rfl ?_
  refine o_load (j := 0) (v := .int .i64 a0.2.2.2.2) rfl rfl rfl z_sc3 rfl rfl rfl ?_
  refine o_conv rfl rfl rfl Tryd.underlying3 Tryd.underlying5 rfl ?_
  refine o_lit (dk := (kI .u8)) (xs := [(IntKind.u8.wrap a0.2.2.2.1), (IntKind.u8.wrap a0.2.2.2.2)]) (ps := [(0, [.int .u8 (IntKind.u8.wrap a0.2.2.2.1)]), (1, [.int .u8 (IntKind.u8.wrap a0.2.2.2.2)])]) (cs := [.int .u8 (IntKind.u8.wrap a0.2.2.2.1), .int .u8 (IntKind.u8.wrap a0.2.2.2.2)]) rfl rfl rfl z_slT31 z_zero5 ⟨rfl, ⟨_, rfl, rfl⟩, ⟨rfl, ⟨_, rfl, rfl⟩, trivial⟩⟩ rfl rfl rfl rfl (Kd.Many.cons (a := [.int .u8 (IntKind.u8.wrap a0.2.2.2.1)]) rfl (Kd.Many.cons (a := [.int .u8 (IntKind.u8.wrap a0.2.2.2.2)]) rfl Kd.Many.nil)) (fun v23 g24 ho25 => ?_)
  obtain ⟨hf29, h⟩ := h
  obtain ⟨hf30, h⟩ := h
  refine st_ord [2, 0, 0] [g20, g24, [(b1, .cells [.int .i64 a0.1, .int .i64 a0.2.1, .int .u32 a0.2.2.1, .int .i64 a0.2.2.2.1, .int .i64 a0.2.2.2.2].toArray 35 (0, 0))]] rfl ?_
  refine o_append (dk := (kI .u8)) (xs := ([(IntKind.u8.wrap a0.1), (IntKind.u8.wrap a0.2.1)] ++ r8)) (ys := [(IntKind.u8.wrap a0.2.2.2.1), (IntKind.u8.wrap a0.2.2.2.2)]) rfl rfl rfl rfl z_slT31 rfl ho21 rfl (Ow.src (j := 1) ho25 rfl) hf29 hf30 (fun v26 g27 ho28 => ?_)
  refine o_assign rfl rfl rfl rfl ?_
  refine st_end ?_
  refine st_freeze (fun τ31 hl32 hg33 => ?_)
  have hs34 := ho28.freeze hl32 hg33
  refine st_ord [] [] rfl ?_
  obtain rfl := Eq.symm h
  exact st_ret (gs' := []) Tryd.func20 rfl (List.Sublist.refl _) (hl22.trans hl32) ⟨_, rfl, rfl, hs34⟩
theorem head_Last_ok {a0 : Int × Int × Int × Int × Int} {r : Bool} (h : head_Last a0 r) (σ : Sto)  :
    Does Tryd.prog 21 [.agg [.int .i64 a0.1, .int .i64 a0.2.1, .int .u32 a0.2.2.1, .int .i64 a0.2.2.2.1, .int .i64 a0.2.2.2.2].toArray] σ [] (fun v τ gs => gs = [] ∧ .bool r = v) := by
  refine call_of Tryd.func21 Tryd.ntmps21 rfl rfl (fun cs fs => ?_)
  refine st_seq ?_
  refine st_region ?_
  refine o_box (cs := [.int .i64 a0.1, .int .i64 a0.2.1, .int .u32 a0.2.2.1, .int .i64 a0.2.2.2.1, .int .i64 a0.2.2.2.2]) rfl rfl rfl rfl rfl (fun b1 => ?_)
  refine o_assign rfl rfl rfl rfl ?_
  refine st_end ?_
  refine st_seq ?_
  refine st_region ?_
  refine o_fieldAddr rfl rfl rfl z_field24_4 rfl ?_
  refine o_load (j := 0) (v := .int .i64 a0.2.2.2.2) rfl rfl rfl z_sc3 rfl rfl rfl ?_
  refine o_ibin (v := .int .i64 (IntKind.i64.wrap (a0.2.2.2.2 - 1))) rfl rfl rfl rfl rfl rfl ?_
  refine o_fieldAddr rfl rfl rfl z_field24_3 rfl ?_
  refine o_load (j := 0) (v := .int .i64 a0.2.2.2.1) rfl rfl rfl z_sc3 rfl rfl rfl ?_
  refine o_ibin (v := .bool (decide ((IntKind.i64.wrap (a0.2.2.2.2 - 1)) = a0.2.2.2.1))) rfl rfl rfl rfl rfl rfl ?_
  refine o_assign rfl rfl rfl rfl ?_
  refine st_end ?_
  refine st_ord [] [] rfl ?_
  obtain rfl := Eq.symm h
  exact st_ret (gs' := []) Tryd.func21 rfl (List.Sublist.refl _) (Sto.Le.refl _) ⟨rfl, rfl⟩
theorem law07_HeadTells_ok {a0 : Int × Int × Int × Int × Int} {r : Bool} (h : law07_HeadTells a0 r) (σ : Sto) (hT : Tab Tryd.prog σ) :
    Does Tryd.prog 6 [.agg [.int .i64 a0.1, .int .i64 a0.2.1, .int .u32 a0.2.2.1, .int .i64 a0.2.2.2.1, .int .i64 a0.2.2.2.2].toArray] σ [] (fun v τ gs => gs = [] ∧ .bool r = v) := by
  refine call_of Tryd.func6 Tryd.ntmps6 rfl rfl (fun cs fs => ?_)
  refine st_seq ?_
  refine st_region ?_
  refine o_box (cs := [.int .i64 a0.1, .int .i64 a0.2.1, .int .u32 a0.2.2.1, .int .i64 a0.2.2.2.1, .int .i64 a0.2.2.2.2]) rfl rfl rfl rfl rfl (fun b1 => ?_)
  refine o_assign rfl rfl rfl rfl ?_
  refine st_end ?_
  refine st_seq ?_
  refine st_region ?_
  refine o_loadN (j := 0) (vs := [.int .i64 a0.1, .int .i64 a0.2.1, .int .u32 a0.2.2.1, .int .i64 a0.2.2.2.1, .int .i64 a0.2.2.2.2]) rfl rfl rfl z_agg24 rfl rfl rfl ?_
  obtain ⟨r2, hr3, h⟩ := h
  refine st_call (foot := []) rfl rfl rfl rfl rfl rfl (callV_fn z_en14 (head_Bytes_ok hr3 σ)) ?_
  rintro vτ4 τ4 gsτ4 hl5 ⟨v6, rfl, rfl, hs7, hF8⟩
  refine o_move rfl rfl rfl rfl ?_
  refine o_extract rfl rfl rfl rfl rfl ?_
  refine o_extract rfl rfl rfl rfl rfl ?_
  refine o_assign rfl rfl rfl rfl ?_
  refine o_assign rfl rfl rfl rfl ?_
  refine st_end ?_
  refine st_seq ?_
  refine st_region ?_
  refine o_loadN (j := 0) (vs := [.int .i64 a0.1, .int .i64 a0.2.1, .int .u32 a0.2.2.1, .int .i64 a0.2.2.2.1, .int .i64 a0.2.2.2.2]) rfl rfl rfl z_agg24 rfl rfl rfl ?_
  obtain ⟨r9, hr10, h⟩ := h
  refine st_call (foot := []) rfl rfl rfl rfl rfl rfl (callV_fn z_en16 (ref07_Check_ok hr10 τ4)) ?_
  rintro vτ11 τ11 gsτ11 hl12 ⟨rfl, rfl⟩
  refine o_assign rfl rfl rfl rfl ?_
  refine st_end ?_
  refine st_seq ?_
  refine st_seq ?_
  obtain ⟨r13, hr14, h⟩ := h
  obtain ⟨r17, hr18, h⟩ := h
  obtain ⟨r21, hr22, h⟩ := h
  refine st_draw 16 (tl [fun τ v => (.agg [.int .i64 a0.1, .int .i64 a0.2.1, .int .u32 a0.2.2.1, .int .i64 a0.2.2.2.1, .int .i64 a0.2.2.2.2].toArray : Value) = v,
    fun τ v => (.int .i64 r13 : Value) = v,
    fun τ v => (.int .i64 r9 : Value) = v,
    fun τ v => (.bool (!(decide (r13 = r9))) : Value) = v,
    fun τ v => (.bool (!(decide (r13 = r9))) : Value) = v,
    fun τ v => (((!(decide (r13 = r9))) = false) → (.int .i64 r2.2 : Value) = v) ∧ (¬ ((!(decide (r13 = r9))) = false) → v = undef),
    fun τ v => (((!(decide (r13 = r9))) = false) → (.int .i64 r9 : Value) = v) ∧ (¬ ((!(decide (r13 = r9))) = false) → v = undef),
    fun τ v => (((!(decide (r13 = r9))) = false) → (.bool (!(decide (r2.2 = r9))) : Value) = v) ∧ (¬ ((!(decide (r13 = r9))) = false) → v = undef),
    fun τ v => (.bool ((!(decide (r13 = r9))) || (!(decide (r2.2 = r9)))) : Value) = v,
    fun τ v => (.bool ((!(decide (r13 = r9))) || (!(decide (r2.2 = r9)))) : Value) = v,
    fun τ v => ((((!(decide (r13 = r9))) || (!(decide (r2.2 = r9)))) = false) → (.agg [.int .i64 a0.1, .int .i64 a0.2.1, .int .u32 a0.2.2.1, .int .i64 a0.2.2.2.1, .int .i64 a0.2.2.2.2].toArray : Value) = v) ∧ (¬ (((!(decide (r13 = r9))) || (!(decide (r2.2 = r9)))) = false) → v = undef),
    fun τ v => ((((!(decide (r13 = r9))) || (!(decide (r2.2 = r9)))) = false) → (.string r17 : Value) = v) ∧ (¬ (((!(decide (r13 = r9))) || (!(decide (r2.2 = r9)))) = false) → v = undef),
    fun τ v => ((((!(decide (r13 = r9))) || (!(decide (r2.2 = r9)))) = false) → (.agg [.int .i64 a0.1, .int .i64 a0.2.1, .int .u32 a0.2.2.1, .int .i64 a0.2.2.2.1, .int .i64 a0.2.2.2.2].toArray : Value) = v) ∧ (¬ (((!(decide (r13 = r9))) || (!(decide (r2.2 = r9)))) = false) → v = undef),
    fun τ v => ((((!(decide (r13 = r9))) || (!(decide (r2.2 = r9)))) = false) → (.string r21 : Value) = v) ∧ (¬ (((!(decide (r13 = r9))) || (!(decide (r2.2 = r9)))) = false) → v = undef),
    fun τ v => ((((!(decide (r13 = r9))) || (!(decide (r2.2 = r9)))) = false) → (.bool (!(decide (r17 = r21))) : Value) = v) ∧ (¬ (((!(decide (r13 = r9))) || (!(decide (r2.2 = r9)))) = false) → v = undef),
    fun τ v => (.bool (((!(decide (r13 = r9))) || (!(decide (r2.2 = r9)))) || (!(decide (r17 = r21)))) : Value) = v]) (fun _ _ => []) z_mix rfl (tl_mono ⟨fun _ _ _ _ h => h, ⟨fun _ _ _ _ h => h, ⟨fun _ _ _ _ h => h, ⟨fun _ _ _ _ h => h, ⟨fun _ _ _ _ h => h, ⟨fun _ _ _ _ h => h, ⟨fun _ _ _ _ h => h, ⟨fun _ _ _ _ h => h, ⟨fun _ _ _ _ h => h, ⟨fun _ _ _ _ h => h, ⟨fun _ _ _ _ h => h, ⟨fun _ _ _ _ h => h, ⟨fun _ _ _ _ h => h, ⟨fun _ _ _ _ h => h, ⟨fun _ _ _ _ h => h, ⟨fun _ _ _ _ h => h, trivial⟩⟩⟩⟩⟩⟩⟩⟩⟩⟩⟩⟩⟩⟩⟩⟩) (allB_cons (allB_cons (allB_cons (allB_cons (allB_cons (allB_cons (allB_cons (allB_cons (allB_cons (allB_cons (allB_cons (allB_cons (allB_cons (allB_cons (allB_cons (allB_cons allB_nil ?_) ?_) ?_) ?_) ?_) ?_) ?_) ?_) ?_) ?_) ?_) ?_) ?_) ?_) ?_) ?_) ?_
  · intro ρ' τ pool rs hl hd hout hk
    refine o_loadN (j := 0) (vs := [.int .i64 a0.1, .int .i64 a0.2.1, .int .u32 a0.2.2.1, .int .i64 a0.2.2.2.1, .int .i64 a0.2.2.2.2]) rfl rfl rfl z_agg24 ((hout 1 rfl).trans rfl) rfl rfl ?_
    exact st_addNil (hk _ _ (Sto.Le.refl _) rfl)
  · intro ρ' τ pool rs hl hd hout hk
    obtain ⟨_, e0, rfl⟩ := hd 0 rfl
    refine st_call (foot := []) rfl rfl rfl rfl (evs_cons e0 rfl) rfl (callV_fn z_en17 (head_Check_ok hr14 τ)) ?_
    rintro vτ15 τ15 gsτ15 hl16 ⟨rfl, rfl⟩
    exact st_addNil (hk _ _ hl16 rfl)
  · intro ρ' τ pool rs hl hd hout hk
    refine o_move rfl rfl rfl ((hout 5 rfl).trans rfl) ?_
    exact st_addNil (hk _ _ (Sto.Le.refl _) rfl)
  · intro ρ' τ pool rs hl hd hout hk
    obtain ⟨_, e1, rfl⟩ := hd 1 rfl
    obtain ⟨_, e2, rfl⟩ := hd 2 rfl
    refine o_ibin (v := .bool (!(decide (r13 = r9)))) rfl rfl rfl e1 e2 rfl ?_
    exact st_addNil (hk _ _ (Sto.Le.refl _) rfl)
  · intro ρ' τ pool rs hl hd hout hk
    obtain ⟨_, e3, rfl⟩ := hd 3 rfl
    refine o_move rfl rfl rfl e3 ?_
    exact st_addNil (hk _ _ (Sto.Le.refl _) rfl)
  · intro ρ' τ pool rs hl hd hout hk
    obtain ⟨_, e4, rfl⟩ := hd 4 rfl
    by_cases hG : (!(decide (r13 = r9))) = false
    · have hC := hG
      refine o_move rfl (wants_of rfl e4 hG) rfl ((hout 4 rfl).trans rfl) ?_
      exact st_addNil (hk _ _ (Sto.Le.refl _) ⟨fun _ => rfl, fun hn => absurd hC hn⟩)
    · refine st_pass rfl rfl rfl e4 (beq_off hG) rfl ?_
      exact st_addNil (hk _ _ (Sto.Le.refl _) ⟨fun h => absurd h hG, fun _ => rfl⟩)
  · intro ρ' τ pool rs hl hd hout hk
    obtain ⟨_, e4, rfl⟩ := hd 4 rfl
    by_cases hG : (!(decide (r13 = r9))) = false
    · have hC := hG
      refine o_move rfl (wants_of rfl e4 hG) rfl ((hout 5 rfl).trans rfl) ?_
      exact st_addNil (hk _ _ (Sto.Le.refl _) ⟨fun _ => rfl, fun hn => absurd hC hn⟩)
    · refine st_pass rfl rfl rfl e4 (beq_off hG) rfl ?_
      exact st_addNil (hk _ _ (Sto.Le.refl _) ⟨fun h => absurd h hG, fun _ => rfl⟩)
  · intro ρ' τ pool rs hl hd hout hk
    obtain ⟨_, e4, rfl⟩ := hd 4 rfl
    obtain ⟨w5, e5, t5⟩ := hd 5 rfl
    obtain ⟨w6, e6, t6⟩ := hd 6 rfl
    by_cases hG : (!(decide (r13 = r9))) = false
    · have hC := hG
      obtain ⟨rfl⟩ := t5.1 hC
      obtain ⟨rfl⟩ := t6.1 hC
      refine o_ibin (v := .bool (!(decide (r2.2 = r9)))) rfl (wants_of rfl e4 hG) rfl e5 e6 rfl ?_
      exact st_addNil (hk _ _ (Sto.Le.refl _) ⟨fun _ => rfl, fun hn => absurd hC hn⟩)
    · refine st_pass rfl rfl rfl e4 (beq_off hG) rfl ?_
      exact st_addNil (hk _ _ (Sto.Le.refl _) ⟨fun h => absurd h hG, fun _ => rfl⟩)
  · intro ρ' τ pool rs hl hd hout hk
    obtain ⟨_, e4, rfl⟩ := hd 4 rfl
    obtain ⟨w7, e7, t7⟩ := hd 7 rfl
    refine o_pickOr rfl rfl rfl e4 rfl (fun hp => e7.trans (congrArg some (Eq.symm (t7.1 hp)))) ?_
    exact st_addNil (hk _ _ (Sto.Le.refl _) rfl)
  · intro ρ' τ pool rs hl hd hout hk
    obtain ⟨_, e8, rfl⟩ := hd 8 rfl
    refine o_move rfl rfl rfl e8 ?_
    exact st_addNil (hk _ _ (Sto.Le.refl _) rfl)
  · intro ρ' τ pool rs hl hd hout hk
    obtain ⟨_, e9, rfl⟩ := hd 9 rfl
    by_cases hG : ((!(decide (r13 = r9))) || (!(decide (r2.2 = r9)))) = false
    · have hC := hG
      refine o_loadN (j := 0) (vs := [.int .i64 a0.1, .int .i64 a0.2.1, .int .u32 a0.2.2.1, .int .i64 a0.2.2.2.1, .int .i64 a0.2.2.2.2]) rfl (wants_of rfl e9 hG) rfl z_agg24 ((hout 1 rfl).trans rfl) rfl rfl ?_
      exact st_addNil (hk _ _ (Sto.Le.refl _) ⟨fun _ => rfl, fun hn => absurd hC hn⟩)
    · refine st_pass rfl rfl rfl e9 (beq_off hG) rfl ?_
      exact st_addNil (hk _ _ (Sto.Le.refl _) ⟨fun h => absurd h hG, fun _ => rfl⟩)
  · intro ρ' τ pool rs hl hd hout hk
    obtain ⟨_, e9, rfl⟩ := hd 9 rfl
    obtain ⟨w10, e10, t10⟩ := hd 10 rfl
    by_cases hG : ((!(decide (r13 = r9))) || (!(decide (r2.2 = r9)))) = false
    · have hC := hG
      replace hr18 := hr18 hC
      obtain ⟨rfl⟩ := t10.1 hC
      refine st_call (foot := []) rfl (wants_of rfl e9 hG) rfl rfl (evs_cons e10 rfl) rfl (callV_fn z_en18 (head_Line_ok hr18 τ (hT.up ((hl5.trans hl12).trans hl)))) ?_
      rintro vτ19 τ19 gsτ19 hl20 ⟨rfl, rfl⟩
      exact st_addNil (hk _ _ hl20 ⟨fun _ => rfl, fun hn => absurd hC hn⟩)
    · refine st_pass rfl rfl rfl e9 (beq_off hG) rfl ?_
      exact st_addNil (hk _ _ (Sto.Le.refl _) ⟨fun h => absurd h hG, fun _ => rfl⟩)
  · intro ρ' τ pool rs hl hd hout hk
    obtain ⟨_, e9, rfl⟩ := hd 9 rfl
    by_cases hG : ((!(decide (r13 = r9))) || (!(decide (r2.2 = r9)))) = false
    · have hC := hG
      refine o_loadN (j := 0) (vs := [.int .i64 a0.1, .int .i64 a0.2.1, .int .u32 a0.2.2.1, .int .i64 a0.2.2.2.1, .int .i64 a0.2.2.2.2]) rfl (wants_of rfl e9 hG) rfl z_agg24 ((hout 1 rfl).trans rfl) rfl rfl ?_
      exact st_addNil (hk _ _ (Sto.Le.refl _) ⟨fun _ => rfl, fun hn => absurd hC hn⟩)
    · refine st_pass rfl rfl rfl e9 (beq_off hG) rfl ?_
      exact st_addNil (hk _ _ (Sto.Le.refl _) ⟨fun h => absurd h hG, fun _ => rfl⟩)
  · intro ρ' τ pool rs hl hd hout hk
    obtain ⟨_, e9, rfl⟩ := hd 9 rfl
    obtain ⟨w12, e12, t12⟩ := hd 12 rfl
    by_cases hG : ((!(decide (r13 = r9))) || (!(decide (r2.2 = r9)))) = false
    · have hC := hG
      replace hr22 := hr22 hC
      obtain ⟨rfl⟩ := t12.1 hC
      refine st_call (foot := []) rfl (wants_of rfl e9 hG) rfl rfl (evs_cons e12 rfl) rfl (callV_fn z_en19 (ref07_Line_ok hr22 τ)) ?_
      rintro vτ23 τ23 gsτ23 hl24 ⟨rfl, rfl⟩
      exact st_addNil (hk _ _ hl24 ⟨fun _ => rfl, fun hn => absurd hC hn⟩)
    · refine st_pass rfl rfl rfl e9 (beq_off hG) rfl ?_
      exact st_addNil (hk _ _ (Sto.Le.refl _) ⟨fun h => absurd h hG, fun _ => rfl⟩)
  · intro ρ' τ pool rs hl hd hout hk
    obtain ⟨_, e9, rfl⟩ := hd 9 rfl
    obtain ⟨w11, e11, t11⟩ := hd 11 rfl
    obtain ⟨w13, e13, t13⟩ := hd 13 rfl
    by_cases hG : ((!(decide (r13 = r9))) || (!(decide (r2.2 = r9)))) = false
    · have hC := hG
      obtain ⟨rfl⟩ := t11.1 hC
      obtain ⟨rfl⟩ := t13.1 hC
      refine o_sbin (v := .bool (!(decide (r17 = r21)))) rfl (wants_of rfl e9 hG) rfl e11 e13 rfl ?_
      exact st_addNil (hk _ _ (Sto.Le.refl _) ⟨fun _ => rfl, fun hn => absurd hC hn⟩)
    · refine st_pass rfl rfl rfl e9 (beq_off hG) rfl ?_
      exact st_addNil (hk _ _ (Sto.Le.refl _) ⟨fun h => absurd h hG, fun _ => rfl⟩)
  · intro ρ' τ pool rs hl hd hout hk
    obtain ⟨_, e9, rfl⟩ := hd 9 rfl
    obtain ⟨w14, e14, t14⟩ := hd 14 rfl
    refine o_pickOr rfl rfl rfl e9 rfl (fun hp => e14.trans (congrArg some (Eq.symm (t14.1 hp)))) ?_
    exact st_addNil (hk _ _ (Sto.Le.refl _) rfl)
  intro ρ' τ25 vals hl25 hv hout
  have l15 : Eng.look ρ' 30 = some (.bool (((!(decide (r13 = r9))) || (!(decide (r2.2 = r9)))) || (!(decide (r17 = r21))))) := (hv 15 (by decide)).1.trans (congrArg some (show vals 15 = .bool (((!(decide (r13 = r9))) || (!(decide (r2.2 = r9)))) || (!(decide (r17 = r21)))) from Eq.symm (hv 15 (by decide)).2))
  refine st_ord [0] [[(b1, .cells [.int .i64 a0.1, .int .i64 a0.2.1, .int .u32 a0.2.2.1, .int .i64 a0.2.2.2.1, .int .i64 a0.2.2.2.2].toArray 24 (0, 0))]] rfl ?_
  refine st_env (ρ' := [(30, .bool (((!(decide (r13 = r9))) || (!(decide (r2.2 = r9)))) || (!(decide (r17 = r21))))), (1, .pointer (some ⟨b1, 0, none⟩)), (2, .bool false), (3, v6), (5, .int .i64 r9)]) ⟨l15, (hout 1 rfl).trans rfl, (hout 2 rfl).trans rfl, (hout 3 rfl).trans rfl, (hout 5 rfl).trans rfl, trivial⟩ ?_
  refine st_end ?_
  refine st_cond rfl (fun hc => ?_) (fun hc => ?_)
  · replace h := (if_pos hc).mp h
    refine st_seq ?_
    refine st_region ?_
    refine o_assign rfl rfl rfl rfl ?_
    refine st_end ?_
    refine st_ord [] [] rfl ?_
    obtain rfl := Eq.symm h
    exact st_ret (gs' := []) Tryd.func6 rfl (List.Sublist.refl _) ((hl5.trans hl12).trans hl25) ⟨rfl, rfl⟩
  · replace h := (if_neg (ne_t hc)).mp h
    refine st_skip ?_
    refine st_seq ?_
    refine st_seq ?_
    refine st_region ?_
    refine o_move rfl rfl rfl rfl ?_
    refine o_ibin (v := .bool (!(decide (r9 = 0)))) rfl rfl rfl rfl rfl rfl ?_
    refine st_end ?_
    refine st_cond rfl (fun hc => ?_) (fun hc => ?_)
    · replace h := (if_pos hc).mp h
      refine st_seq ?_
      refine st_cut (fun ρ τ26 gs => ∃ (s26 : Bool), law07_HeadTells_j1 s26 r ∧ τ25.Le τ26 ∧ ρ = [(1, .pointer (some ⟨b1, 0, none⟩)), (2, .bool s26), (3, v6)] ∧ gs = [[(b1, .cells [.int .i64 a0.1, .int .i64 a0.2.1, .int .u32 a0.2.2.1, .int .i64 a0.2.2.2.1, .int .i64 a0.2.2.2.2].toArray 24 (0, 0))]]) ?_ (fun hk26 => ?_)
      · rintro ρ26 τ26 gs26 ⟨s26, h, hl26, rfl, rfl⟩
        refine st_ord [] [] rfl ?_
        obtain rfl := Eq.symm h
        exact st_ret (gs' := []) Tryd.func6 rfl (List.Sublist.refl _) (((hl5.trans hl12).trans hl25).trans hl26) ⟨rfl, rfl⟩
      refine st_region ?_
      obtain ⟨r27, hr28, h⟩ := h
      refine st_call (foot := []) rfl rfl rfl rfl rfl rfl (callV_fn z_en8 (law07_known_ok hr28 τ25 (hT.up ((hl5.trans hl12).trans hl25)))) ?_
      rintro vτ29 τ29 gsτ29 hl30 ⟨rfl, rfl⟩
      refine o_moveB rfl rfl rfl rfl (fun hc => ?_) (fun hc => ?_)
      · replace h := (if_pos hc).mp h
        refine o_move rfl rfl rfl rfl ?_
        refine o_lenI rfl rfl rfl z_slT31 rfl (hs7.up ((hl12.trans hl25).trans hl30)) ?_
        refine o_ibin (v := .bool (decide ((r2.1.length : Int) = 0))) rfl rfl rfl rfl rfl rfl ?_
        refine o_pick rfl rfl rfl rfl rfl ?_
        refine o_assign rfl rfl rfl rfl ?_
        refine st_end ?_
        refine st_env (ρ' := [(1, .pointer (some ⟨b1, 0, none⟩)), (2, .bool (decide ((r2.1.length : Int) = 0))), (3, v6)]) ⟨rfl, rfl, rfl, trivial⟩ ?_
        exact hk26 _ _ _ ⟨(decide ((r2.1.length : Int) = 0)), h, hl30, rfl, rfl⟩
      · replace h := (if_neg (ne_t hc)).mp h
        refine st_pass rfl rfl rfl rfl rfl rfl ?_
        refine st_pass rfl rfl rfl rfl rfl rfl ?_
        refine st_pass rfl rfl rfl rfl rfl rfl ?_
        refine o_pick rfl rfl rfl rfl rfl ?_
        refine o_assign rfl rfl rfl rfl ?_
        refine st_end ?_
        refine st_env (ρ' := [(1, .pointer (some ⟨b1, 0, none⟩)), (2, .bool false), (3, v6)]) ⟨rfl, rfl, rfl, trivial⟩ ?_
        exact hk26 _ _ _ ⟨false, h, hl30, rfl, rfl⟩
    · replace h := (if_neg (ne_t hc)).mp h
      refine st_skip ?_
      refine st_seq ?_
      refine st_region ?_
      refine o_move rfl rfl rfl rfl ?_
      obtain ⟨r31, hr32, h⟩ := h
      refine st_call (foot := []) rfl rfl rfl rfl rfl rfl (callV_fn z_en12 (head_Parse_ok hr32 τ25 (hs7.up (hl12.trans hl25)))) ?_
      rintro vτ33 τ33 gsτ33 hl34 ⟨rfl, rfl⟩
      refine o_move rfl rfl rfl rfl ?_
      refine o_extract rfl rfl rfl rfl rfl ?_
      refine o_extract rfl rfl rfl rfl rfl ?_
      refine o_alloc rfl rfl rfl z_zero24 (fun b35 => ?_)
      refine o_store (j := 0) (vs := [.int .i64 r31.1.1, .int .i64 r31.1.2.1, .int .u32 r31.1.2.2.1, .int .i64 r31.1.2.2.2.1, .int .i64 r31.1.2.2.2.2]) (cs' := [.int .i64 r31.1.1, .int .i64 r31.1.2.1, .int .u32 r31.1.2.2.1, .int .i64 r31.1.2.2.2.1, .int .i64 r31.1.2.2.2.2]) rfl rfl rfl z_size24 rfl rfl rfl (ones_cons rfl (ones_cons rfl (ones_cons rfl (ones_cons rfl (ones_cons rfl ones_nil))))) rfl rfl rfl ?_
      refine st_gs [[(b35, .cells [.int .i64 r31.1.1, .int .i64 r31.1.2.1, .int .u32 r31.1.2.2.1, .int .i64 r31.1.2.2.2.1, .int .i64 r31.1.2.2.2.2].toArray 24 (0, 0))], [(b1, .cells [.int .i64 a0.1, .int .i64 a0.2.1, .int .u32 a0.2.2.1, .int .i64 a0.2.2.2.1, .int .i64 a0.2.2.2.2].toArray 24 (0, 0))]] rfl ?_
      refine o_assign rfl rfl rfl rfl ?_
      refine st_end ?_
      refine st_seq ?_
      obtain ⟨r36, hr37, h⟩ := h
      obtain ⟨r40, hr41, h⟩ := h
      obtain ⟨r46, hr47, h⟩ := h
      obtain ⟨r50, hr51, h⟩ := h
      refine st_draw 32 (tl [fun τ v => (.bool r36 : Value) = v,
    fun τ v => (.bool r36 : Value) = v,
    fun τ v => ((r36 = true) → (v6 : Value) = v) ∧ (¬ (r36 = true) → v = undef),
    fun τ v => ((r36 = true) → (.agg [.int .i64 a0.1, .int .i64 a0.2.1, .int .u32 a0.2.2.1, .int .i64 a0.2.2.2.1, .int .i64 a0.2.2.2.2].toArray : Value) = v) ∧ (¬ (r36 = true) → v = undef),
    fun τ v => ((r36 = true) → ∃ (v44 : Value), (v44 : Value) = v ∧ Sl (kI .u8) τ v44 r40) ∧ (¬ (r36 = true) → v = undef),
    fun τ v => ((r36 = true) → (.bool r46 : Value) = v) ∧ (¬ (r36 = true) → v = undef),
    fun τ v => (.bool (r36 && r46) : Value) = v,
    fun τ v => (.bool (r36 && r46) : Value) = v,
    fun τ v => (((r36 && r46) = true) → (.agg [.int .i64 r31.1.1, .int .i64 r31.1.2.1, .int .u32 r31.1.2.2.1, .int .i64 r31.1.2.2.2.1, .int .i64 r31.1.2.2.2.2].toArray : Value) = v) ∧ (¬ ((r36 && r46) = true) → v = undef),
    fun τ v => (((r36 && r46) = true) → (.agg [.int .i64 a0.1, .int .i64 a0.2.1, .int .u32 a0.2.2.1, .int .i64 a0.2.2.2.1, .int .i64 a0.2.2.2.2].toArray : Value) = v) ∧ (¬ ((r36 && r46) = true) → v = undef),
    fun τ v => (((r36 && r46) = true) → (.bool ((decide (r31.1.1 = a0.1)) && ((decide (r31.1.2.1 = a0.2.1)) && ((decide (r31.1.2.2.1 = a0.2.2.1)) && ((decide (r31.1.2.2.2.1 = a0.2.2.2.1)) && ((decide (r31.1.2.2.2.2 = a0.2.2.2.2)) && true))))) : Value) = v) ∧ (¬ ((r36 && r46) = true) → v = undef),
    fun τ v => (.bool ((r36 && r46) && ((decide (r31.1.1 = a0.1)) && ((decide (r31.1.2.1 = a0.2.1)) && ((decide (r31.1.2.2.1 = a0.2.2.1)) && ((decide (r31.1.2.2.2.1 = a0.2.2.2.1)) && ((decide (r31.1.2.2.2.2 = a0.2.2.2.2)) && true)))))) : Value) = v,
    fun τ v => (.bool ((r36 && r46) && ((decide (r31.1.1 = a0.1)) && ((decide (r31.1.2.1 = a0.2.1)) && ((decide (r31.1.2.2.1 = a0.2.2.1)) && ((decide (r31.1.2.2.2.1 = a0.2.2.2.1)) && ((decide (r31.1.2.2.2.2 = a0.2.2.2.2)) && true)))))) : Value) = v,
    fun τ v => ((((r36 && r46) && ((decide (r31.1.1 = a0.1)) && ((decide (r31.1.2.1 = a0.2.1)) && ((decide (r31.1.2.2.1 = a0.2.2.1)) && ((decide (r31.1.2.2.2.1 = a0.2.2.2.1)) && ((decide (r31.1.2.2.2.2 = a0.2.2.2.2)) && true)))))) = true) → (.int .i64 r31.2 : Value) = v) ∧ (¬ (((r36 && r46) && ((decide (r31.1.1 = a0.1)) && ((decide (r31.1.2.1 = a0.2.1)) && ((decide (r31.1.2.2.1 = a0.2.2.1)) && ((decide (r31.1.2.2.2.1 = a0.2.2.2.1)) && ((decide (r31.1.2.2.2.2 = a0.2.2.2.2)) && true)))))) = true) → v = undef),
    fun τ v => ((((r36 && r46) && ((decide (r31.1.1 = a0.1)) && ((decide (r31.1.2.1 = a0.2.1)) && ((decide (r31.1.2.2.1 = a0.2.2.1)) && ((decide (r31.1.2.2.2.1 = a0.2.2.2.1)) && ((decide (r31.1.2.2.2.2 = a0.2.2.2.2)) && true)))))) = true) → (.bool (decide (r31.2 = 0)) : Value) = v) ∧ (¬ (((r36 && r46) && ((decide (r31.1.1 = a0.1)) && ((decide (r31.1.2.1 = a0.2.1)) && ((decide (r31.1.2.2.1 = a0.2.2.1)) && ((decide (r31.1.2.2.2.1 = a0.2.2.2.1)) && ((decide (r31.1.2.2.2.2 = a0.2.2.2.2)) && true)))))) = true) → v = undef),
    fun τ v => (.bool (((r36 && r46) && ((decide (r31.1.1 = a0.1)) && ((decide (r31.1.2.1 = a0.2.1)) && ((decide (r31.1.2.2.1 = a0.2.2.1)) && ((decide (r31.1.2.2.2.1 = a0.2.2.2.1)) && ((decide (r31.1.2.2.2.2 = a0.2.2.2.2)) && true)))))) && (decide (r31.2 = 0))) : Value) = v,
    fun τ v => (.bool (((r36 && r46) && ((decide (r31.1.1 = a0.1)) && ((decide (r31.1.2.1 = a0.2.1)) && ((decide (r31.1.2.2.1 = a0.2.2.1)) && ((decide (r31.1.2.2.2.1 = a0.2.2.2.1)) && ((decide (r31.1.2.2.2.2 = a0.2.2.2.2)) && true)))))) && (decide (r31.2 = 0))) : Value) = v,
    fun τ v => (((((r36 && r46) && ((decide (r31.1.1 = a0.1)) && ((decide (r31.1.2.1 = a0.2.1)) && ((decide (r31.1.2.2.1 = a0.2.2.1)) && ((decide (r31.1.2.2.2.1 = a0.2.2.2.1)) && ((decide (r31.1.2.2.2.2 = a0.2.2.2.2)) && true)))))) && (decide (r31.2 = 0))) = true) → (v6 : Value) = v) ∧ (¬ ((((r36 && r46) && ((decide (r31.1.1 = a0.1)) && ((decide (r31.1.2.1 = a0.2.1)) && ((decide (r31.1.2.2.1 = a0.2.2.1)) && ((decide (r31.1.2.2.2.1 = a0.2.2.2.1)) && ((decide (r31.1.2.2.2.2 = a0.2.2.2.2)) && true)))))) && (decide (r31.2 = 0))) = true) → v = undef),
    fun τ v => (((((r36 && r46) && ((decide (r31.1.1 = a0.1)) && ((decide (r31.1.2.1 = a0.2.1)) && ((decide (r31.1.2.2.1 = a0.2.2.1)) && ((decide (r31.1.2.2.2.1 = a0.2.2.2.1)) && ((decide (r31.1.2.2.2.2 = a0.2.2.2.2)) && true)))))) && (decide (r31.2 = 0))) = true) → (.int .i64 (r2.1.length : Int) : Value) = v) ∧ (¬ ((((r36 && r46) && ((decide (r31.1.1 = a0.1)) && ((decide (r31.1.2.1 = a0.2.1)) && ((decide (r31.1.2.2.1 = a0.2.2.1)) && ((decide (r31.1.2.2.2.1 = a0.2.2.2.1)) && ((decide (r31.1.2.2.2.2 = a0.2.2.2.2)) && true)))))) && (decide (r31.2 = 0))) = true) → v = undef),
    fun τ v => (((((r36 && r46) && ((decide (r31.1.1 = a0.1)) && ((decide (r31.1.2.1 = a0.2.1)) && ((decide (r31.1.2.2.1 = a0.2.2.1)) && ((decide (r31.1.2.2.2.1 = a0.2.2.2.1)) && ((decide (r31.1.2.2.2.2 = a0.2.2.2.2)) && true)))))) && (decide (r31.2 = 0))) = true) → (.bool (decide ((r2.1.length : Int) = 8)) : Value) = v) ∧ (¬ ((((r36 && r46) && ((decide (r31.1.1 = a0.1)) && ((decide (r31.1.2.1 = a0.2.1)) && ((decide (r31.1.2.2.1 = a0.2.2.1)) && ((decide (r31.1.2.2.2.1 = a0.2.2.2.1)) && ((decide (r31.1.2.2.2.2 = a0.2.2.2.2)) && true)))))) && (decide (r31.2 = 0))) = true) → v = undef),
    fun τ v => (.bool ((((r36 && r46) && ((decide (r31.1.1 = a0.1)) && ((decide (r31.1.2.1 = a0.2.1)) && ((decide (r31.1.2.2.1 = a0.2.2.1)) && ((decide (r31.1.2.2.2.1 = a0.2.2.2.1)) && ((decide (r31.1.2.2.2.2 = a0.2.2.2.2)) && true)))))) && (decide (r31.2 = 0))) && (decide ((r2.1.length : Int) = 8))) : Value) = v,
    fun τ v => (.bool ((((r36 && r46) && ((decide (r31.1.1 = a0.1)) && ((decide (r31.1.2.1 = a0.2.1)) && ((decide (r31.1.2.2.1 = a0.2.2.1)) && ((decide (r31.1.2.2.2.1 = a0.2.2.2.1)) && ((decide (r31.1.2.2.2.2 = a0.2.2.2.2)) && true)))))) && (decide (r31.2 = 0))) && (decide ((r2.1.length : Int) = 8))) : Value) = v,
    fun τ v => ((((((r36 && r46) && ((decide (r31.1.1 = a0.1)) && ((decide (r31.1.2.1 = a0.2.1)) && ((decide (r31.1.2.2.1 = a0.2.2.1)) && ((decide (r31.1.2.2.2.1 = a0.2.2.2.1)) && ((decide (r31.1.2.2.2.2 = a0.2.2.2.2)) && true)))))) && (decide (r31.2 = 0))) && (decide ((r2.1.length : Int) = 8))) = true) → (.agg [.int .i64 a0.1, .int .i64 a0.2.1, .int .u32 a0.2.2.1, .int .i64 a0.2.2.2.1, .int .i64 a0.2.2.2.2].toArray : Value) = v) ∧ (¬ (((((r36 && r46) && ((decide (r31.1.1 = a0.1)) && ((decide (r31.1.2.1 = a0.2.1)) && ((decide (r31.1.2.2.1 = a0.2.2.1)) && ((decide (r31.1.2.2.2.1 = a0.2.2.2.1)) && ((decide (r31.1.2.2.2.2 = a0.2.2.2.2)) && true)))))) && (decide (r31.2 = 0))) && (decide ((r2.1.length : Int) = 8))) = true) → v = undef),
    fun τ v => ((((((r36 && r46) && ((decide (r31.1.1 = a0.1)) && ((decide (r31.1.2.1 = a0.2.1)) && ((decide (r31.1.2.2.1 = a0.2.2.1)) && ((decide (r31.1.2.2.2.1 = a0.2.2.2.1)) && ((decide (r31.1.2.2.2.2 = a0.2.2.2.2)) && true)))))) && (decide (r31.2 = 0))) && (decide ((r2.1.length : Int) = 8))) = true) → (.bool r50 : Value) = v) ∧ (¬ (((((r36 && r46) && ((decide (r31.1.1 = a0.1)) && ((decide (r31.1.2.1 = a0.2.1)) && ((decide (r31.1.2.2.1 = a0.2.2.1)) && ((decide (r31.1.2.2.2.1 = a0.2.2.2.1)) && ((decide (r31.1.2.2.2.2 = a0.2.2.2.2)) && true)))))) && (decide (r31.2 = 0))) && (decide ((r2.1.length : Int) = 8))) = true) → v = undef),
    fun τ v => ((((((r36 && r46) && ((decide (r31.1.1 = a0.1)) && ((decide (r31.1.2.1 = a0.2.1)) && ((decide (r31.1.2.2.1 = a0.2.2.1)) && ((decide (r31.1.2.2.2.1 = a0.2.2.2.1)) && ((decide (r31.1.2.2.2.2 = a0.2.2.2.2)) && true)))))) && (decide (r31.2 = 0))) && (decide ((r2.1.length : Int) = 8))) = true) → (.pointer (some ⟨b1, 3, none⟩) : Value) = v) ∧ (¬ (((((r36 && r46) && ((decide (r31.1.1 = a0.1)) && ((decide (r31.1.2.1 = a0.2.1)) && ((decide (r31.1.2.2.1 = a0.2.2.1)) && ((decide (r31.1.2.2.2.1 = a0.2.2.2.1)) && ((decide (r31.1.2.2.2.2 = a0.2.2.2.2)) && true)))))) && (decide (r31.2 = 0))) && (decide ((r2.1.length : Int) = 8))) = true) → v = undef),
    fun τ v => ((((((r36 && r46) && ((decide (r31.1.1 = a0.1)) && ((decide (r31.1.2.1 = a0.2.1)) && ((decide (r31.1.2.2.1 = a0.2.2.1)) && ((decide (r31.1.2.2.2.1 = a0.2.2.2.1)) && ((decide (r31.1.2.2.2.2 = a0.2.2.2.2)) && true)))))) && (decide (r31.2 = 0))) && (decide ((r2.1.length : Int) = 8))) = true) → (.int .i64 a0.2.2.2.1 : Value) = v) ∧ (¬ (((((r36 && r46) && ((decide (r31.1.1 = a0.1)) && ((decide (r31.1.2.1 = a0.2.1)) && ((decide (r31.1.2.2.1 = a0.2.2.1)) && ((decide (r31.1.2.2.2.1 = a0.2.2.2.1)) && ((decide (r31.1.2.2.2.2 = a0.2.2.2.2)) && true)))))) && (decide (r31.2 = 0))) && (decide ((r2.1.length : Int) = 8))) = true) → v = undef),
    fun τ v => ((((((r36 && r46) && ((decide (r31.1.1 = a0.1)) && ((decide (r31.1.2.1 = a0.2.1)) && ((decide (r31.1.2.2.1 = a0.2.2.1)) && ((decide (r31.1.2.2.2.1 = a0.2.2.2.1)) && ((decide (r31.1.2.2.2.2 = a0.2.2.2.2)) && true)))))) && (decide (r31.2 = 0))) && (decide ((r2.1.length : Int) = 8))) = true) → (.pointer (some ⟨b1, 4, none⟩) : Value) = v) ∧ (¬ (((((r36 && r46) && ((decide (r31.1.1 = a0.1)) && ((decide (r31.1.2.1 = a0.2.1)) && ((decide (r31.1.2.2.1 = a0.2.2.1)) && ((decide (r31.1.2.2.2.1 = a0.2.2.2.1)) && ((decide (r31.1.2.2.2.2 = a0.2.2.2.2)) && true)))))) && (decide (r31.2 = 0))) && (decide ((r2.1.length : Int) = 8))) = true) → v = undef),
    fun τ v => ((((((r36 && r46) && ((decide (r31.1.1 = a0.1)) && ((decide (r31.1.2.1 = a0.2.1)) && ((decide (r31.1.2.2.1 = a0.2.2.1)) && ((decide (r31.1.2.2.2.1 = a0.2.2.2.1)) && ((decide (r31.1.2.2.2.2 = a0.2.2.2.2)) && true)))))) && (decide (r31.2 = 0))) && (decide ((r2.1.length : Int) = 8))) = true) → (.int .i64 a0.2.2.2.2 : Value) = v) ∧ (¬ (((((r36 && r46) && ((decide (r31.1.1 = a0.1)) && ((decide (r31.1.2.1 = a0.2.1)) && ((decide (r31.1.2.2.1 = a0.2.2.1)) && ((decide (r31.1.2.2.2.1 = a0.2.2.2.1)) && ((decide (r31.1.2.2.2.2 = a0.2.2.2.2)) && true)))))) && (decide (r31.2 = 0))) && (decide ((r2.1.length : Int) = 8))) = true) → v = undef),
    fun τ v => ((((((r36 && r46) && ((decide (r31.1.1 = a0.1)) && ((decide (r31.1.2.1 = a0.2.1)) && ((decide (r31.1.2.2.1 = a0.2.2.1)) && ((decide (r31.1.2.2.2.1 = a0.2.2.2.1)) && ((decide (r31.1.2.2.2.2 = a0.2.2.2.2)) && true)))))) && (decide (r31.2 = 0))) && (decide ((r2.1.length : Int) = 8))) = true) → (.int .i64 (IntKind.i64.wrap (a0.2.2.2.2 - 1)) : Value) = v) ∧ (¬ (((((r36 && r46) && ((decide (r31.1.1 = a0.1)) && ((decide (r31.1.2.1 = a0.2.1)) && ((decide (r31.1.2.2.1 = a0.2.2.1)) && ((decide (r31.1.2.2.2.1 = a0.2.2.2.1)) && ((decide (r31.1.2.2.2.2 = a0.2.2.2.2)) && true)))))) && (decide (r31.2 = 0))) && (decide ((r2.1.length : Int) = 8))) = true) → v = undef),
    fun τ v => ((((((r36 && r46) && ((decide (r31.1.1 = a0.1)) && ((decide (r31.1.2.1 = a0.2.1)) && ((decide (r31.1.2.2.1 = a0.2.2.1)) && ((decide (r31.1.2.2.2.1 = a0.2.2.2.1)) && ((decide (r31.1.2.2.2.2 = a0.2.2.2.2)) && true)))))) && (decide (r31.2 = 0))) && (decide ((r2.1.length : Int) = 8))) = true) → (.bool (decide (a0.2.2.2.1 = (IntKind.i64.wrap (a0.2.2.2.2 - 1)))) : Value) = v) ∧ (¬ (((((r36 && r46) && ((decide (r31.1.1 = a0.1)) && ((decide (r31.1.2.1 = a0.2.1)) && ((decide (r31.1.2.2.1 = a0.2.2.1)) && ((decide (r31.1.2.2.2.1 = a0.2.2.2.1)) && ((decide (r31.1.2.2.2.2 = a0.2.2.2.2)) && true)))))) && (decide (r31.2 = 0))) && (decide ((r2.1.length : Int) = 8))) = true) → v = undef),
    fun τ v => ((((((r36 && r46) && ((decide (r31.1.1 = a0.1)) && ((decide (r31.1.2.1 = a0.2.1)) && ((decide (r31.1.2.2.1 = a0.2.2.1)) && ((decide (r31.1.2.2.2.1 = a0.2.2.2.1)) && ((decide (r31.1.2.2.2.2 = a0.2.2.2.2)) && true)))))) && (decide (r31.2 = 0))) && (decide ((r2.1.length : Int) = 8))) = true) → (.bool (decide (r50 = (decide (a0.2.2.2.1 = (IntKind.i64.wrap (a0.2.2.2.2 - 1)))))) : Value) = v) ∧ (¬ (((((r36 && r46) && ((decide (r31.1.1 = a0.1)) && ((decide (r31.1.2.1 = a0.2.1)) && ((decide (r31.1.2.2.1 = a0.2.2.1)) && ((decide (r31.1.2.2.2.1 = a0.2.2.2.1)) && ((decide (r31.1.2.2.2.2 = a0.2.2.2.2)) && true)))))) && (decide (r31.2 = 0))) && (decide ((r2.1.length : Int) = 8))) = true) → v = undef),
    fun τ v => (.bool (((((r36 && r46) && ((decide (r31.1.1 = a0.1)) && ((decide (r31.1.2.1 = a0.2.1)) && ((decide (r31.1.2.2.1 = a0.2.2.1)) && ((decide (r31.1.2.2.2.1 = a0.2.2.2.1)) && ((decide (r31.1.2.2.2.2 = a0.2.2.2.2)) && true)))))) && (decide (r31.2 = 0))) && (decide ((r2.1.length : Int) = 8))) && (decide (r50 = (decide (a0.2.2.2.1 = (IntKind.i64.wrap (a0.2.2.2.2 - 1))))))) : Value) = v]) (fun _ _ => []) z_mix rfl (tl_mono ⟨fun _ _ _ _ h => h, ⟨fun _ _ _ _ h => h, ⟨fun _ _ _ _ h => h, ⟨fun _ _ _ _ h => h, ⟨fun _ _ _ hl ⟨h1, h2⟩ => ⟨fun hC => let ⟨v44, hv, hs45⟩ := h1 hC; ⟨v44, hv, hs45.up hl⟩, h2⟩, ⟨fun _ _ _ _ h => h, ⟨fun _ _ _ _ h => h, ⟨fun _ _ _ _ h => h, ⟨fun _ _ _ _ h => h, ⟨fun _ _ _ _ h => h, ⟨fun _ _ _ _ h => h, ⟨fun _ _ _ _ h => h, ⟨fun _ _ _ _ h => h, ⟨fun _ _ _ _ h => h, ⟨fun _ _ _ _ h => h, ⟨fun _ _ _ _ h => h, ⟨fun _ _ _ _ h => h, ⟨fun _ _ _ _ h => h, ⟨fun _ _ _ _ h => h, ⟨fun _ _ _ _ h => h, ⟨fun _ _ _ _ h => h, ⟨fun _ _ _ _ h => h, ⟨fun _ _ _ _ h => h, ⟨fun _ _ _ _ h => h, ⟨fun _ _ _ _ h => h, ⟨fun _ _ _ _ h => h, ⟨fun _ _ _ _ h => h, ⟨fun _ _ _ _ h => h, ⟨fun _ _ _ _ h => h, ⟨fun _ _ _ _ h => h, ⟨fun _ _ _ _ h => h, ⟨fun _ _ _ _ h => h, trivial⟩⟩⟩⟩⟩⟩⟩⟩⟩⟩⟩⟩⟩⟩⟩⟩⟩⟩⟩⟩⟩⟩⟩⟩⟩⟩⟩⟩⟩⟩⟩⟩) (allB_cons (allB_cons (allB_cons (allB_cons (allB_cons (allB_cons (allB_cons (allB_cons (allB_cons (allB_cons (allB_cons (allB_cons (allB_cons (allB_cons (allB_cons (allB_cons (allB_cons (allB_cons (allB_cons (allB_cons (allB_cons (allB_cons (allB_cons (allB_cons (allB_cons (allB_cons (allB_cons (allB_cons (allB_cons (allB_cons (allB_cons (allB_cons allB_nil ?_) ?_) ?_) ?_) ?_) ?_) ?_) ?_) ?_) ?_) ?_) ?_) ?_) ?_) ?_) ?_) ?_) ?_) ?_) ?_) ?_) ?_) ?_) ?_) ?_) ?_) ?_) ?_) ?_) ?_) ?_) ?_) ?_
      · intro ρ' τ pool rs hl hd hout hk
        refine st_call (foot := []) rfl rfl rfl rfl rfl rfl (callV_fn z_en8 (law07_known_ok hr37 τ (hT.up ((((hl5.trans hl12).trans hl25).trans hl34).trans hl)))) ?_
        rintro vτ38 τ38 gsτ38 hl39 ⟨rfl, rfl⟩
        exact st_addNil (hk _ _ hl39 rfl)
      · intro ρ' τ pool rs hl hd hout hk
        obtain ⟨_, e0, rfl⟩ := hd 0 rfl
        refine o_move rfl rfl rfl e0 ?_
        exact st_addNil (hk _ _ (Sto.Le.refl _) rfl)
      · intro ρ' τ pool rs hl hd hout hk
        obtain ⟨_, e1, rfl⟩ := hd 1 rfl
        by_cases hG : r36 = true
        · have hC := hG
          refine o_move rfl (wants_of rfl e1 hG) rfl ((hout 3 rfl).trans rfl) ?_
          exact st_addNil (hk _ _ (Sto.Le.refl _) ⟨fun _ => rfl, fun hn => absurd hC hn⟩)
        · refine st_pass rfl rfl rfl e1 (beq_off hG) rfl ?_
          exact st_addNil (hk _ _ (Sto.Le.refl _) ⟨fun h => absurd h hG, fun _ => rfl⟩)
      · intro ρ' τ pool rs hl hd hout hk
        obtain ⟨_, e1, rfl⟩ := hd 1 rfl
        by_cases hG : r36 = true
        · have hC := hG
          refine o_loadN (j := 1) (vs := [.int .i64 a0.1, .int .i64 a0.2.1, .int .u32 a0.2.2.1, .int .i64 a0.2.2.2.1, .int .i64 a0.2.2.2.2]) rfl (wants_of rfl e1 hG) rfl z_agg24 ((hout 1 rfl).trans rfl) rfl rfl ?_
          exact st_addNil (hk _ _ (Sto.Le.refl _) ⟨fun _ => rfl, fun hn => absurd hC hn⟩)
        · refine st_pass rfl rfl rfl e1 (beq_off hG) rfl ?_
          exact st_addNil (hk _ _ (Sto.Le.refl _) ⟨fun h => absurd h hG, fun _ => rfl⟩)
      · intro ρ' τ pool rs hl hd hout hk
        obtain ⟨_, e1, rfl⟩ := hd 1 rfl
        obtain ⟨w3, e3, t3⟩ := hd 3 rfl
        by_cases hG : r36 = true
        · have hC := hG
          replace hr41 := hr41 hC
          obtain ⟨rfl⟩ := t3.1 hC
          refine st_call (foot := []) rfl (wants_of rfl e1 hG) rfl rfl (evs_cons e3 rfl) rfl (callV_fn z_en20 (ref07_Bytes_ok hr41 τ)) ?_
          rintro vτ42 τ42 gsτ42 hl43 ⟨v44, rfl, rfl, hs45⟩
          exact st_addNil (hk _ _ hl43 ⟨fun _ => ⟨v44, rfl, hs45⟩, fun hn => absurd hC hn⟩)
        · refine st_pass rfl rfl rfl e1 (beq_off hG) rfl ?_
          exact st_addNil (hk _ _ (Sto.Le.refl _) ⟨fun h => absurd h hG, fun _ => rfl⟩)
      · intro ρ' τ pool rs hl hd hout hk
        obtain ⟨_, e1, rfl⟩ := hd 1 rfl
        obtain ⟨w2, e2, t2⟩ := hd 2 rfl
        obtain ⟨w4, e4, t4⟩ := hd 4 rfl
        by_cases hG : r36 = true
        · have hC := hG
          replace hr47 := hr47 hC
          obtain ⟨v44, rfl, hs45⟩ := t4.1 hC
          obtain ⟨rfl⟩ := t2.1 hC
          refine st_call (foot := []) rfl (wants_of rfl e1 hG) rfl rfl (evs_cons e2 (evs_cons e4 rfl)) rfl (callV_fn z_en15 (ref01_Same_ok hr47 τ (hs7.up (((hl12.trans hl25).trans hl34).trans hl)) hs45)) ?_
          rintro vτ48 τ48 gsτ48 hl49 ⟨rfl, rfl⟩
          exact st_addNil (hk _ _ hl49 ⟨fun _ => rfl, fun hn => absurd hC hn⟩)
        · refine st_pass rfl rfl rfl e1 (beq_off hG) rfl ?_
          exact st_addNil (hk _ _ (Sto.Le.refl _) ⟨fun h => absurd h hG, fun _ => rfl⟩)
      · intro ρ' τ pool rs hl hd hout hk
        obtain ⟨_, e1, rfl⟩ := hd 1 rfl
        obtain ⟨w5, e5, t5⟩ := hd 5 rfl
        refine o_pickAnd rfl rfl rfl e1 (fun hp => e5.trans (congrArg some (Eq.symm (t5.1 hp)))) rfl ?_
        exact st_addNil (hk _ _ (Sto.Le.refl _) rfl)
      · intro ρ' τ pool rs hl hd hout hk
        obtain ⟨_, e6, rfl⟩ := hd 6 rfl
        refine o_move rfl rfl rfl e6 ?_
        exact st_addNil (hk _ _ (Sto.Le.refl _) rfl)
      · intro ρ' τ pool rs hl hd hout hk
        obtain ⟨_, e7, rfl⟩ := hd 7 rfl
        by_cases hG : (r36 && r46) = true
        · have hC := hG
          refine o_loadN (j := 0) (vs := [.int .i64 r31.1.1, .int .i64 r31.1.2.1, .int .u32 r31.1.2.2.1, .int .i64 r31.1.2.2.2.1, .int .i64 r31.1.2.2.2.2]) rfl (wants_of rfl e7 hG) rfl z_agg24 ((hout 6 rfl).trans rfl) rfl rfl ?_
          exact st_addNil (hk _ _ (Sto.Le.refl _) ⟨fun _ => rfl, fun hn => absurd hC hn⟩)
        · refine st_pass rfl rfl rfl e7 (beq_off hG) rfl ?_
          exact st_addNil (hk _ _ (Sto.Le.refl _) ⟨fun h => absurd h hG, fun _ => rfl⟩)
      · intro ρ' τ pool rs hl hd hout hk
        obtain ⟨_, e7, rfl⟩ := hd 7 rfl
        by_cases hG : (r36 && r46) = true
        · have hC := hG
          refine o_loadN (j := 1) (vs := [.int .i64 a0.1, .int .i64 a0.2.1, .int .u32 a0.2.2.1, .int .i64 a0.2.2.2.1, .int .i64 a0.2.2.2.2]) rfl (wants_of rfl e7 hG) rfl z_agg24 ((hout 1 rfl).trans rfl) rfl rfl ?_
          exact st_addNil (hk _ _ (Sto.Le.refl _) ⟨fun _ => rfl, fun hn => absurd hC hn⟩)
        · refine st_pass rfl rfl rfl e7 (beq_off hG) rfl ?_
          exact st_addNil (hk _ _ (Sto.Le.refl _) ⟨fun h => absurd h hG, fun _ => rfl⟩)
      · intro ρ' τ pool rs hl hd hout hk
        obtain ⟨_, e7, rfl⟩ := hd 7 rfl
        obtain ⟨w8, e8, t8⟩ := hd 8 rfl
        obtain ⟨w9, e9, t9⟩ := hd 9 rfl
        by_cases hG : (r36 && r46) = true
        · have hC := hG
          obtain ⟨rfl⟩ := t8.1 hC
          obtain ⟨rfl⟩ := t9.1 hC
          refine o_aggEq (b := ((decide (r31.1.1 = a0.1)) && ((decide (r31.1.2.1 = a0.2.1)) && ((decide (r31.1.2.2.1 = a0.2.2.1)) && ((decide (r31.1.2.2.2.1 = a0.2.2.2.1)) && ((decide (r31.1.2.2.2.2 = a0.2.2.2.2)) && true)))))) (e := ((decide (r31.1.1 = a0.1)) && ((decide (r31.1.2.1 = a0.2.1)) && ((decide (r31.1.2.2.1 = a0.2.2.1)) && ((decide (r31.1.2.2.2.1 = a0.2.2.2.1)) && ((decide (r31.1.2.2.2.2 = a0.2.2.2.2)) && true)))))) rfl (wants_of rfl e7 hG) rfl z_eqg24 e8 e9 (fun w => by refine eq_struct Tryd.underlying24 z_held24 ?_; refine eqf_cons (r := (decide (r31.1.1 = a0.1))) (r' := ((decide (r31.1.2.1 = a0.2.1)) && ((decide (r31.1.2.2.1 = a0.2.2.1)) && ((decide (r31.1.2.2.2.1 = a0.2.2.2.1)) && ((decide (r31.1.2.2.2.2 = a0.2.2.2.2)) && true))))) rfl (part_one z_sc3 rfl) (part_one z_sc3 rfl) (by exact eq_int Tryd.underlying3 _ _) ?_; refine eqf_cons (r := (decide (r31.1.2.1 = a0.2.1))) (r' := ((decide (r31.1.2.2.1 = a0.2.2.1)) && ((decide (r31.1.2.2.2.1 = a0.2.2.2.1)) && ((decide (r31.1.2.2.2.2 = a0.2.2.2.2)) && true)))) rfl (part_one z_sc3 rfl) (part_one z_sc3 rfl) (by exact eq_int Tryd.underlying3 _ _) ?_; refine eqf_cons (r := (decide (r31.1.2.2.1 = a0.2.2.1))) (r' := ((decide (r31.1.2.2.2.1 = a0.2.2.2.1)) && ((decide (r31.1.2.2.2.2 = a0.2.2.2.2)) && true))) rfl (part_one z_sc22 rfl) (part_one z_sc22 rfl) (by exact eq_int Tryd.underlying22 _ _) ?_; refine eqf_cons (r := (decide (r31.1.2.2.2.1 = a0.2.2.2.1))) (r' := ((decide (r31.1.2.2.2.2 = a0.2.2.2.2)) && true)) rfl (part_one z_sc3 rfl) (part_one z_sc3 rfl) (by exact eq_int Tryd.underlying3 _ _) ?_; refine eqf_cons (r := (decide (r31.1.2.2.2.2 = a0.2.2.2.2))) (r' := true) rfl (part_one z_sc3 rfl) (part_one z_sc3 rfl) (by exact eq_int Tryd.underlying3 _ _) ?_; exact eqf_nil _ _ _ _) rfl ?_
          exact st_addNil (hk _ _ (Sto.Le.refl _) ⟨fun _ => rfl, fun hn => absurd hC hn⟩)
        · refine st_pass rfl rfl rfl e7 (beq_off hG) rfl ?_
          exact st_addNil (hk _ _ (Sto.Le.refl _) ⟨fun h => absurd h hG, fun _ => rfl⟩)
      · intro ρ' τ pool rs hl hd hout hk
        obtain ⟨_, e7, rfl⟩ := hd 7 rfl
        obtain ⟨w10, e10, t10⟩ := hd 10 rfl
        refine o_pickAnd rfl rfl rfl e7 (fun hp => e10.trans (congrArg some (Eq.symm (t10.1 hp)))) rfl ?_
        exact st_addNil (hk _ _ (Sto.Le.refl _) rfl)
      · intro ρ' τ pool rs hl hd hout hk
        obtain ⟨_, e11, rfl⟩ := hd 11 rfl
        refine o_move rfl rfl rfl e11 ?_
        exact st_addNil (hk _ _ (Sto.Le.refl _) rfl)
      · intro ρ' τ pool rs hl hd hout hk
        obtain ⟨_, e12, rfl⟩ := hd 12 rfl
        by_cases hG : ((r36 && r46) && ((decide (r31.1.1 = a0.1)) && ((decide (r31.1.2.1 = a0.2.1)) && ((decide (r31.1.2.2.1 = a0.2.2.1)) && ((decide (r31.1.2.2.2.1 = a0.2.2.2.1)) && ((decide (r31.1.2.2.2.2 = a0.2.2.2.2)) && true)))))) = true
        · have hC := hG
          refine o_move rfl (wants_of rfl e12 hG) rfl ((hout 7 rfl).trans rfl) ?_
          exact st_addNil (hk _ _ (Sto.Le.refl _) ⟨fun _ => rfl, fun hn => absurd hC hn⟩)
        · refine st_pass rfl rfl rfl e12 (beq_off hG) rfl ?_
          exact st_addNil (hk _ _ (Sto.Le.refl _) ⟨fun h => absurd h hG, fun _ => rfl⟩)
      · intro ρ' τ pool rs hl hd hout hk
        obtain ⟨_, e12, rfl⟩ := hd 12 rfl
        obtain ⟨w13, e13, t13⟩ := hd 13 rfl
        by_cases hG : ((r36 && r46) && ((decide (r31.1.1 = a0.1)) && ((decide (r31.1.2.1 = a0.2.1)) && ((decide (r31.1.2.2.1 = a0.2.2.1)) && ((decide (r31.1.2.2.2.1 = a0.2.2.2.1)) && ((decide (r31.1.2.2.2.2 = a0.2.2.2.2)) && true)))))) = true
        · have hC := hG
          obtain ⟨rfl⟩ := t13.1 hC
          refine o_ibin (v := .bool (decide (r31.2 = 0))) rfl (wants_of rfl e12 hG) rfl e13 rfl rfl ?_
          exact st_addNil (hk _ _ (Sto.Le.refl _) ⟨fun _ => rfl, fun hn => absurd hC hn⟩)
        · refine st_pass rfl rfl rfl e12 (beq_off hG) rfl ?_
          exact st_addNil (hk _ _ (Sto.Le.refl _) ⟨fun h => absurd h hG, fun _ => rfl⟩)
      · intro ρ' τ pool rs hl hd hout hk
        obtain ⟨_, e12, rfl⟩ := hd 12 rfl
        obtain ⟨w14, e14, t14⟩ := hd 14 rfl
        refine o_pickAnd rfl rfl rfl e12 (fun hp => e14.trans (congrArg some (Eq.symm (t14.1 hp)))) rfl ?_
        exact st_addNil (hk _ _ (Sto.Le.refl _) rfl)
      · intro ρ' τ pool rs hl hd hout hk
        obtain ⟨_, e15, rfl⟩ := hd 15 rfl
        refine o_move rfl rfl rfl e15 ?_
        exact st_addNil (hk _ _ (Sto.Le.refl _) rfl)
      · intro ρ' τ pool rs hl hd hout hk
        obtain ⟨_, e16, rfl⟩ := hd 16 rfl
        by_cases hG : (((r36 && r46) && ((decide (r31.1.1 = a0.1)) && ((decide (r31.1.2.1 = a0.2.1)) && ((decide (r31.1.2.2.1 = a0.2.2.1)) && ((decide (r31.1.2.2.2.1 = a0.2.2.2.1)) && ((decide (r31.1.2.2.2.2 = a0.2.2.2.2)) && true)))))) && (decide (r31.2 = 0))) = true
        · have hC := hG
          refine o_move rfl (wants_of rfl e16 hG) rfl ((hout 3 rfl).trans rfl) ?_
          exact st_addNil (hk _ _ (Sto.Le.refl _) ⟨fun _ => rfl, fun hn => absurd hC hn⟩)
        · refine st_pass rfl rfl rfl e16 (beq_off hG) rfl ?_
          exact st_addNil (hk _ _ (Sto.Le.refl _) ⟨fun h => absurd h hG, fun _ => rfl⟩)
      · intro ρ' τ pool rs hl hd hout hk
        obtain ⟨_, e16, rfl⟩ := hd 16 rfl
        obtain ⟨w17, e17, t17⟩ := hd 17 rfl
        by_cases hG : (((r36 && r46) && ((decide (r31.1.1 = a0.1)) && ((decide (r31.1.2.1 = a0.2.1)) && ((decide (r31.1.2.2.1 = a0.2.2.1)) && ((decide (r31.1.2.2.2.1 = a0.2.2.2.1)) && ((decide (r31.1.2.2.2.2 = a0.2.2.2.2)) && true)))))) && (decide (r31.2 = 0))) = true
        · have hC := hG
          obtain ⟨rfl⟩ := t17.1 hC
          refine o_lenI rfl (wants_of rfl e16 hG) rfl z_slT31 e17 (hs7.up (((hl12.trans hl25).trans hl34).trans hl)) ?_
          exact st_addNil (hk _ _ (Sto.Le.refl _) ⟨fun _ => rfl, fun hn => absurd hC hn⟩)
        · refine st_pass rfl rfl rfl e16 (beq_off hG) rfl ?_
          exact st_addNil (hk _ _ (Sto.Le.refl _) ⟨fun h => absurd h hG, fun _ => rfl⟩)
      · intro ρ' τ pool rs hl hd hout hk
        obtain ⟨_, e16, rfl⟩ := hd 16 rfl
        obtain ⟨w18, e18, t18⟩ := hd 18 rfl
        by_cases hG : (((r36 && r46) && ((decide (r31.1.1 = a0.1)) && ((decide (r31.1.2.1 = a0.2.1)) && ((decide (r31.1.2.2.1 = a0.2.2.1)) && ((decide (r31.1.2.2.2.1 = a0.2.2.2.1)) && ((decide (r31.1.2.2.2.2 = a0.2.2.2.2)) && true)))))) && (decide (r31.2 = 0))) = true
        · have hC := hG
          obtain ⟨rfl⟩ := t18.1 hC
          refine o_ibin (v := .bool (decide ((r2.1.length : Int) = 8))) rfl (wants_of rfl e16 hG) rfl e18 rfl rfl ?_
          exact st_addNil (hk _ _ (Sto.Le.refl _) ⟨fun _ => rfl, fun hn => absurd hC hn⟩)
        · refine st_pass rfl rfl rfl e16 (beq_off hG) rfl ?_
          exact st_addNil (hk _ _ (Sto.Le.refl _) ⟨fun h => absurd h hG, fun _ => rfl⟩)
      · intro ρ' τ pool rs hl hd hout hk
        obtain ⟨_, e16, rfl⟩ := hd 16 rfl
        obtain ⟨w19, e19, t19⟩ := hd 19 rfl
        refine o_pickAnd rfl rfl rfl e16 (fun hp => e19.trans (congrArg some (Eq.symm (t19.1 hp)))) rfl ?_
        exact st_addNil (hk _ _ (Sto.Le.refl _) rfl)
      · intro ρ' τ pool rs hl hd hout hk
        obtain ⟨_, e20, rfl⟩ := hd 20 rfl
        refine o_move rfl rfl rfl e20 ?_
        exact st_addNil (hk _ _ (Sto.Le.refl _) rfl)
      · intro ρ' τ pool rs hl hd hout hk
        obtain ⟨_, e21, rfl⟩ := hd 21 rfl
        by_cases hG : ((((r36 && r46) && ((decide (r31.1.1 = a0.1)) && ((decide (r31.1.2.1 = a0.2.1)) && ((decide (r31.1.2.2.1 = a0.2.2.1)) && ((decide (r31.1.2.2.2.1 = a0.2.2.2.1)) && ((decide (r31.1.2.2.2.2 = a0.2.2.2.2)) && true)))))) && (decide (r31.2 = 0))) && (decide ((r2.1.length : Int) = 8))) = true
        · have hC := hG
          refine o_loadN (j := 1) (vs := [.int .i64 a0.1, .int .i64 a0.2.1, .int .u32 a0.2.2.1, .int .i64 a0.2.2.2.1, .int .i64 a0.2.2.2.2]) rfl (wants_of rfl e21 hG) rfl z_agg24 ((hout 1 rfl).trans rfl) rfl rfl ?_
          exact st_addNil (hk _ _ (Sto.Le.refl _) ⟨fun _ => rfl, fun hn => absurd hC hn⟩)
        · refine st_pass rfl rfl rfl e21 (beq_off hG) rfl ?_
          exact st_addNil (hk _ _ (Sto.Le.refl _) ⟨fun h => absurd h hG, fun _ => rfl⟩)
      · intro ρ' τ pool rs hl hd hout hk
        obtain ⟨_, e21, rfl⟩ := hd 21 rfl
        obtain ⟨w22, e22, t22⟩ := hd 22 rfl
        by_cases hG : ((((r36 && r46) && ((decide (r31.1.1 = a0.1)) && ((decide (r31.1.2.1 = a0.2.1)) && ((decide (r31.1.2.2.1 = a0.2.2.1)) && ((decide (r31.1.2.2.2.1 = a0.2.2.2.1)) && ((decide (r31.1.2.2.2.2 = a0.2.2.2.2)) && true)))))) && (decide (r31.2 = 0))) && (decide ((r2.1.length : Int) = 8))) = true
        · have hC := hG
          replace hr51 := hr51 hC
          obtain ⟨rfl⟩ := t22.1 hC
          refine st_call (foot := []) rfl (wants_of rfl e21 hG) rfl rfl (evs_cons e22 rfl) rfl (callV_fn z_en21 (head_Last_ok hr51 τ)) ?_
          rintro vτ52 τ52 gsτ52 hl53 ⟨rfl, rfl⟩
          exact st_addNil (hk _ _ hl53 ⟨fun _ => rfl, fun hn => absurd hC hn⟩)
        · refine st_pass rfl rfl rfl e21 (beq_off hG) rfl ?_
          exact st_addNil (hk _ _ (Sto.Le.refl _) ⟨fun h => absurd h hG, fun _ => rfl⟩)
      · intro ρ' τ pool rs hl hd hout hk
        obtain ⟨_, e21, rfl⟩ := hd 21 rfl
        by_cases hG : ((((r36 && r46) && ((decide (r31.1.1 = a0.1)) && ((decide (r31.1.2.1 = a0.2.1)) && ((decide (r31.1.2.2.1 = a0.2.2.1)) && ((decide (r31.1.2.2.2.1 = a0.2.2.2.1)) && ((decide (r31.1.2.2.2.2 = a0.2.2.2.2)) && true)))))) && (decide (r31.2 = 0))) && (decide ((r2.1.length : Int) = 8))) = true
        · have hC := hG
          refine o_fieldAddr rfl (wants_of rfl e21 hG) rfl z_field24_3 ((hout 1 rfl).trans rfl) ?_
          exact st_addNil (hk _ _ (Sto.Le.refl _) ⟨fun _ => rfl, fun hn => absurd hC hn⟩)
        · refine st_pass rfl rfl rfl e21 (beq_off hG) rfl ?_
          exact st_addNil (hk _ _ (Sto.Le.refl _) ⟨fun h => absurd h hG, fun _ => rfl⟩)
      · intro ρ' τ pool rs hl hd hout hk
        obtain ⟨_, e21, rfl⟩ := hd 21 rfl
        obtain ⟨w24, e24, t24⟩ := hd 24 rfl
        by_cases hG : ((((r36 && r46) && ((decide (r31.1.1 = a0.1)) && ((decide (r31.1.2.1 = a0.2.1)) && ((decide (r31.1.2.2.1 = a0.2.2.1)) && ((decide (r31.1.2.2.2.1 = a0.2.2.2.1)) && ((decide (r31.1.2.2.2.2 = a0.2.2.2.2)) && true)))))) && (decide (r31.2 = 0))) && (decide ((r2.1.length : Int) = 8))) = true
        · have hC := hG
          obtain ⟨rfl⟩ := t24.1 hC
          refine o_load (j := 1) (v := .int .i64 a0.2.2.2.1) rfl (wants_of rfl e21 hG) rfl z_sc3 e24 rfl rfl ?_
          exact st_addNil (hk _ _ (Sto.Le.refl _) ⟨fun _ => rfl, fun hn => absurd hC hn⟩)
        · refine st_pass rfl rfl rfl e21 (beq_off hG) rfl ?_
          exact st_addNil (hk _ _ (Sto.Le.refl _) ⟨fun h => absurd h hG, fun _ => rfl⟩)
      · intro ρ' τ pool rs hl hd hout hk
        obtain ⟨_, e21, rfl⟩ := hd 21 rfl
        by_cases hG : ((((r36 && r46) && ((decide (r31.1.1 = a0.1)) && ((decide (r31.1.2.1 = a0.2.1)) && ((decide (r31.1.2.2.1 = a0.2.2.1)) && ((decide (r31.1.2.2.2.1 = a0.2.2.2.1)) && ((decide (r31.1.2.2.2.2 = a0.2.2.2.2)) && true)))))) && (decide (r31.2 = 0))) && (decide ((r2.1.length : Int) = 8))) = true
        · have hC := hG
          refine o_fieldAddr rfl (wants_of rfl e21 hG) rfl z_field24_4 ((hout 1 rfl).trans rfl) ?_
          exact st_addNil (hk _ _ (Sto.Le.refl _) ⟨fun _ => rfl, fun hn => absurd hC hn⟩)
        · refine st_pass rfl rfl rfl e21 (beq_off hG) rfl ?_
          exact st_addNil (hk _ _ (Sto.Le.refl _) ⟨fun h => absurd h hG, fun _ => rfl⟩)
      · intro ρ' τ pool rs hl hd hout hk
        obtain ⟨_, e21, rfl⟩ := hd 21 rfl
        obtain ⟨w26, e26, t26⟩ := hd 26 rfl
        by_cases hG : ((((r36 && r46) && ((decide (r31.1.1 = a0.1)) && ((decide (r31.1.2.1 = a0.2.1)) && ((decide (r31.1.2.2.1 = a0.2.2.1)) && ((decide (r31.1.2.2.2.1 = a0.2.2.2.1)) && ((decide (r31.1.2.2.2.2 = a0.2.2.2.2)) && true)))))) && (decide (r31.2 = 0))) && (decide ((r2.1.length : Int) = 8))) = true
        · have hC := hG
          obtain ⟨rfl⟩ := t26.1 hC
          refine o_load (j := 1) (v := .int .i64 a0.2.2.2.2) rfl (wants_of rfl e21 hG) rfl z_sc3 e26 rfl rfl ?_
          exact st_addNil (hk _ _ (Sto.Le.refl _) ⟨fun _ => rfl, fun hn => absurd hC hn⟩)
        · refine st_pass rfl rfl rfl e21 (beq_off hG) rfl ?_
          exact st_addNil (hk _ _ (Sto.Le.refl _) ⟨fun h => absurd h hG, fun _ => rfl⟩)
      · intro ρ' τ pool rs hl hd hout hk
        obtain ⟨_, e21, rfl⟩ := hd 21 rfl
        obtain ⟨w27, e27, t27⟩ := hd 27 rfl
        by_cases hG : ((((r36 && r46) && ((decide (r31.1.1 = a0.1)) && ((decide (r31.1.2.1 = a0.2.1)) && ((decide (r31.1.2.2.1 = a0.2.2.1)) && ((decide (r31.1.2.2.2.1 = a0.2.2.2.1)) && ((decide (r31.1.2.2.2.2 = a0.2.2.2.2)) && true)))))) && (decide (r31.2 = 0))) && (decide ((r2.1.length : Int) = 8))) = true
        · have hC := hG
          obtain ⟨rfl⟩ := t27.1 hC
          refine o_ibin (v := .int .i64 (IntKind.i64.wrap (a0.2.2.2.2 - 1))) rfl (wants_of rfl e21 hG) rfl e27 rfl rfl ?_
          exact st_addNil (hk _ _ (Sto.Le.refl _) ⟨fun _ => rfl, fun hn => absurd hC hn⟩)
        · refine st_pass rfl rfl rfl e21 (beq_off hG) rfl ?_
          exact st_addNil (hk _ _ (Sto.Le.refl _) ⟨fun h => absurd h hG, fun _ => rfl⟩)
      · intro ρ' τ pool rs hl hd hout hk
        obtain ⟨_, e21, rfl⟩ := hd 21 rfl
        obtain ⟨w25, e25, t25⟩ := hd 25 rfl
        obtain ⟨w28, e28, t28⟩ := hd 28 rfl
        by_cases hG : ((((r36 && r46) && ((decide (r31.1.1 = a0.1)) && ((decide (r31.1.2.1 = a0.2.1)) && ((decide (r31.1.2.2.1 = a0.2.2.1)) && ((decide (r31.1.2.2.2.1 = a0.2.2.2.1)) && ((decide (r31.1.2.2.2.2 = a0.2.2.2.2)) && true)))))) && (decide (r31.2 = 0))) && (decide ((r2.1.length : Int) = 8))) = true
        · have hC := hG
          obtain ⟨rfl⟩ := t28.1 hC
          obtain ⟨rfl⟩ := t25.1 hC
          refine o_ibin (v := .bool (decide (a0.2.2.2.1 = (IntKind.i64.wrap (a0.2.2.2.2 - 1))))) rfl (wants_of rfl e21 hG) rfl e25 e28 rfl ?_
          exact st_addNil (hk _ _ (Sto.Le.refl _) ⟨fun _ => rfl, fun hn => absurd hC hn⟩)
        · refine st_pass rfl rfl rfl e21 (beq_off hG) rfl ?_
          exact st_addNil (hk _ _ (Sto.Le.refl _) ⟨fun h => absurd h hG, fun _ => rfl⟩)
      · intro ρ' τ pool rs hl hd hout hk
        obtain ⟨_, e21, rfl⟩ := hd 21 rfl
        obtain ⟨w23, e23, t23⟩ := hd 23 rfl
        obtain ⟨w29, e29, t29⟩ := hd 29 rfl
        by_cases hG : ((((r36 && r46) && ((decide (r31.1.1 = a0.1)) && ((decide (r31.1.2.1 = a0.2.1)) && ((decide (r31.1.2.2.1 = a0.2.2.1)) && ((decide (r31.1.2.2.2.1 = a0.2.2.2.1)) && ((decide (r31.1.2.2.2.2 = a0.2.2.2.2)) && true)))))) && (decide (r31.2 = 0))) && (decide ((r2.1.length : Int) = 8))) = true
        · have hC := hG
          obtain ⟨rfl⟩ := t29.1 hC
          obtain ⟨rfl⟩ := t23.1 hC
          refine o_beq (e := (decide (r50 = (decide (a0.2.2.2.1 = (IntKind.i64.wrap (a0.2.2.2.2 - 1))))))) rfl (wants_of rfl e21 hG) rfl Tryd.underlying4 e23 e29 rfl ?_
          exact st_addNil (hk _ _ (Sto.Le.refl _) ⟨fun _ => rfl, fun hn => absurd hC hn⟩)
        · refine st_pass rfl rfl rfl e21 (beq_off hG) rfl ?_
          exact st_addNil (hk _ _ (Sto.Le.refl _) ⟨fun h => absurd h hG, fun _ => rfl⟩)
      · intro ρ' τ pool rs hl hd hout hk
        obtain ⟨_, e21, rfl⟩ := hd 21 rfl
        obtain ⟨w30, e30, t30⟩ := hd 30 rfl
        refine o_pickAnd rfl rfl rfl e21 (fun hp => e30.trans (congrArg some (Eq.symm (t30.1 hp)))) rfl ?_
        exact st_addNil (hk _ _ (Sto.Le.refl _) rfl)
      intro ρ' τ54 vals hl54 hv hout
      have l31 : Eng.look ρ' 75 = some (.bool (((((r36 && r46) && ((decide (r31.1.1 = a0.1)) && ((decide (r31.1.2.1 = a0.2.1)) && ((decide (r31.1.2.2.1 = a0.2.2.1)) && ((decide (r31.1.2.2.2.1 = a0.2.2.2.1)) && ((decide (r31.1.2.2.2.2 = a0.2.2.2.2)) && true)))))) && (decide (r31.2 = 0))) && (decide ((r2.1.length : Int) = 8))) && (decide (r50 = (decide (a0.2.2.2.1 = (IntKind.i64.wrap (a0.2.2.2.2 - 1)))))))) := (hv 31 (by decide)).1.trans (congrArg some (show vals 31 = .bool (((((r36 && r46) && ((decide (r31.1.1 = a0.1)) && ((decide (r31.1.2.1 = a0.2.1)) && ((decide (r31.1.2.2.1 = a0.2.2.1)) && ((decide (r31.1.2.2.2.1 = a0.2.2.2.1)) && ((decide (r31.1.2.2.2.2 = a0.2.2.2.2)) && true)))))) && (decide (r31.2 = 0))) && (decide ((r2.1.length : Int) = 8))) && (decide (r50 = (decide (a0.2.2.2.1 = (IntKind.i64.wrap (a0.2.2.2.2 - 1))))))) from Eq.symm (hv 31 (by decide)).2))
      refine st_ord [0, 0] [[(b35, .cells [.int .i64 r31.1.1, .int .i64 r31.1.2.1, .int .u32 r31.1.2.2.1, .int .i64 r31.1.2.2.2.1, .int .i64 r31.1.2.2.2.2].toArray 24 (0, 0))], [(b1, .cells [.int .i64 a0.1, .int .i64 a0.2.1, .int .u32 a0.2.2.1, .int .i64 a0.2.2.2.1, .int .i64 a0.2.2.2.2].toArray 24 (0, 0))]] rfl ?_
      refine st_env (ρ' := [(75, .bool (((((r36 && r46) && ((decide (r31.1.1 = a0.1)) && ((decide (r31.1.2.1 = a0.2.1)) && ((decide (r31.1.2.2.1 = a0.2.2.1)) && ((decide (r31.1.2.2.2.1 = a0.2.2.2.1)) && ((decide (r31.1.2.2.2.2 = a0.2.2.2.2)) && true)))))) && (decide (r31.2 = 0))) && (decide ((r2.1.length : Int) = 8))) && (decide (r50 = (decide (a0.2.2.2.1 = (IntKind.i64.wrap (a0.2.2.2.2 - 1)))))))), (2, .bool false)]) ⟨l31, (hout 2 rfl).trans rfl, trivial⟩ ?_
      refine o_assign rfl rfl rfl rfl ?_
      refine st_end ?_
      refine st_ord [] [] rfl ?_
      obtain rfl := Eq.symm h
      exact st_ret (gs' := []) Tryd.func6 rfl (List.Sublist.refl _) ((((hl5.trans hl12).trans hl25).trans hl34).trans hl54) ⟨rfl, rfl⟩
end Go.Rel
