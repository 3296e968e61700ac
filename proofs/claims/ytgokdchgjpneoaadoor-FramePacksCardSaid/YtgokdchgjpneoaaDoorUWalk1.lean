import Derived.Test.YtgokdchgjpneoaaDoorURel
import Derived.Test.YtgokdchgjpneoaaDoorUFacts
import Derived.Test.YtgokdchgjpneoaaDoorUWalk0
/-! The walks. -/
set_option linter.unusedVariables false
set_option linter.unusedSimpArgs false
set_option maxRecDepth 4000
set_option maxHeartbeats 4000000
namespace Go.Rel
open Go Go.Eng Go.Proofs
theorem head_wrong_1_ok {c0 : Int × Int × Int × Int × Int} {bc0 : Nat} {σ0 : Sto} (hc0_0 : Cel σ0 ⟨bc0, 0, none⟩ (.int .i64 c0.1)) (hc0_1 : Cel σ0 ⟨bc0, 1, none⟩ (.int .i64 c0.2.1)) (hc0_2 : Cel σ0 ⟨bc0, 2, none⟩ (.int .u32 c0.2.2.1)) (hc0_3 : Cel σ0 ⟨bc0, 3, none⟩ (.int .i64 c0.2.2.2.1)) (hc0_4 : Cel σ0 ⟨bc0, 4, none⟩ (.int .i64 c0.2.2.2.2)) :
    IterV Tryd.prog (fun _ x vx => vx = [.int .i64 x.1, .bool x.2]) (.func (.func 161) #[] [.pointer (some ⟨bc0, 0, none⟩)].toArray) σ0 [] (fun (_ : Unit) _ f => f = []) (head_wrong_1 c0) := by
  intro S Y I y hyc hyo hIm hY s s' o hR σ g hle hIg
  obtain ⟨r, hr0⟩ : ∃ r, r = (s', o) := ⟨_, rfl⟩
  rw [← hr0] at hR
  have h := hR
  refine callV_of (caps := [.pointer (some ⟨bc0, 0, none⟩)]) z_en161 ?_
  refine call_of Tryd.func161 Tryd.ntmps161 rfl rfl (fun cs fs => ?_)
  refine st_ord [0] [g] rfl ?_
  refine st_region ?_
  refine o_move rfl rfl rfl rfl ?_
  refine o_fieldAddr rfl rfl rfl z_field85_0 rfl ?_
  refine o_loadI (v := .int .i64 c0.1) rfl rfl rfl z_sc3 rfl (Cel.up hc0_0 hle) ?_
  refine o_ibin (v := .bool (decide (c0.1 < 1))) rfl rfl rfl rfl rfl rfl ?_
  refine o_moveB rfl rfl rfl rfl (fun hc => ?_) (fun hc => ?_)
  · replace h := (if_pos hc).mp h
    refine st_pass rfl rfl rfl rfl rfl rfl ?_
    refine st_pass rfl rfl rfl rfl rfl rfl ?_
    refine st_pass rfl rfl rfl rfl rfl rfl ?_
    refine o_pick rfl rfl rfl rfl rfl ?_
    obtain ⟨y1, u2, hy3, h⟩ := h
    refine st_call (foot := [g]) rfl rfl rfl rfl rfl rfl (hY (10, true) s _ _ _ _ _ (hle.trans (Sto.Le.refl _)) hy3 rfl hIg) ?_
    rintro vτ4 τ4 gsτ4 hl5 ⟨rfl, g6, rfl, hI7⟩
    refine o_moveB rfl rfl rfl rfl (fun hc => ?_) (fun hc => ?_)
    · replace h := (if_pos hc).mp h
      refine o_move rfl rfl rfl rfl ?_
      refine o_fieldAddr rfl rfl rfl z_field85_1 rfl ?_
      refine o_loadI (v := .int .i64 c0.2.1) rfl rfl rfl z_sc3 rfl (Cel.up hc0_1 (hle.trans hl5)) ?_
      refine o_ibin (v := .bool (decide (c0.2.1 < 1))) rfl rfl rfl rfl rfl rfl ?_
      refine o_moveB rfl rfl rfl rfl (fun hc => ?_) (fun hc => ?_)
      · replace h := (if_pos hc).mp h
        refine st_pass rfl rfl rfl rfl rfl rfl ?_
        refine st_pass rfl rfl rfl rfl rfl rfl ?_
        refine st_pass rfl rfl rfl rfl rfl rfl ?_
        refine o_pick rfl rfl rfl rfl rfl ?_
        obtain ⟨y8, u9, hy10, h⟩ := h
        refine st_call (foot := [g6]) rfl rfl rfl rfl rfl rfl (hY (9, true) u2 _ _ _ _ _ (hle.trans hl5) hy10 rfl hI7) ?_
        rintro vτ11 τ11 gsτ11 hl12 ⟨rfl, g13, rfl, hI14⟩
        refine o_pick rfl rfl rfl rfl rfl ?_
        refine o_moveB rfl rfl rfl rfl (fun hc => ?_) (fun hc => ?_)
        · replace h := (if_pos hc).mp h
          refine o_move rfl rfl rfl rfl ?_
          refine o_fieldAddr rfl rfl rfl z_field85_4 rfl ?_
          refine o_loadI (v := .int .i64 c0.2.2.2.2) rfl rfl rfl z_sc3 rfl (Cel.up hc0_4 ((hle.trans hl5).trans hl12)) ?_
          refine o_ibin (v := .bool (decide (c0.2.2.2.2 < 1))) rfl rfl rfl rfl rfl rfl ?_
          refine o_moveB rfl rfl rfl rfl (fun hc => ?_) (fun hc => ?_)
          · replace h := (if_pos hc).mp h
            refine st_pass rfl rfl rfl rfl rfl rfl ?_
            refine st_pass rfl rfl rfl rfl rfl rfl ?_
            refine st_pass rfl rfl rfl rfl rfl rfl ?_
            refine o_pick rfl rfl rfl rfl rfl ?_
            refine o_move rfl rfl rfl rfl ?_
            refine st_pass rfl rfl rfl rfl rfl rfl ?_
            refine st_pass rfl rfl rfl rfl rfl rfl ?_
            refine st_pass rfl rfl rfl rfl rfl rfl ?_
            refine o_pick rfl rfl rfl rfl rfl ?_
            refine o_move rfl rfl rfl rfl ?_
            refine st_pass rfl rfl rfl rfl rfl rfl ?_
            refine st_pass rfl rfl rfl rfl rfl rfl ?_
            refine st_pass rfl rfl rfl rfl rfl rfl ?_
            refine st_pass rfl rfl rfl rfl rfl rfl ?_
            refine st_pass rfl rfl rfl rfl rfl rfl ?_
            refine o_pick rfl rfl rfl rfl rfl ?_
            obtain ⟨y15, u16, hy17, h⟩ := h
            refine st_call (foot := [g13]) rfl rfl rfl rfl rfl rfl (hY (3, true) u9 _ _ _ _ _ (hle.trans (hl5.trans hl12)) hy17 rfl hI14) ?_
            rintro vτ18 τ18 gsτ18 hl19 ⟨rfl, g20, rfl, hI21⟩
            refine o_pick rfl rfl rfl rfl rfl ?_
            refine st_end ?_
            obtain rfl := Eq.symm h
            cases hr0
            exact st_fin (gs' := [g20, []]) Tryd.func161 rfl (by simp) ((hl5.trans hl12).trans hl19) ⟨g20, _, rfl, hI21, rfl⟩
          · replace h := (if_neg (ne_t hc)).mp h
            refine o_fieldAddr rfl rfl rfl z_field85_4 rfl ?_
            refine o_loadI (v := .int .i64 c0.2.2.2.2) rfl rfl rfl z_sc3 rfl (Cel.up hc0_4 ((hle.trans hl5).trans hl12)) ?_
            refine o_ibin (v := .bool (decide (255 < c0.2.2.2.2))) rfl rfl rfl rfl rfl rfl ?_
            refine o_pick rfl rfl rfl rfl rfl ?_
            refine o_moveB rfl rfl rfl rfl (fun hc => ?_) (fun hc => ?_)
            · replace h := (if_pos hc).mp h
              refine st_pass rfl rfl rfl rfl rfl rfl ?_
              refine st_pass rfl rfl rfl rfl rfl rfl ?_
              refine st_pass rfl rfl rfl rfl rfl rfl ?_
              refine o_pick rfl rfl rfl rfl rfl ?_
              refine o_move rfl rfl rfl rfl ?_
              refine st_pass rfl rfl rfl rfl rfl rfl ?_
              refine st_pass rfl rfl rfl rfl rfl rfl ?_
              refine st_pass rfl rfl rfl rfl rfl rfl ?_
              refine st_pass rfl rfl rfl rfl rfl rfl ?_
              refine st_pass rfl rfl rfl rfl rfl rfl ?_
              refine o_pick rfl rfl rfl rfl rfl ?_
              obtain ⟨y22, u23, hy24, h⟩ := h
              refine st_call (foot := [g13]) rfl rfl rfl rfl rfl rfl (hY (3, true) u9 _ _ _ _ _ (hle.trans (hl5.trans hl12)) hy24 rfl hI14) ?_
              rintro vτ25 τ25 gsτ25 hl26 ⟨rfl, g27, rfl, hI28⟩
              refine o_pick rfl rfl rfl rfl rfl ?_
              refine st_end ?_
              obtain rfl := Eq.symm h
              cases hr0
              exact st_fin (gs' := [g27, []]) Tryd.func161 rfl (by simp) ((hl5.trans hl12).trans hl26) ⟨g27, _, rfl, hI28, rfl⟩
            · replace h := (if_neg (ne_t hc)).mp h
              refine o_fieldAddr rfl rfl rfl z_field85_3 rfl ?_
              refine o_loadI (v := .int .i64 c0.2.2.2.1) rfl rfl rfl z_sc3 rfl (Cel.up hc0_3 ((hle.trans hl5).trans hl12)) ?_
              refine o_ibin (v := .bool (decide (c0.2.2.2.1 < 0))) rfl rfl rfl rfl rfl rfl ?_
              refine o_pick rfl rfl rfl rfl rfl ?_
              refine o_moveB rfl rfl rfl rfl (fun hc => ?_) (fun hc => ?_)
              · replace h := (if_pos hc).mp h
                refine st_pass rfl rfl rfl rfl rfl rfl ?_
                refine st_pass rfl rfl rfl rfl rfl rfl ?_
                refine st_pass rfl rfl rfl rfl rfl rfl ?_
                refine st_pass rfl rfl rfl rfl rfl rfl ?_
                refine st_pass rfl rfl rfl rfl rfl rfl ?_
                refine o_pick rfl rfl rfl rfl rfl ?_
                obtain ⟨y29, u30, hy31, h⟩ := h
                refine st_call (foot := [g13]) rfl rfl rfl rfl rfl rfl (hY (3, true) u9 _ _ _ _ _ (hle.trans (hl5.trans hl12)) hy31 rfl hI14) ?_
                rintro vτ32 τ32 gsτ32 hl33 ⟨rfl, g34, rfl, hI35⟩
                refine o_pick rfl rfl rfl rfl rfl ?_
                refine st_end ?_
                obtain rfl := Eq.symm h
                cases hr0
                exact st_fin (gs' := [g34, []]) Tryd.func161 rfl (by simp) ((hl5.trans hl12).trans hl33) ⟨g34, _, rfl, hI35, rfl⟩
              · replace h := (if_neg (ne_t hc)).mp h
                refine o_fieldAddr rfl rfl rfl z_field85_3 rfl ?_
                refine o_loadI (v := .int .i64 c0.2.2.2.1) rfl rfl rfl z_sc3 rfl (Cel.up hc0_3 ((hle.trans hl5).trans hl12)) ?_
                refine o_fieldAddr rfl rfl rfl z_field85_4 rfl ?_
                refine o_loadI (v := .int .i64 c0.2.2.2.2) rfl rfl rfl z_sc3 rfl (Cel.up hc0_4 ((hle.trans hl5).trans hl12)) ?_
                refine o_ibin (v := .bool (decide (c0.2.2.2.2 ≤ c0.2.2.2.1))) rfl rfl rfl rfl rfl rfl ?_
                refine o_pick rfl rfl rfl rfl rfl ?_
                obtain ⟨y36, u37, hy38, h⟩ := h
                refine st_call (foot := [g13]) rfl rfl rfl rfl rfl rfl (hY (3, (decide (c0.2.2.2.2 ≤ c0.2.2.2.1))) u9 _ _ _ _ _ (hle.trans (hl5.trans hl12)) hy38 rfl hI14) ?_
                rintro vτ39 τ39 gsτ39 hl40 ⟨rfl, g41, rfl, hI42⟩
                refine o_pick rfl rfl rfl rfl rfl ?_
                refine st_end ?_
                obtain rfl := Eq.symm h
                cases hr0
                exact st_fin (gs' := [g41, []]) Tryd.func161 rfl (by simp) ((hl5.trans hl12).trans hl40) ⟨g41, _, rfl, hI42, rfl⟩
        · replace h := (if_neg (ne_t hc)).mp h
          refine st_pass rfl rfl rfl rfl rfl rfl ?_
          refine st_pass rfl rfl rfl rfl rfl rfl ?_
          refine st_pass rfl rfl rfl rfl rfl rfl ?_
          refine st_pass rfl rfl rfl rfl rfl rfl ?_
          refine st_pass rfl rfl rfl rfl rfl rfl ?_
          refine st_passU rfl rfl rfl rfl rfl ?_
          refine st_passU rfl rfl rfl rfl rfl ?_
          refine st_passU rfl rfl rfl rfl rfl ?_
          refine st_pass rfl rfl rfl rfl rfl rfl ?_
          refine st_pass rfl rfl rfl rfl rfl rfl ?_
          refine st_passU rfl rfl rfl rfl rfl ?_
          refine st_passU rfl rfl rfl rfl rfl ?_
          refine st_passU rfl rfl rfl rfl rfl ?_
          refine st_pass rfl rfl rfl rfl rfl rfl ?_
          refine st_pass rfl rfl rfl rfl rfl rfl ?_
          refine st_passU rfl rfl rfl rfl rfl ?_
          refine st_passU rfl rfl rfl rfl rfl ?_
          refine st_passU rfl rfl rfl rfl rfl ?_
          refine st_passU rfl rfl rfl rfl rfl ?_
          refine st_passU rfl rfl rfl rfl rfl ?_
          refine st_pass rfl rfl rfl rfl rfl rfl ?_
          refine st_pass rfl rfl rfl rfl rfl rfl ?_
          refine o_pick rfl rfl rfl rfl rfl ?_
          refine st_end ?_
          obtain rfl := Eq.symm h
          cases hr0
          exact st_fin (gs' := [g13, []]) Tryd.func161 rfl (by simp) (hl5.trans hl12) ⟨g13, _, rfl, hI14, rfl⟩
      · replace h := (if_neg (ne_t hc)).mp h
        refine o_fieldAddr rfl rfl rfl z_field85_1 rfl ?_
        refine o_loadI (v := .int .i64 c0.2.1) rfl rfl rfl z_sc3 rfl (Cel.up hc0_1 (hle.trans hl5)) ?_
        refine o_ibin (v := .bool (decide (5 < c0.2.1))) rfl rfl rfl rfl rfl rfl ?_
        refine o_pick rfl rfl rfl rfl rfl ?_
        obtain ⟨y43, u44, hy45, h⟩ := h
        refine st_call (foot := [g6]) rfl rfl rfl rfl rfl rfl (hY (9, (decide (5 < c0.2.1))) u2 _ _ _ _ _ (hle.trans hl5) hy45 rfl hI7) ?_
        rintro vτ46 τ46 gsτ46 hl47 ⟨rfl, g48, rfl, hI49⟩
        refine o_pick rfl rfl rfl rfl rfl ?_
        refine o_moveB rfl rfl rfl rfl (fun hc => ?_) (fun hc => ?_)
        · replace h := (if_pos hc).mp h
          refine o_move rfl rfl rfl rfl ?_
          refine o_fieldAddr rfl rfl rfl z_field85_4 rfl ?_
          refine o_loadI (v := .int .i64 c0.2.2.2.2) rfl rfl rfl z_sc3 rfl (Cel.up hc0_4 ((hle.trans hl5).trans hl47)) ?_
          refine o_ibin (v := .bool (decide (c0.2.2.2.2 < 1))) rfl rfl rfl rfl rfl rfl ?_
          refine o_moveB rfl rfl rfl rfl (fun hc => ?_) (fun hc => ?_)
          · replace h := (if_pos hc).mp h
            refine st_pass rfl rfl rfl rfl rfl rfl ?_
            refine st_pass rfl rfl rfl rfl rfl rfl ?_
            refine st_pass rfl rfl rfl rfl rfl rfl ?_
            refine o_pick rfl rfl rfl rfl rfl ?_
            refine o_move rfl rfl rfl rfl ?_
            refine st_pass rfl rfl rfl rfl rfl rfl ?_
            refine st_pass rfl rfl rfl rfl rfl rfl ?_
            refine st_pass rfl rfl rfl rfl rfl rfl ?_
            refine o_pick rfl rfl rfl rfl rfl ?_
            refine o_move rfl rfl rfl rfl ?_
            refine st_pass rfl rfl rfl rfl rfl rfl ?_
            refine st_pass rfl rfl rfl rfl rfl rfl ?_
            refine st_pass rfl rfl rfl rfl rfl rfl ?_
            refine st_pass rfl rfl rfl rfl rfl rfl ?_
            refine st_pass rfl rfl rfl rfl rfl rfl ?_
            refine o_pick rfl rfl rfl rfl rfl ?_
            obtain ⟨y50, u51, hy52, h⟩ := h
            refine st_call (foot := [g48]) rfl rfl rfl rfl rfl rfl (hY (3, true) u44 _ _ _ _ _ (hle.trans (hl5.trans hl47)) hy52 rfl hI49) ?_
            rintro vτ53 τ53 gsτ53 hl54 ⟨rfl, g55, rfl, hI56⟩
            refine o_pick rfl rfl rfl rfl rfl ?_
            refine st_end ?_
            obtain rfl := Eq.symm h
            cases hr0
            exact st_fin (gs' := [g55, []]) Tryd.func161 rfl (by simp) ((hl5.trans hl47).trans hl54) ⟨g55, _, rfl, hI56, rfl⟩
          · replace h := (if_neg (ne_t hc)).mp h
            refine o_fieldAddr rfl rfl rfl z_field85_4 rfl ?_
            refine o_loadI (v := .int .i64 c0.2.2.2.2) rfl rfl rfl z_sc3 rfl (Cel.up hc0_4 ((hle.trans hl5).trans hl47)) ?_
            refine o_ibin (v := .bool (decide (255 < c0.2.2.2.2))) rfl rfl rfl rfl rfl rfl ?_
            refine o_pick rfl rfl rfl rfl rfl ?_
            refine o_moveB rfl rfl rfl rfl (fun hc => ?_) (fun hc => ?_)
            · replace h := (if_pos hc).mp h
              refine st_pass rfl rfl rfl rfl rfl rfl ?_
              refine st_pass rfl rfl rfl rfl rfl rfl ?_
              refine st_pass rfl rfl rfl rfl rfl rfl ?_
              refine o_pick rfl rfl rfl rfl rfl ?_
              refine o_move rfl rfl rfl rfl ?_
              refine st_pass rfl rfl rfl rfl rfl rfl ?_
              refine st_pass rfl rfl rfl rfl rfl rfl ?_
              refine st_pass rfl rfl rfl rfl rfl rfl ?_
              refine st_pass rfl rfl rfl rfl rfl rfl ?_
              refine st_pass rfl rfl rfl rfl rfl rfl ?_
              refine o_pick rfl rfl rfl rfl rfl ?_
              obtain ⟨y57, u58, hy59, h⟩ := h
              refine st_call (foot := [g48]) rfl rfl rfl rfl rfl rfl (hY (3, true) u44 _ _ _ _ _ (hle.trans (hl5.trans hl47)) hy59 rfl hI49) ?_
              rintro vτ60 τ60 gsτ60 hl61 ⟨rfl, g62, rfl, hI63⟩
              refine o_pick rfl rfl rfl rfl rfl ?_
              refine st_end ?_
              obtain rfl := Eq.symm h
              cases hr0
              exact st_fin (gs' := [g62, []]) Tryd.func161 rfl (by simp) ((hl5.trans hl47).trans hl61) ⟨g62, _, rfl, hI63, rfl⟩
            · replace h := (if_neg (ne_t hc)).mp h
              refine o_fieldAddr rfl rfl rfl z_field85_3 rfl ?_
              refine o_loadI (v := .int .i64 c0.2.2.2.1) rfl rfl rfl z_sc3 rfl (Cel.up hc0_3 ((hle.trans hl5).trans hl47)) ?_
              refine o_ibin (v := .bool (decide (c0.2.2.2.1 < 0))) rfl rfl rfl rfl rfl rfl ?_
              refine o_pick rfl rfl rfl rfl rfl ?_
              refine o_moveB rfl rfl rfl rfl (fun hc => ?_) (fun hc => ?_)
              · replace h := (if_pos hc).mp h
                refine st_pass rfl rfl rfl rfl rfl rfl ?_
                refine st_pass rfl rfl rfl rfl rfl rfl ?_
                refine st_pass rfl rfl rfl rfl rfl rfl ?_
                refine st_pass rfl rfl rfl rfl rfl rfl ?_
                refine st_pass rfl rfl rfl rfl rfl rfl ?_
                refine o_pick rfl rfl rfl rfl rfl ?_
                obtain ⟨y64, u65, hy66, h⟩ := h
                refine st_call (foot := [g48]) rfl rfl rfl rfl rfl rfl (hY (3, true) u44 _ _ _ _ _ (hle.trans (hl5.trans hl47)) hy66 rfl hI49) ?_
                rintro vτ67 τ67 gsτ67 hl68 ⟨rfl, g69, rfl, hI70⟩
                refine o_pick rfl rfl rfl rfl rfl ?_
                refine st_end ?_
                obtain rfl := Eq.symm h
                cases hr0
                exact st_fin (gs' := [g69, []]) Tryd.func161 rfl (by simp) ((hl5.trans hl47).trans hl68) ⟨g69, _, rfl, hI70, rfl⟩
              · replace h := (if_neg (ne_t hc)).mp h
                refine o_fieldAddr rfl rfl rfl z_field85_3 rfl ?_
                refine o_loadI (v := .int .i64 c0.2.2.2.1) rfl rfl rfl z_sc3 rfl (Cel.up hc0_3 ((hle.trans hl5).trans hl47)) ?_
                refine o_fieldAddr rfl rfl rfl z_field85_4 rfl ?_
                refine o_loadI (v := .int .i64 c0.2.2.2.2) rfl rfl rfl z_sc3 rfl (Cel.up hc0_4 ((hle.trans hl5).trans hl47)) ?_
                refine o_ibin (v := .bool (decide (c0.2.2.2.2 ≤ c0.2.2.2.1))) rfl rfl rfl rfl rfl rfl ?_
                refine o_pick rfl rfl rfl rfl rfl ?_
                obtain ⟨y71, u72, hy73, h⟩ := h
                refine st_call (foot := [g48]) rfl rfl rfl rfl rfl rfl (hY (3, (decide (c0.2.2.2.2 ≤ c0.2.2.2.1))) u44 _ _ _ _ _ (hle.trans (hl5.trans hl47)) hy73 rfl hI49) ?_
                rintro vτ74 τ74 gsτ74 hl75 ⟨rfl, g76, rfl, hI77⟩
                refine o_pick rfl rfl rfl rfl rfl ?_
                refine st_end ?_
                obtain rfl := Eq.symm h
                cases hr0
                exact st_fin (gs' := [g76, []]) Tryd.func161 rfl (by simp) ((hl5.trans hl47).trans hl75) ⟨g76, _, rfl, hI77, rfl⟩
        · replace h := (if_neg (ne_t hc)).mp h
          refine st_pass rfl rfl rfl rfl rfl rfl ?_
          refine st_pass rfl rfl rfl rfl rfl rfl ?_
          refine st_pass rfl rfl rfl rfl rfl rfl ?_
          refine st_pass rfl rfl rfl rfl rfl rfl ?_
          refine st_pass rfl rfl rfl rfl rfl rfl ?_
          refine st_passU rfl rfl rfl rfl rfl ?_
          refine st_passU rfl rfl rfl rfl rfl ?_
          refine st_passU rfl rfl rfl rfl rfl ?_
          refine st_pass rfl rfl rfl rfl rfl rfl ?_
          refine st_pass rfl rfl rfl rfl rfl rfl ?_
          refine st_passU rfl rfl rfl rfl rfl ?_
          refine st_passU rfl rfl rfl rfl rfl ?_
          refine st_passU rfl rfl rfl rfl rfl ?_
          refine st_pass rfl rfl rfl rfl rfl rfl ?_
          refine st_pass rfl rfl rfl rfl rfl rfl ?_
          refine st_passU rfl rfl rfl rfl rfl ?_
          refine st_passU rfl rfl rfl rfl rfl ?_
          refine st_passU rfl rfl rfl rfl rfl ?_
          refine st_passU rfl rfl rfl rfl rfl ?_
          refine st_passU rfl rfl rfl rfl rfl ?_
          refine st_pass rfl rfl rfl rfl rfl rfl ?_
          refine st_pass rfl rfl rfl rfl rfl rfl ?_
          refine o_pick rfl rfl rfl rfl rfl ?_
          refine st_end ?_
          obtain rfl := Eq.symm h
          cases hr0
          exact st_fin (gs' := [g48, []]) Tryd.func161 rfl (by simp) (hl5.trans hl47) ⟨g48, _, rfl, hI49, rfl⟩
    · replace h := (if_neg (ne_t hc)).mp h
      refine st_pass rfl rfl rfl rfl rfl rfl ?_
      refine st_pass rfl rfl rfl rfl rfl rfl ?_
      refine st_pass rfl rfl rfl rfl rfl rfl ?_
      refine st_pass rfl rfl rfl rfl rfl rfl ?_
      refine st_pass rfl rfl rfl rfl rfl rfl ?_
      refine st_passU rfl rfl rfl rfl rfl ?_
      refine st_passU rfl rfl rfl rfl rfl ?_
      refine st_passU rfl rfl rfl rfl rfl ?_
      refine st_pass rfl rfl rfl rfl rfl rfl ?_
      refine st_pass rfl rfl rfl rfl rfl rfl ?_
      refine o_pick rfl rfl rfl rfl rfl ?_
      refine o_move rfl rfl rfl rfl ?_
      refine st_pass rfl rfl rfl rfl rfl rfl ?_
      refine st_pass rfl rfl rfl rfl rfl rfl ?_
      refine st_pass rfl rfl rfl rfl rfl rfl ?_
      refine st_pass rfl rfl rfl rfl rfl rfl ?_
      refine st_pass rfl rfl rfl rfl rfl rfl ?_
      refine st_passU rfl rfl rfl rfl rfl ?_
      refine st_passU rfl rfl rfl rfl rfl ?_
      refine st_passU rfl rfl rfl rfl rfl ?_
      refine st_pass rfl rfl rfl rfl rfl rfl ?_
      refine st_pass rfl rfl rfl rfl rfl rfl ?_
      refine st_passU rfl rfl rfl rfl rfl ?_
      refine st_passU rfl rfl rfl rfl rfl ?_
      refine st_passU rfl rfl rfl rfl rfl ?_
      refine st_pass rfl rfl rfl rfl rfl rfl ?_
      refine st_pass rfl rfl rfl rfl rfl rfl ?_
      refine st_passU rfl rfl rfl rfl rfl ?_
      refine st_passU rfl rfl rfl rfl rfl ?_
      refine st_passU rfl rfl rfl rfl rfl ?_
      refine st_passU rfl rfl rfl rfl rfl ?_
      refine st_passU rfl rfl rfl rfl rfl ?_
      refine st_pass rfl rfl rfl rfl rfl rfl ?_
      refine st_pass rfl rfl rfl rfl rfl rfl ?_
      refine o_pick rfl rfl rfl rfl rfl ?_
      refine st_end ?_
      obtain rfl := Eq.symm h
      cases hr0
      exact st_fin (gs' := [g6, []]) Tryd.func161 rfl (by simp) hl5 ⟨g6, _, rfl, hI7, rfl⟩
  · replace h := (if_neg (ne_t hc)).mp h
    refine o_fieldAddr rfl rfl rfl z_field85_0 rfl ?_
    refine o_loadI (v := .int .i64 c0.1) rfl rfl rfl z_sc3 rfl (Cel.up hc0_0 hle) ?_
    refine o_ibin (v := .bool (decide (2 < c0.1))) rfl rfl rfl rfl rfl rfl ?_
    refine o_pick rfl rfl rfl rfl rfl ?_
    obtain ⟨y78, u79, hy80, h⟩ := h
    refine st_call (foot := [g]) rfl rfl rfl rfl rfl rfl (hY (10, (decide (2 < c0.1))) s _ _ _ _ _ (hle.trans (Sto.Le.refl _)) hy80 rfl hIg) ?_
    rintro vτ81 τ81 gsτ81 hl82 ⟨rfl, g83, rfl, hI84⟩
    refine o_moveB rfl rfl rfl rfl (fun hc => ?_) (fun hc => ?_)
    · replace h := (if_pos hc).mp h
      refine o_move rfl rfl rfl rfl ?_
      refine o_fieldAddr rfl rfl rfl z_field85_1 rfl ?_
      refine o_loadI (v := .int .i64 c0.2.1) rfl rfl rfl z_sc3 rfl (Cel.up hc0_1 (hle.trans hl82)) ?_
      refine o_ibin (v := .bool (decide (c0.2.1 < 1))) rfl rfl rfl rfl rfl rfl ?_
      refine o_moveB rfl rfl rfl rfl (fun hc => ?_) (fun hc => ?_)
      · replace h := (if_pos hc).mp h
        refine st_pass rfl rfl rfl rfl rfl rfl ?_
        refine st_pass rfl rfl rfl rfl rfl rfl ?_
        refine st_pass rfl rfl rfl rfl rfl rfl ?_
        refine o_pick rfl rfl rfl rfl rfl ?_
        obtain ⟨y85, u86, hy87, h⟩ := h
        refine st_call (foot := [g83]) rfl rfl rfl rfl rfl rfl (hY (9, true) u79 _ _ _ _ _ (hle.trans hl82) hy87 rfl hI84) ?_
        rintro vτ88 τ88 gsτ88 hl89 ⟨rfl, g90, rfl, hI91⟩
        refine o_pick rfl rfl rfl rfl rfl ?_
        refine o_moveB rfl rfl rfl rfl (fun hc => ?_) (fun hc => ?_)
        · replace h := (if_pos hc).mp h
          refine o_move rfl rfl rfl rfl ?_
          refine o_fieldAddr rfl rfl rfl z_field85_4 rfl ?_
          refine o_loadI (v := .int .i64 c0.2.2.2.2) rfl rfl rfl z_sc3 rfl (Cel.up hc0_4 ((hle.trans hl82).trans hl89)) ?_
          refine o_ibin (v := .bool (decide (c0.2.2.2.2 < 1))) rfl rfl rfl rfl rfl rfl ?_
          refine o_moveB rfl rfl rfl rfl (fun hc => ?_) (fun hc => ?_)
          · replace h := (if_pos hc).mp h
            refine st_pass rfl rfl rfl rfl rfl rfl ?_
            refine st_pass rfl rfl rfl rfl rfl rfl ?_
            refine st_pass rfl rfl rfl rfl rfl rfl ?_
            refine o_pick rfl rfl rfl rfl rfl ?_
            refine o_move rfl rfl rfl rfl ?_
            refine st_pass rfl rfl rfl rfl rfl rfl ?_
            refine st_pass rfl rfl rfl rfl rfl rfl ?_
            refine st_pass rfl rfl rfl rfl rfl rfl ?_
            refine o_pick rfl rfl rfl rfl rfl ?_
            refine o_move rfl rfl rfl rfl ?_
            refine st_pass rfl rfl rfl rfl rfl rfl ?_
            refine st_pass rfl rfl rfl rfl rfl rfl ?_
            refine st_pass rfl rfl rfl rfl rfl rfl ?_
            refine st_pass rfl rfl rfl rfl rfl rfl ?_
            refine st_pass rfl rfl rfl rfl rfl rfl ?_
            refine o_pick rfl rfl rfl rfl rfl ?_
            obtain ⟨y92, u93, hy94, h⟩ := h
            refine st_call (foot := [g90]) rfl rfl rfl rfl rfl rfl (hY (3, true) u86 _ _ _ _ _ (hle.trans (hl82.trans hl89)) hy94 rfl hI91) ?_
            rintro vτ95 τ95 gsτ95 hl96 ⟨rfl, g97, rfl, hI98⟩
            refine o_pick rfl rfl rfl rfl rfl ?_
            refine st_end ?_
            obtain rfl := Eq.symm h
            cases hr0
            exact st_fin (gs' := [g97, []]) Tryd.func161 rfl (by simp) ((hl82.trans hl89).trans hl96) ⟨g97, _, rfl, hI98, rfl⟩
          · replace h := (if_neg (ne_t hc)).mp h
            refine o_fieldAddr rfl rfl rfl z_field85_4 rfl ?_
            refine o_loadI (v := .int .i64 c0.2.2.2.2) rfl rfl rfl z_sc3 rfl (Cel.up hc0_4 ((hle.trans hl82).trans hl89)) ?_
            refine o_ibin (v := .bool (decide (255 < c0.2.2.2.2))) rfl rfl rfl rfl rfl rfl ?_
            refine o_pick rfl rfl rfl rfl rfl ?_
            refine o_moveB rfl rfl rfl rfl (fun hc => ?_) (fun hc => ?_)
            · replace h := (if_pos hc).mp h
              refine st_pass rfl rfl rfl rfl rfl rfl ?_
              refine st_pass rfl rfl rfl rfl rfl rfl ?_
              refine st_pass rfl rfl rfl rfl rfl rfl ?_
              refine o_pick rfl rfl rfl rfl rfl ?_
              refine o_move rfl rfl rfl rfl ?_
              refine st_pass rfl rfl rfl rfl rfl rfl ?_
              refine st_pass rfl rfl rfl rfl rfl rfl ?_
              refine st_pass rfl rfl rfl rfl rfl rfl ?_
              refine st_pass rfl rfl rfl rfl rfl rfl ?_
              refine st_pass rfl rfl rfl rfl rfl rfl ?_
              refine o_pick rfl rfl rfl rfl rfl ?_
              obtain ⟨y99, u100, hy101, h⟩ := h
              refine st_call (foot := [g90]) rfl rfl rfl rfl rfl rfl (hY (3, true) u86 _ _ _ _ _ (hle.trans (hl82.trans hl89)) hy101 rfl hI91) ?_
              rintro vτ102 τ102 gsτ102 hl103 ⟨rfl, g104, rfl, hI105⟩
              refine o_pick rfl rfl rfl rfl rfl ?_
              refine st_end ?_
              obtain rfl := Eq.symm h
              cases hr0
              exact st_fin (gs' := [g104, []]) Tryd.func161 rfl (by simp) ((hl82.trans hl89).trans hl103) ⟨g104, _, rfl, hI105, rfl⟩
            · replace h := (if_neg (ne_t hc)).mp h
              refine o_fieldAddr rfl rfl rfl z_field85_3 rfl ?_
              refine o_loadI (v := .int .i64 c0.2.2.2.1) rfl rfl rfl z_sc3 rfl (Cel.up hc0_3 ((hle.trans hl82).trans hl89)) ?_
              refine o_ibin (v := .bool (decide (c0.2.2.2.1 < 0))) rfl rfl rfl rfl rfl rfl ?_
              refine o_pick rfl rfl rfl rfl rfl ?_
              refine o_moveB rfl rfl rfl rfl (fun hc => ?_) (fun hc => ?_)
              · replace h := (if_pos hc).mp h
                refine st_pass rfl rfl rfl rfl rfl rfl ?_
                refine st_pass rfl rfl rfl rfl rfl rfl ?_
                refine st_pass rfl rfl rfl rfl rfl rfl ?_
                refine st_pass rfl rfl rfl rfl rfl rfl ?_
                refine st_pass rfl rfl rfl rfl rfl rfl ?_
                refine o_pick rfl rfl rfl rfl rfl ?_
                obtain ⟨y106, u107, hy108, h⟩ := h
                refine st_call (foot := [g90]) rfl rfl rfl rfl rfl rfl (hY (3, true) u86 _ _ _ _ _ (hle.trans (hl82.trans hl89)) hy108 rfl hI91) ?_
                rintro vτ109 τ109 gsτ109 hl110 ⟨rfl, g111, rfl, hI112⟩
                refine o_pick rfl rfl rfl rfl rfl ?_
                refine st_end ?_
                obtain rfl := Eq.symm h
                cases hr0
                exact st_fin (gs' := [g111, []]) Tryd.func161 rfl (by simp) ((hl82.trans hl89).trans hl110) ⟨g111, _, rfl, hI112, rfl⟩
              · replace h := (if_neg (ne_t hc)).mp h
                refine o_fieldAddr rfl rfl rfl z_field85_3 rfl ?_
                refine o_loadI (v := .int .i64 c0.2.2.2.1) rfl rfl rfl z_sc3 rfl (Cel.up hc0_3 ((hle.trans hl82).trans hl89)) ?_
                refine o_fieldAddr rfl rfl rfl z_field85_4 rfl ?_
                refine o_loadI (v := .int .i64 c0.2.2.2.2) rfl rfl rfl z_sc3 rfl (Cel.up hc0_4 ((hle.trans hl82).trans hl89)) ?_
                refine o_ibin (v := .bool (decide (c0.2.2.2.2 ≤ c0.2.2.2.1))) rfl rfl rfl rfl rfl rfl ?_
                refine o_pick rfl rfl rfl rfl rfl ?_
                obtain ⟨y113, u114, hy115, h⟩ := h
                refine st_call (foot := [g90]) rfl rfl rfl rfl rfl rfl (hY (3, (decide (c0.2.2.2.2 ≤ c0.2.2.2.1))) u86 _ _ _ _ _ (hle.trans (hl82.trans hl89)) hy115 rfl hI91) ?_
                rintro vτ116 τ116 gsτ116 hl117 ⟨rfl, g118, rfl, hI119⟩
                refine o_pick rfl rfl rfl rfl rfl ?_
                refine st_end ?_
                obtain rfl := Eq.symm h
                cases hr0
                exact st_fin (gs' := [g118, []]) Tryd.func161 rfl (by simp) ((hl82.trans hl89).trans hl117) ⟨g118, _, rfl, hI119, rfl⟩
        · replace h := (if_neg (ne_t hc)).mp h
          refine st_pass rfl rfl rfl rfl rfl rfl ?_
          refine st_pass rfl rfl rfl rfl rfl rfl ?_
          refine st_pass rfl rfl rfl rfl rfl rfl ?_
          refine st_pass rfl rfl rfl rfl rfl rfl ?_
          refine st_pass rfl rfl rfl rfl rfl rfl ?_
          refine st_passU rfl rfl rfl rfl rfl ?_
          refine st_passU rfl rfl rfl rfl rfl ?_
          refine st_passU rfl rfl rfl rfl rfl ?_
          refine st_pass rfl rfl rfl rfl rfl rfl ?_
          refine st_pass rfl rfl rfl rfl rfl rfl ?_
          refine st_passU rfl rfl rfl rfl rfl ?_
          refine st_passU rfl rfl rfl rfl rfl ?_
          refine st_passU rfl rfl rfl rfl rfl ?_
          refine st_pass rfl rfl rfl rfl rfl rfl ?_
          refine st_pass rfl rfl rfl rfl rfl rfl ?_
          refine st_passU rfl rfl rfl rfl rfl ?_
          refine st_passU rfl rfl rfl rfl rfl ?_
          refine st_passU rfl rfl rfl rfl rfl ?_
          refine st_passU rfl rfl rfl rfl rfl ?_
          refine st_passU rfl rfl rfl rfl rfl ?_
          refine st_pass rfl rfl rfl rfl rfl rfl ?_
          refine st_pass rfl rfl rfl rfl rfl rfl ?_
          refine o_pick rfl rfl rfl rfl rfl ?_
          refine st_end ?_
          obtain rfl := Eq.symm h
          cases hr0
          exact st_fin (gs' := [g90, []]) Tryd.func161 rfl (by simp) (hl82.trans hl89) ⟨g90, _, rfl, hI91, rfl⟩
      · replace h := (if_neg (ne_t hc)).mp h
        refine o_fieldAddr rfl rfl rfl z_field85_1 rfl ?_
        refine o_loadI (v := .int .i64 c0.2.1) rfl rfl rfl z_sc3 rfl (Cel.up hc0_1 (hle.trans hl82)) ?_
        refine o_ibin (v := .bool (decide (5 < c0.2.1))) rfl rfl rfl rfl rfl rfl ?_
        refine o_pick rfl rfl rfl rfl rfl ?_
        obtain ⟨y120, u121, hy122, h⟩ := h
        refine st_call (foot := [g83]) rfl rfl rfl rfl rfl rfl (hY (9, (decide (5 < c0.2.1))) u79 _ _ _ _ _ (hle.trans hl82) hy122 rfl hI84) ?_
        rintro vτ123 τ123 gsτ123 hl124 ⟨rfl, g125, rfl, hI126⟩
        refine o_pick rfl rfl rfl rfl rfl ?_
        refine o_moveB rfl rfl rfl rfl (fun hc => ?_) (fun hc => ?_)
        · replace h := (if_pos hc).mp h
          refine o_move rfl rfl rfl rfl ?_
          refine o_fieldAddr rfl rfl rfl z_field85_4 rfl ?_
          refine o_loadI (v := .int .i64 c0.2.2.2.2) rfl rfl rfl z_sc3 rfl (Cel.up hc0_4 ((hle.trans hl82).trans hl124)) ?_
          refine o_ibin (v := .bool (decide (c0.2.2.2.2 < 1))) rfl rfl rfl rfl rfl rfl ?_
          refine o_moveB rfl rfl rfl rfl (fun hc => ?_) (fun hc => ?_)
          · replace h := (if_pos hc).mp h
            refine st_pass rfl rfl rfl rfl rfl rfl ?_
            refine st_pass rfl rfl rfl rfl rfl rfl ?_
            refine st_pass rfl rfl rfl rfl rfl rfl ?_
            refine o_pick rfl rfl rfl rfl rfl ?_
            refine o_move rfl rfl rfl rfl ?_
            refine st_pass rfl rfl rfl rfl rfl rfl ?_
            refine st_pass rfl rfl rfl rfl rfl rfl ?_
            refine st_pass rfl rfl rfl rfl rfl rfl ?_
            refine o_pick rfl rfl rfl rfl rfl ?_
            refine o_move rfl rfl rfl rfl ?_
            refine st_pass rfl rfl rfl rfl rfl rfl ?_
            refine st_pass rfl rfl rfl rfl rfl rfl ?_
            refine st_pass rfl rfl rfl rfl rfl rfl ?_
            refine st_pass rfl rfl rfl rfl rfl rfl ?_
            refine st_pass rfl rfl rfl rfl rfl rfl ?_
            refine o_pick rfl rfl rfl rfl rfl ?_
            obtain ⟨y127, u128, hy129, h⟩ := h
            refine st_call (foot := [g125]) rfl rfl rfl rfl rfl rfl (hY (3, true) u121 _ _ _ _ _ (hle.trans (hl82.trans hl124)) hy129 rfl hI126) ?_
            rintro vτ130 τ130 gsτ130 hl131 ⟨rfl, g132, rfl, hI133⟩
            refine o_pick rfl rfl rfl rfl rfl ?_
            refine st_end ?_
            obtain rfl := Eq.symm h
            cases hr0
            exact st_fin (gs' := [g132, []]) Tryd.func161 rfl (by simp) ((hl82.trans hl124).trans hl131) ⟨g132, _, rfl, hI133, rfl⟩
          · replace h := (if_neg (ne_t hc)).mp h
            refine o_fieldAddr rfl rfl rfl z_field85_4 rfl ?_
            refine o_loadI (v := .int .i64 c0.2.2.2.2) rfl rfl rfl z_sc3 rfl (Cel.up hc0_4 ((hle.trans hl82).trans hl124)) ?_
            refine o_ibin (v := .bool (decide (255 < c0.2.2.2.2))) rfl rfl rfl rfl rfl rfl ?_
            refine o_pick rfl rfl rfl rfl rfl ?_
            refine o_moveB rfl rfl rfl rfl (fun hc => ?_) (fun hc => ?_)
            · replace h := (if_pos hc).mp h
              refine st_pass rfl rfl rfl rfl rfl rfl ?_
              refine st_pass rfl rfl rfl rfl rfl rfl ?_
              refine st_pass rfl rfl rfl rfl rfl rfl ?_
              refine o_pick rfl rfl rfl rfl rfl ?_
              refine o_move rfl rfl rfl rfl ?_
              refine st_pass rfl rfl rfl rfl rfl rfl ?_
              refine st_pass rfl rfl rfl rfl rfl rfl ?_
              refine st_pass rfl rfl rfl rfl rfl rfl ?_
              refine st_pass rfl rfl rfl rfl rfl rfl ?_
              refine st_pass rfl rfl rfl rfl rfl rfl ?_
              refine o_pick rfl rfl rfl rfl rfl ?_
              obtain ⟨y134, u135, hy136, h⟩ := h
              refine st_call (foot := [g125]) rfl rfl rfl rfl rfl rfl (hY (3, true) u121 _ _ _ _ _ (hle.trans (hl82.trans hl124)) hy136 rfl hI126) ?_
              rintro vτ137 τ137 gsτ137 hl138 ⟨rfl, g139, rfl, hI140⟩
              refine o_pick rfl rfl rfl rfl rfl ?_
              refine st_end ?_
              obtain rfl := Eq.symm h
              cases hr0
              exact st_fin (gs' := [g139, []]) Tryd.func161 rfl (by simp) ((hl82.trans hl124).trans hl138) ⟨g139, _, rfl, hI140, rfl⟩
            · replace h := (if_neg (ne_t hc)).mp h
              refine o_fieldAddr rfl rfl rfl z_field85_3 rfl ?_
              refine o_loadI (v := .int .i64 c0.2.2.2.1) rfl rfl rfl z_sc3 rfl (Cel.up hc0_3 ((hle.trans hl82).trans hl124)) ?_
              refine o_ibin (v := .bool (decide (c0.2.2.2.1 < 0))) rfl rfl rfl rfl rfl rfl ?_
              refine o_pick rfl rfl rfl rfl rfl ?_
              refine o_moveB rfl rfl rfl rfl (fun hc => ?_) (fun hc => ?_)
              · replace h := (if_pos hc).mp h
                refine st_pass rfl rfl rfl rfl rfl rfl ?_
                refine st_pass rfl rfl rfl rfl rfl rfl ?_
                refine st_pass rfl rfl rfl rfl rfl rfl ?_
                refine st_pass rfl rfl rfl rfl rfl rfl ?_
                refine st_pass rfl rfl rfl rfl rfl rfl ?_
                refine o_pick rfl rfl rfl rfl rfl ?_
                obtain ⟨y141, u142, hy143, h⟩ := h
                refine st_call (foot := [g125]) rfl rfl rfl rfl rfl rfl (hY (3, true) u121 _ _ _ _ _ (hle.trans (hl82.trans hl124)) hy143 rfl hI126) ?_
                rintro vτ144 τ144 gsτ144 hl145 ⟨rfl, g146, rfl, hI147⟩
                refine o_pick rfl rfl rfl rfl rfl ?_
                refine st_end ?_
                obtain rfl := Eq.symm h
                cases hr0
                exact st_fin (gs' := [g146, []]) Tryd.func161 rfl (by simp) ((hl82.trans hl124).trans hl145) ⟨g146, _, rfl, hI147, rfl⟩
              · replace h := (if_neg (ne_t hc)).mp h
                refine o_fieldAddr rfl rfl rfl z_field85_3 rfl ?_
                refine o_loadI (v := .int .i64 c0.2.2.2.1) rfl rfl rfl z_sc3 rfl (Cel.up hc0_3 ((hle.trans hl82).trans hl124)) ?_
                refine o_fieldAddr rfl rfl rfl z_field85_4 rfl ?_
                refine o_loadI (v := .int .i64 c0.2.2.2.2) rfl rfl rfl z_sc3 rfl (Cel.up hc0_4 ((hle.trans hl82).trans hl124)) ?_
                refine o_ibin (v := .bool (decide (c0.2.2.2.2 ≤ c0.2.2.2.1))) rfl rfl rfl rfl rfl rfl ?_
                refine o_pick rfl rfl rfl rfl rfl ?_
                obtain ⟨y148, u149, hy150, h⟩ := h
                refine st_call (foot := [g125]) rfl rfl rfl rfl rfl rfl (hY (3, (decide (c0.2.2.2.2 ≤ c0.2.2.2.1))) u121 _ _ _ _ _ (hle.trans (hl82.trans hl124)) hy150 rfl hI126) ?_
                rintro vτ151 τ151 gsτ151 hl152 ⟨rfl, g153, rfl, hI154⟩
                refine o_pick rfl rfl rfl rfl rfl ?_
                refine st_end ?_
                obtain rfl := Eq.symm h
                cases hr0
                exact st_fin (gs' := [g153, []]) Tryd.func161 rfl (by simp) ((hl82.trans hl124).trans hl152) ⟨g153, _, rfl, hI154, rfl⟩
        · replace h := (if_neg (ne_t hc)).mp h
          refine st_pass rfl rfl rfl rfl rfl rfl ?_
          refine st_pass rfl rfl rfl rfl rfl rfl ?_
          refine st_pass rfl rfl rfl rfl rfl rfl ?_
          refine st_pass rfl rfl rfl rfl rfl rfl ?_
          refine st_pass rfl rfl rfl rfl rfl rfl ?_
          refine st_passU rfl rfl rfl rfl rfl ?_
          refine st_passU rfl rfl rfl rfl rfl ?_
          refine st_passU rfl rfl rfl rfl rfl ?_
          refine st_pass rfl rfl rfl rfl rfl rfl ?_
          refine st_pass rfl rfl rfl rfl rfl rfl ?_
          refine st_passU rfl rfl rfl rfl rfl ?_
          refine st_passU rfl rfl rfl rfl rfl ?_
          refine st_passU rfl rfl rfl rfl rfl ?_
          refine st_pass rfl rfl rfl rfl rfl rfl ?_
          refine st_pass rfl rfl rfl rfl rfl rfl ?_
          refine st_passU rfl rfl rfl rfl rfl ?_
          refine st_passU rfl rfl rfl rfl rfl ?_
          refine st_passU rfl rfl rfl rfl rfl ?_
          refine st_passU rfl rfl rfl rfl rfl ?_
          refine st_passU rfl rfl rfl rfl rfl ?_
          refine st_pass rfl rfl rfl rfl rfl rfl ?_
          refine st_pass rfl rfl rfl rfl rfl rfl ?_
          refine o_pick rfl rfl rfl rfl rfl ?_
          refine st_end ?_
          obtain rfl := Eq.symm h
          cases hr0
          exact st_fin (gs' := [g125, []]) Tryd.func161 rfl (by simp) (hl82.trans hl124) ⟨g125, _, rfl, hI126, rfl⟩
    · replace h := (if_neg (ne_t hc)).mp h
      refine st_pass rfl rfl rfl rfl rfl rfl ?_
      refine st_pass rfl rfl rfl rfl rfl rfl ?_
      refine st_pass rfl rfl rfl rfl rfl rfl ?_
      refine st_pass rfl rfl rfl rfl rfl rfl ?_
      refine st_pass rfl rfl rfl rfl rfl rfl ?_
      refine st_passU rfl rfl rfl rfl rfl ?_
      refine st_passU rfl rfl rfl rfl rfl ?_
      refine st_passU rfl rfl rfl rfl rfl ?_
      refine st_pass rfl rfl rfl rfl rfl rfl ?_
      refine st_pass rfl rfl rfl rfl rfl rfl ?_
      refine o_pick rfl rfl rfl rfl rfl ?_
      refine o_move rfl rfl rfl rfl ?_
      refine st_pass rfl rfl rfl rfl rfl rfl ?_
      refine st_pass rfl rfl rfl rfl rfl rfl ?_
      refine st_pass rfl rfl rfl rfl rfl rfl ?_
      refine st_pass rfl rfl rfl rfl rfl rfl ?_
      refine st_pass rfl rfl rfl rfl rfl rfl ?_
      refine st_passU rfl rfl rfl rfl rfl ?_
      refine st_passU rfl rfl rfl rfl rfl ?_
      refine st_passU rfl rfl rfl rfl rfl ?_
      refine st_pass rfl rfl rfl rfl rfl rfl ?_
      refine st_pass rfl rfl rfl rfl rfl rfl ?_
      refine st_passU rfl rfl rfl rfl rfl ?_
      refine st_passU rfl rfl rfl rfl rfl ?_
      refine st_passU rfl rfl rfl rfl rfl ?_
      refine st_pass rfl rfl rfl rfl rfl rfl ?_
      refine st_pass rfl rfl rfl rfl rfl rfl ?_
      refine st_passU rfl rfl rfl rfl rfl ?_
      refine st_passU rfl rfl rfl rfl rfl ?_
      refine st_passU rfl rfl rfl rfl rfl ?_
      refine st_passU rfl rfl rfl rfl rfl ?_
      refine st_passU rfl rfl rfl rfl rfl ?_
      refine st_pass rfl rfl rfl rfl rfl rfl ?_
      refine st_pass rfl rfl rfl rfl rfl rfl ?_
      refine o_pick rfl rfl rfl rfl rfl ?_
      refine st_end ?_
      obtain rfl := Eq.symm h
      cases hr0
      exact st_fin (gs' := [g83, []]) Tryd.func161 rfl (by simp) hl82 ⟨g83, _, rfl, hI84, rfl⟩
theorem head_wrong_ok {a0 : Int × Int × Int × Int × Int} {r : (((S : Type) → ((Int × Bool) → S → Bool × S → Prop) → S → S × Unit → Prop))} (h : head_wrong a0 r) (σ : Sto)  :
    Does Tryd.prog 130 [.agg [.int .i64 a0.1, .int .i64 a0.2.1, .int .u32 a0.2.2.1, .int .i64 a0.2.2.2.1, .int .i64 a0.2.2.2.2].toArray] σ [] (fun v τ gs => ∃ (f5 : Nat) (q6 : Array Value), gs = [] ∧ .func (.func f5) #[] q6 = v ∧ IterV Tryd.prog (fun _ x vx => vx = [.int .i64 x.1, .bool x.2]) (.func (.func f5) #[] q6) τ [] (fun (_ : Unit) _ f => f = []) r) := by
  refine call_of Tryd.func130 Tryd.ntmps130 rfl rfl (fun cs fs => ?_)
  refine st_seq ?_
  refine st_region ?_
  refine o_box (cs := [.int .i64 a0.1, .int .i64 a0.2.1, .int .u32 a0.2.2.1, .int .i64 a0.2.2.2.1, .int .i64 a0.2.2.2.2]) rfl rfl rfl rfl rfl (fun b1 => ?_)
  refine o_assign rfl rfl rfl rfl ?_
  refine st_end ?_
  refine st_seq ?_
  refine st_region ?_
  refine st_freeze (fun τ2 hl3 hg4 => ?_)
  refine o_func rfl rfl rfl rfl rfl ?_
  refine o_assign rfl rfl rfl rfl ?_
  refine st_end ?_
  obtain rfl := Eq.symm h
  exact st_ret (gs' := []) Tryd.func130 rfl (List.Sublist.refl _) hl3 ⟨_, _, rfl, rfl, (head_wrong_1_ok (cel_of hg4 rfl) (cel_of hg4 rfl) (cel_of hg4 rfl) (cel_of hg4 rfl) (cel_of hg4 rfl))⟩
theorem head_Check_ok {a0 : Int × Int × Int × Int × Int} {r : Int} (h : head_Check a0 r) (σ : Sto)  :
    Does Tryd.prog 90 [.agg [.int .i64 a0.1, .int .i64 a0.2.1, .int .u32 a0.2.2.1, .int .i64 a0.2.2.2.1, .int .i64 a0.2.2.2.2].toArray] σ [] (fun v τ gs => gs = [] ∧ .int .i64 r = v) := by
  refine call_of Tryd.func90 Tryd.ntmps90 rfl rfl (fun cs fs => ?_)
  refine st_seq ?_
  refine st_region ?_
  refine o_box (cs := [.int .i64 a0.1, .int .i64 a0.2.1, .int .u32 a0.2.2.1, .int .i64 a0.2.2.2.1, .int .i64 a0.2.2.2.2]) rfl rfl rfl rfl rfl (fun b1 => ?_)
  refine o_assign rfl rfl rfl rfl ?_
  refine st_end ?_
  refine st_scope ?_
  refine st_seq ?_
  refine st_region ?_
  refine o_alloc rfl rfl rfl z_zero28 (fun b2 => ?_)
  refine o_store (j := 0) (vs := [.int .i64 0]) (cs' := [.int .i64 0]) rfl rfl rfl z_size28 rfl rfl rfl (ones_cons rfl ones_nil) rfl rfl rfl ?_
  refine st_gs [[(b2, .cells [.int .i64 0].toArray 28 (0, 0))], [(b1, .cells [.int .i64 a0.1, .int .i64 a0.2.1, .int .u32 a0.2.2.1, .int .i64 a0.2.2.2.1, .int .i64 a0.2.2.2.2].toArray 85 (0, 0))]] rfl ?_
  refine st_end ?_
  refine st_seq ?_
  refine st_label ?_
  refine st_seq ?_
  refine st_cut (fun ρ τ3 gs => ∃ (s3 : Int), head_Check_j1 s3 r ∧ σ.Le τ3 ∧ ρ = [(2, .int .i64 0), (3, .pointer (some ⟨b2, 0, none⟩))] ∧ gs = [[(b2, .cells [.int .i64 s3].toArray 28 (0, 0))]]) ?_ (fun hk3 => ?_)
  · rintro ρ3 τ3 gs3 ⟨s3, h, hl3, rfl, rfl⟩
    refine st_seq ?_
    refine st_region ?_
    refine o_load (j := 0) (v := .int .i64 s3) rfl rfl rfl z_sc28 rfl rfl rfl ?_
    refine o_assign rfl rfl rfl rfl ?_
    refine st_end ?_
    refine st_ord [] [] rfl ?_
    obtain rfl := Eq.symm h
    exact st_ret (gs' := []) Tryd.func90 rfl (List.Sublist.refl _) hl3 ⟨rfl, rfl⟩
  refine st_seq ?_
  refine st_region ?_
  refine o_loadN (j := 1) (vs := [.int .i64 a0.1, .int .i64 a0.2.1, .int .u32 a0.2.2.1, .int .i64 a0.2.2.2.1, .int .i64 a0.2.2.2.2]) rfl rfl rfl z_agg85 rfl rfl rfl ?_
  obtain ⟨r4, hr5, h⟩ := h
  refine st_call (foot := []) rfl rfl rfl rfl rfl rfl (callV_fn z_en130 (head_wrong_ok hr5 σ)) ?_
  rintro vτ6 τ6 gsτ6 hl7 ⟨f8, q9, rfl, rfl, hit10⟩
  refine st_end ?_
  refine st_block ?_
  obtain ⟨t11, w11, hR11, hA11⟩ := h
  refine st_env (ρ' := [(2, .int .i64 0), (3, .pointer (some ⟨b2, 0, none⟩)), (7, .func (.func f8) #[] q9)]) ⟨rfl, rfl, rfl, trivial⟩ ?_
  refine st_ord [0] [[(b2, .cells [.int .i64 0].toArray 28 (0, 0))]] rfl ?_
  refine st_addNil ?_
  refine st_range (B := head_Check_l2) (s0 := ()) ranges_fctx rfl hit10 (Sto.Le.refl _) hR11 rfl (fun _ _ _ h => by cases h; rfl) (fun (s11 : Unit) τ11 gs => τ6.Le τ11 ∧ gs = [[(b2, .cells [.int .i64 0].toArray 28 (0, 0))]]) (fun (p12 : Int) cd τ13 gs => cd = .exit 0 ∧ τ6.Le τ13 ∧ gs = [[(b2, .cells [.int .i64 p12].toArray 28 (0, 0))]]) (fun _ _ _ _ hl ⟨hb, hg⟩ => ⟨hb.trans hl, hg⟩) (fun _ _ _ _ _ hl ⟨hc, hb, hg⟩ => ⟨hc, hb.trans hl, hg⟩) ⟨Sto.Le.refl _, rfl⟩ ?_ ?_ ?_
  · rintro x11 s11 o11 τ11 gs11 vx11 hl11 h rfl ⟨hb11, rfl⟩ l11 rc11 caller11 cs11 fs11
    refine st_seq ?_
    refine st_region ?_
    refine o_assign rfl rfl rfl rfl ?_
    refine st_end ?_
    refine st_region ?_
    refine o_assign rfl rfl rfl rfl ?_
    refine st_end ?_
    refine st_begin ?_
    refine st_block ?_
    refine st_seq ?_
    refine st_region ?_
    refine o_move rfl rfl rfl rfl ?_
    refine st_end ?_
    refine st_cond rfl (fun hc => ?_) (fun hc => ?_)
    · replace h := (if_pos hc).mp h
      refine st_seq ?_
      refine st_region ?_
      refine o_move rfl rfl rfl rfl ?_
      refine o_store (j := 0) (vs := [.int .i64 x11.1]) (cs' := [.int .i64 x11.1]) rfl rfl rfl z_size28 rfl rfl rfl (ones_cons rfl ones_nil) rfl rfl rfl ?_
      refine st_gs [[(b2, .cells [.int .i64 x11.1].toArray 28 (0, 0))]] rfl ?_
      refine st_end ?_
      exact st_rexit rfl (List.Sublist.refl _) (Sto.Le.refl _) ⟨_, h, rfl, hl11, rfl⟩
    · replace h := (if_neg (ne_t hc)).mp h
      refine st_skip ?_
      refine st_inBlock ?_
      exact st_rend (List.Sublist.refl _) (Sto.Le.refl _) ⟨_, h, hl11, rfl⟩
  · rintro p15 τ16 gs11 f11 ht hl17 ⟨hb, rfl⟩ rfl
    subst ht
    replace h := hA11
    refine st_ord [1] [[(b2, .cells [.int .i64 0].toArray 28 (0, 0))]] rfl ?_
    refine st_inBlock ?_
    refine st_env (ρ' := [(2, .int .i64 0), (3, .pointer (some ⟨b2, 0, none⟩))]) ⟨rfl, rfl, trivial⟩ ?_
    exact hk3 _ _ _ ⟨0, h, (hl7.trans hl17), rfl, rfl⟩
  · rintro p12 cd11 τ13 gs11 f11 ht hl14 ⟨rfl, hb, rfl⟩ rfl
    subst ht
    replace h := hA11
    refine st_ord [1] [[(b2, .cells [.int .i64 p12].toArray 28 (0, 0))]] rfl ?_
    refine st_exit rfl ?_
    refine st_env (ρ' := [(2, .int .i64 0), (3, .pointer (some ⟨b2, 0, none⟩))]) ⟨rfl, rfl, trivial⟩ ?_
    exact hk3 _ _ _ ⟨p12, h, (hl7.trans hl14), rfl, rfl⟩
theorem head_Parse_ok {a0 : List Int} {v1 : Value} {r : (Int × Int × Int × Int × Int) × Int} (h : head_Parse a0 r) (σ : Sto) (hs2 : Sl (kI .u8) σ v1 a0) :
    Does Tryd.prog 124 [v1] σ [] (fun v τ gs => gs = [] ∧ .tuple [.agg [.int .i64 r.1.1, .int .i64 r.1.2.1, .int .u32 r.1.2.2.1, .int .i64 r.1.2.2.2.1, .int .i64 r.1.2.2.2.2].toArray, .int .i64 r.2].toArray = v) := by
  refine call_of Tryd.func124 Tryd.ntmps124 rfl rfl (fun cs fs => ?_)
  refine st_seq ?_
  refine st_region ?_
  refine o_alloc rfl rfl rfl z_zero85 (fun b3 => ?_)
  refine o_assign rfl rfl rfl rfl ?_
  refine st_end ?_
  refine st_seq ?_
  refine st_seq ?_
  refine st_region ?_
  refine o_move rfl rfl rfl rfl ?_
  refine o_lenI rfl rfl rfl z_slT67 rfl hs2 ?_
  refine o_ibin (v := .bool (decide ((a0.length : Int) < 8))) rfl rfl rfl rfl rfl rfl ?_
  refine st_end ?_
  refine st_cond rfl (fun hc => ?_) (fun hc => ?_)
  · replace h := (if_pos hc).mp h
    refine st_seq ?_
    refine st_region ?_
    refine o_build (ps := []) (cs := [.int .i64 0, .int .i64 0, .int .u32 0, .int .i64 0, .int .i64 0]) rfl rfl rfl z_struct85 trivial rfl ?_
    refine o_store (j := 0) (vs := [.int .i64 0, .int .i64 0, .int .u32 0, .int .i64 0, .int .i64 0]) (cs' := [.int .i64 0, .int .i64 0, .int .u32 0, .int .i64 0, .int .i64 0]) rfl rfl rfl z_size85 rfl rfl rfl (ones_cons rfl (ones_cons rfl (ones_cons rfl (ones_cons rfl (ones_cons rfl ones_nil))))) rfl rfl rfl ?_
    refine st_gs [[(b3, .cells [.int .i64 0, .int .i64 0, .int .u32 0, .int .i64 0, .int .i64 0].toArray 85 (0, 0))]] rfl ?_
    refine o_assign rfl rfl rfl rfl ?_
    refine st_end ?_
    obtain rfl := Eq.symm h
    exact st_retC (gs' := []) [.agg [.int .i64 0, .int .i64 0, .int .u32 0, .int .i64 0, .int .i64 0].toArray, .int .i64 13] Tryd.func124 ⟨⟨_, _, _, _, rfl, mem_flat 0 rfl, fun w hw => cellOfN (vs := [.int .i64 0, .int .i64 0, .int .u32 0, .int .i64 0, .int .i64 0]) z_agg85 rfl w hw⟩, rfl, trivial⟩ (by simp) (Sto.Le.refl _) ⟨rfl, rfl⟩
  · replace h := (if_neg (ne_t hc)).mp h
    refine st_skip ?_
    refine st_seq ?_
    refine st_region ?_
    refine o_move rfl rfl rfl rfl ?_
    obtain ⟨r4, hr5, h⟩ := h
    refine st_call (foot := []) rfl rfl rfl rfl rfl rfl (callV_fn z_en155 (lens_New_ok hr5 σ hs2)) ?_
    rintro vτ6 τ6 gsτ6 hl7 ⟨b8, v9, rfl, rfl, hs10⟩
    refine o_assign rfl rfl rfl rfl ?_
    refine st_end ?_
    refine st_seq ?_
    refine st_region ?_
    refine o_move rfl rfl rfl rfl ?_
    obtain ⟨r11, hr12, h⟩ := h
    refine st_call (foot := [[(b8, .cells [v9, .int .i64 r4.2.1, .int .i64 r4.2.2].toArray 258 (0, 0))]]) rfl rfl rfl rfl rfl rfl (callV_fn z_en156 (lens_Lens_U8_ok hr12 τ6 hs10)) ?_
    rintro vτ13 τ13 gsτ13 hl14 ⟨v15, rfl, rfl, hs16⟩
    refine o_conv rfl rfl rfl Tryd.underlying5 Tryd.underlying3 rfl ?_
    refine o_move rfl rfl rfl rfl ?_
    obtain ⟨r17, hr18, h⟩ := h
    refine st_call (foot := [[(b8, .cells [v15, .int .i64 r11.2.2.1, .int .i64 r11.2.2.2].toArray 258 (0, 0))]]) rfl rfl rfl rfl rfl rfl (callV_fn z_en156 (lens_Lens_U8_ok hr18 τ13 hs16)) ?_
    rintro vτ19 τ19 gsτ19 hl20 ⟨v21, rfl, rfl, hs22⟩
    refine o_conv rfl rfl rfl Tryd.underlying5 Tryd.underlying3 rfl ?_
    refine o_move rfl rfl rfl rfl ?_
    obtain ⟨r23, hr24, h⟩ := h
    refine st_call (foot := [[(b8, .cells [v21, .int .i64 r17.2.2.1, .int .i64 r17.2.2.2].toArray 258 (0, 0))]]) rfl rfl rfl rfl rfl rfl (callV_fn z_en157 (lens_Lens_U32_ok hr24 τ19 hs22)) ?_
    rintro vτ25 τ25 gsτ25 hl26 ⟨v27, rfl, rfl, hs28⟩
    refine o_move rfl rfl rfl rfl ?_
    obtain ⟨r29, hr30, h⟩ := h
    refine st_call (foot := [[(b8, .cells [v27, .int .i64 r23.2.2.1, .int .i64 r23.2.2.2].toArray 258 (0, 0))]]) rfl rfl rfl rfl rfl rfl (callV_fn z_en156 (lens_Lens_U8_ok hr30 τ25 hs28)) ?_
    rintro vτ31 τ31 gsτ31 hl32 ⟨v33, rfl, rfl, hs34⟩
    refine o_conv rfl rfl rfl Tryd.underlying5 Tryd.underlying3 rfl ?_
    refine o_move rfl rfl rfl rfl ?_
    obtain ⟨r35, hr36, h⟩ := h
    refine st_call (foot := [[(b8, .cells [v33, .int .i64 r29.2.2.1, .int .i64 r29.2.2.2].toArray 258 (0, 0))]]) rfl rfl rfl rfl rfl rfl (callV_fn z_en156 (lens_Lens_U8_ok hr36 τ31 hs34)) ?_
    rintro vτ37 τ37 gsτ37 hl38 ⟨v39, rfl, rfl, hs40⟩
    refine o_conv rfl rfl rfl Tryd.underlying5 Tryd.underlying3 rfl ?_
    refine o_build (ps := [(0, [.int .i64 (IntKind.i64.wrap r11.1)]), (1, [.int .i64 (IntKind.i64.wrap r17.1)]), (2, [.int .u32 r23.1]), (3, [.int .i64 (IntKind.i64.wrap r29.1)]), (4, [.int .i64 (IntKind.i64.wrap r35.1)])]) (cs := [.int .i64 (IntKind.i64.wrap r11.1), .int .i64 (IntKind.i64.wrap r17.1), .int .u32 r23.1, .int .i64 (IntKind.i64.wrap r29.1), .int .i64 (IntKind.i64.wrap r35.1)]) rfl rfl rfl z_struct85 ⟨rfl, ⟨_, rfl, rfl⟩, ⟨rfl, ⟨_, rfl, rfl⟩, ⟨rfl, ⟨_, rfl, rfl⟩, ⟨rfl, ⟨_, rfl, rfl⟩, ⟨rfl, ⟨_, rfl, rfl⟩, trivial⟩⟩⟩⟩⟩ rfl ?_
    refine o_alloc rfl rfl rfl z_zero85 (fun b41 => ?_)
    refine o_store (j := 0) (vs := [.int .i64 (IntKind.i64.wrap r11.1), .int .i64 (IntKind.i64.wrap r17.1), .int .u32 r23.1, .int .i64 (IntKind.i64.wrap r29.1), .int .i64 (IntKind.i64.wrap r35.1)]) (cs' := [.int .i64 (IntKind.i64.wrap r11.1), .int .i64 (IntKind.i64.wrap r17.1), .int .u32 r23.1, .int .i64 (IntKind.i64.wrap r29.1), .int .i64 (IntKind.i64.wrap r35.1)]) rfl rfl rfl z_size85 rfl rfl rfl (ones_cons rfl (ones_cons rfl (ones_cons rfl (ones_cons rfl (ones_cons rfl ones_nil))))) rfl rfl rfl ?_
    refine st_gs [[(b41, .cells [.int .i64 (IntKind.i64.wrap r11.1), .int .i64 (IntKind.i64.wrap r17.1), .int .u32 r23.1, .int .i64 (IntKind.i64.wrap r29.1), .int .i64 (IntKind.i64.wrap r35.1)].toArray 85 (0, 0))], [(b8, .cells [v39, .int .i64 r35.2.2.1, .int .i64 r35.2.2.2].toArray 258 (0, 0))], [(b3, .cells [.int .i64 0, .int .i64 0, .int .u32 0, .int .i64 0, .int .i64 0].toArray 85 (0, 0))]] rfl ?_
    refine st_end ?_
    refine st_seq ?_
    refine st_region ?_
    refine o_move rfl rfl rfl rfl ?_
    obtain ⟨r42, hr43, h⟩ := h
    refine st_ord [1, 0, 0] [[(b8, .cells [v39, .int .i64 r35.2.2.1, .int .i64 r35.2.2.2].toArray 258 (0, 0))], [(b41, .cells [.int .i64 (IntKind.i64.wrap r11.1), .int .i64 (IntKind.i64.wrap r17.1), .int .u32 r23.1, .int .i64 (IntKind.i64.wrap r29.1), .int .i64 (IntKind.i64.wrap r35.1)].toArray 85 (0, 0))], [(b3, .cells [.int .i64 0, .int .i64 0, .int .u32 0, .int .i64 0, .int .i64 0].toArray 85 (0, 0))]] rfl ?_
    refine st_call (foot := [[(b8, .cells [v39, .int .i64 r35.2.2.1, .int .i64 r35.2.2.2].toArray 258 (0, 0))]]) rfl rfl rfl rfl rfl rfl (callV_fn z_en158 (lens_Lens_End_ok hr43 τ37 hs40)) ?_
    rintro vτ44 τ44 gsτ44 hl45 ⟨rfl, rfl⟩
    refine o_assign rfl rfl rfl rfl ?_
    refine st_end ?_
    refine st_seq ?_
    refine st_cut (fun ρ τ46 gs => ∃ (s46 : Int), head_Parse_j1 r11 r17 r23 r29 r35 s46 r ∧ τ44.Le τ46 ∧ ρ = [(2, .pointer (some ⟨b3, 0, none⟩)), (3, .int .i64 0), (5, .pointer (some ⟨b41, 0, none⟩)), (6, .int .i64 s46)] ∧ gs = [[(b3, .cells [.int .i64 0, .int .i64 0, .int .u32 0, .int .i64 0, .int .i64 0].toArray 85 (0, 0))], [(b41, .cells [.int .i64 (IntKind.i64.wrap r11.1), .int .i64 (IntKind.i64.wrap r17.1), .int .u32 r23.1, .int .i64 (IntKind.i64.wrap r29.1), .int .i64 (IntKind.i64.wrap r35.1)].toArray 85 (0, 0))]]) ?_ (fun hk46 => ?_)
    · rintro ρ46 τ46 gs46 ⟨s46, h, hl46, rfl, rfl⟩
      refine st_seq ?_
      refine st_seq ?_
      refine st_region ?_
      refine o_move rfl rfl rfl rfl ?_
      refine o_ibin (v := .bool (!(decide (s46 = 0)))) rfl rfl rfl rfl rfl rfl ?_
      refine st_end ?_
      refine st_cond rfl (fun hc => ?_) (fun hc => ?_)
      · replace h := (if_pos hc).mp h
        refine st_seq ?_
        refine st_region ?_
        refine o_build (ps := []) (cs := [.int .i64 0, .int .i64 0, .int .u32 0, .int .i64 0, .int .i64 0]) rfl rfl rfl z_struct85 trivial rfl ?_
        refine o_move rfl rfl rfl rfl ?_
        refine o_store (j := 0) (vs := [.int .i64 0, .int .i64 0, .int .u32 0, .int .i64 0, .int .i64 0]) (cs' := [.int .i64 0, .int .i64 0, .int .u32 0, .int .i64 0, .int .i64 0]) rfl rfl rfl z_size85 rfl rfl rfl (ones_cons rfl (ones_cons rfl (ones_cons rfl (ones_cons rfl (ones_cons rfl ones_nil))))) rfl rfl rfl ?_
        refine st_gs [[(b3, .cells [.int .i64 0, .int .i64 0, .int .u32 0, .int .i64 0, .int .i64 0].toArray 85 (0, 0))], [(b41, .cells [.int .i64 (IntKind.i64.wrap r11.1), .int .i64 (IntKind.i64.wrap r17.1), .int .u32 r23.1, .int .i64 (IntKind.i64.wrap r29.1), .int .i64 (IntKind.i64.wrap r35.1)].toArray 85 (0, 0))]] rfl ?_
        refine o_assign rfl rfl rfl rfl ?_
        refine st_end ?_
        obtain rfl := Eq.symm h
        exact st_retC (gs' := []) [.agg [.int .i64 0, .int .i64 0, .int .u32 0, .int .i64 0, .int .i64 0].toArray, .int .i64 s46] Tryd.func124 ⟨⟨_, _, _, _, rfl, mem_flat 0 rfl, fun w hw => cellOfN (vs := [.int .i64 0, .int .i64 0, .int .u32 0, .int .i64 0, .int .i64 0]) z_agg85 rfl w hw⟩, rfl, trivial⟩ (by simp) (((((((hl7.trans hl14).trans hl20).trans hl26).trans hl32).trans hl38).trans hl45).trans hl46) ⟨rfl, rfl⟩
      · replace h := (if_neg (ne_t hc)).mp h
        refine st_skip ?_
        refine st_seq ?_
        refine st_region ?_
        refine o_loadN (j := 1) (vs := [.int .i64 (IntKind.i64.wrap r11.1), .int .i64 (IntKind.i64.wrap r17.1), .int .u32 r23.1, .int .i64 (IntKind.i64.wrap r29.1), .int .i64 (IntKind.i64.wrap r35.1)]) rfl rfl rfl z_agg85 rfl rfl rfl ?_
        refine o_store (j := 0) (vs := [.int .i64 (IntKind.i64.wrap r11.1), .int .i64 (IntKind.i64.wrap r17.1), .int .u32 r23.1, .int .i64 (IntKind.i64.wrap r29.1), .int .i64 (IntKind.i64.wrap r35.1)]) (cs' := [.int .i64 (IntKind.i64.wrap r11.1), .int .i64 (IntKind.i64.wrap r17.1), .int .u32 r23.1, .int .i64 (IntKind.i64.wrap r29.1), .int .i64 (IntKind.i64.wrap r35.1)]) rfl rfl rfl z_size85 rfl rfl rfl (ones_cons rfl (ones_cons rfl (ones_cons rfl (ones_cons rfl (ones_cons rfl ones_nil))))) rfl rfl rfl ?_
        refine st_gs [[(b3, .cells [.int .i64 (IntKind.i64.wrap r11.1), .int .i64 (IntKind.i64.wrap r17.1), .int .u32 r23.1, .int .i64 (IntKind.i64.wrap r29.1), .int .i64 (IntKind.i64.wrap r35.1)].toArray 85 (0, 0))], [(b41, .cells [.int .i64 (IntKind.i64.wrap r11.1), .int .i64 (IntKind.i64.wrap r17.1), .int .u32 r23.1, .int .i64 (IntKind.i64.wrap r29.1), .int .i64 (IntKind.i64.wrap r35.1)].toArray 85 (0, 0))]] rfl ?_
        refine o_assign rfl rfl rfl rfl ?_
        refine st_end ?_
        obtain rfl := Eq.symm h
        exact st_retC (gs' := []) [.agg [.int .i64 (IntKind.i64.wrap r11.1), .int .i64 (IntKind.i64.wrap r17.1), .int .u32 r23.1, .int .i64 (IntKind.i64.wrap r29.1), .int .i64 (IntKind.i64.wrap r35.1)].toArray, .int .i64 0] Tryd.func124 ⟨⟨_, _, _, _, rfl, mem_flat 0 rfl, fun w hw => cellOfN (vs := [.int .i64 (IntKind.i64.wrap r11.1), .int .i64 (IntKind.i64.wrap r17.1), .int .u32 r23.1, .int .i64 (IntKind.i64.wrap r29.1), .int .i64 (IntKind.i64.wrap r35.1)]) z_agg85 rfl w hw⟩, rfl, trivial⟩ (by simp) (((((((hl7.trans hl14).trans hl20).trans hl26).trans hl32).trans hl38).trans hl45).trans hl46) ⟨rfl, rfl⟩
    refine st_seq ?_
    refine st_region ?_
    refine o_move rfl rfl rfl rfl ?_
    refine o_ibin (v := .bool (decide (r42 = 0))) rfl rfl rfl rfl rfl rfl ?_
    refine st_end ?_
    refine st_cond rfl (fun hc => ?_) (fun hc => ?_)
    · replace h := (if_pos hc).mp h
      refine st_region ?_
      refine o_loadN (j := 1) (vs := [.int .i64 (IntKind.i64.wrap r11.1), .int .i64 (IntKind.i64.wrap r17.1), .int .u32 r23.1, .int .i64 (IntKind.i64.wrap r29.1), .int .i64 (IntKind.i64.wrap r35.1)]) rfl rfl rfl z_agg85 rfl rfl rfl ?_
      obtain ⟨r47, hr48, h⟩ := h
      refine st_call (foot := []) rfl rfl rfl rfl rfl rfl (callV_fn z_en90 (head_Check_ok hr48 τ44)) ?_
      rintro vτ49 τ49 gsτ49 hl50 ⟨rfl, rfl⟩
      refine o_assign rfl rfl rfl rfl ?_
      refine st_end ?_
      refine st_env (ρ' := [(2, .pointer (some ⟨b3, 0, none⟩)), (3, .int .i64 0), (5, .pointer (some ⟨b41, 0, none⟩)), (6, .int .i64 r47)]) ⟨rfl, rfl, rfl, rfl, trivial⟩ ?_
      refine st_ord [2, 1] [[(b3, .cells [.int .i64 0, .int .i64 0, .int .u32 0, .int .i64 0, .int .i64 0].toArray 85 (0, 0))], [(b41, .cells [.int .i64 (IntKind.i64.wrap r11.1), .int .i64 (IntKind.i64.wrap r17.1), .int .u32 r23.1, .int .i64 (IntKind.i64.wrap r29.1), .int .i64 (IntKind.i64.wrap r35.1)].toArray 85 (0, 0))]] rfl ?_
      exact hk46 _ _ _ ⟨r47, h, hl50, rfl, rfl⟩
    · replace h := (if_neg (ne_t hc)).mp h
      refine st_skip ?_
      refine st_env (ρ' := [(2, .pointer (some ⟨b3, 0, none⟩)), (3, .int .i64 0), (5, .pointer (some ⟨b41, 0, none⟩)), (6, .int .i64 r42)]) ⟨rfl, rfl, rfl, rfl, trivial⟩ ?_
      refine st_ord [2, 1] [[(b3, .cells [.int .i64 0, .int .i64 0, .int .u32 0, .int .i64 0, .int .i64 0].toArray 85 (0, 0))], [(b41, .cells [.int .i64 (IntKind.i64.wrap r11.1), .int .i64 (IntKind.i64.wrap r17.1), .int .u32 r23.1, .int .i64 (IntKind.i64.wrap r29.1), .int .i64 (IntKind.i64.wrap r35.1)].toArray 85 (0, 0))]] rfl ?_
      exact hk46 _ _ _ ⟨r42, h, (Sto.Le.refl _), rfl, rfl⟩
theorem frame_Codec_Unpack_ok {a0 : List Int} {a1 : List Int} {bi3 : Nat} {bi1 : Nat} {v5 : Value} {r : ((Int × Int × Int × Int × Int) × List Int) × Int} (h : frame_Codec_Unpack a0 a1 r) (σ : Sto) (hc4 : CelN σ ⟨bi3, 0, none⟩ (cellsN (Value.int .u32) 0 1024 a0)) (hc2 : CelN σ ⟨bi1, 0, none⟩ [.pointer (some ⟨bi3, 0, none⟩)]) (hs6 : Sl (kI .u8) σ v5 a1) :
    Does Tryd.prog 86 [.pointer (some ⟨bi1, 0, none⟩), v5] σ [] (fun v τ gs => ∃ (v33 : Value), gs = [] ∧ .tuple [.agg [.int .i64 r.1.1.1, .int .i64 r.1.1.2.1, .int .u32 r.1.1.2.2.1, .int .i64 r.1.1.2.2.2.1, .int .i64 r.1.1.2.2.2.2, v33].toArray, .int .i64 r.2].toArray = v ∧ Sl (kI .u8) τ v33 r.1.2) := by
  refine call_of Tryd.func86 Tryd.ntmps86 rfl rfl (fun cs fs => ?_)
  refine st_seq ?_
  refine st_region ?_
  refine o_alloc rfl rfl rfl z_zero87 (fun b7 => ?_)
  refine o_assign rfl rfl rfl rfl ?_
  refine st_end ?_
  refine st_seq ?_
  refine st_block ?_
  refine st_seq ?_
  refine st_region ?_
  refine o_move rfl rfl rfl rfl ?_
  refine o_ptrNil (b := false) rfl rfl rfl Tryd.underlying81 rfl rfl rfl ?_
  refine o_assign rfl rfl rfl rfl ?_
  refine st_end ?_
  refine st_condF rfl ?_
  refine st_seq ?_
  refine st_region ?_
  refine o_move rfl rfl rfl rfl ?_
  refine o_lenI rfl rfl rfl z_slT67 rfl hs6 ?_
  refine o_ibin (v := .bool (decide (255 < (a1.length : Int)))) rfl rfl rfl rfl rfl rfl ?_
  refine o_assign rfl rfl rfl rfl ?_
  refine st_end ?_
  refine st_cond rfl (fun hc => ?_) (fun hc => ?_)
  · replace h := (if_pos hc).mp h
    refine st_seq ?_
    refine st_region ?_
    refine o_build (ps := []) (cs := [.int .i64 0, .int .i64 0, .int .u32 0, .int .i64 0, .int .i64 0, .slice none 0 0]) rfl rfl rfl z_struct87 trivial rfl ?_
    refine o_store (j := 0) (vs := [.int .i64 0, .int .i64 0, .int .u32 0, .int .i64 0, .int .i64 0, .slice none 0 0]) (cs' := [.int .i64 0, .int .i64 0, .int .u32 0, .int .i64 0, .int .i64 0, .slice none 0 0]) rfl rfl rfl z_size87 rfl rfl rfl (ones_cons rfl (ones_cons rfl (ones_cons rfl (ones_cons rfl (ones_cons rfl (ones_cons rfl ones_nil)))))) rfl rfl rfl ?_
    refine st_gs [[(b7, .cells [.int .i64 0, .int .i64 0, .int .u32 0, .int .i64 0, .int .i64 0, .slice none 0 0].toArray 87 (0, 0))]] rfl ?_
    refine o_assign rfl rfl rfl rfl ?_
    refine st_end ?_
    obtain rfl := Eq.symm h
    exact st_retC (gs' := []) [.agg [.int .i64 0, .int .i64 0, .int .u32 0, .int .i64 0, .int .i64 0, .slice none 0 0].toArray, .int .i64 2] Tryd.func86 ⟨⟨_, _, _, _, rfl, mem_flat 0 rfl, fun w hw => cellOfN (vs := [.int .i64 0, .int .i64 0, .int .u32 0, .int .i64 0, .int .i64 0, .slice none 0 0]) z_agg87 rfl w hw⟩, rfl, trivial⟩ (by simp) (Sto.Le.refl _) ⟨_, rfl, rfl, Sl.nil⟩
  · replace h := (if_neg (ne_t hc)).mp h
    refine st_skip ?_
    refine st_inBlock ?_
    refine st_seq ?_
    refine st_region ?_
    refine o_move rfl rfl rfl rfl ?_
    obtain ⟨r8, hr9, h⟩ := h
    refine st_call (foot := []) rfl rfl rfl rfl rfl rfl (callV_fn z_en122 (cobs_Decode_ok hr9 σ hs6)) ?_
    rintro vτ10 τ10 gsτ10 hl11 ⟨v12, rfl, rfl, hs13⟩
    refine o_move rfl rfl rfl rfl ?_
    refine o_extract rfl rfl rfl rfl rfl ?_
    refine o_extract rfl rfl rfl rfl rfl ?_
    refine o_assign rfl rfl rfl rfl ?_
    refine o_assign rfl rfl rfl rfl ?_
    refine st_end ?_
    refine st_seq ?_
    refine st_block ?_
    refine st_seq ?_
    refine st_region ?_
    refine o_move rfl rfl rfl rfl ?_
    refine o_ibin (v := .bool (!(decide (r8.2 = 0)))) rfl rfl rfl rfl rfl rfl ?_
    refine o_assign rfl rfl rfl rfl ?_
    refine st_end ?_
    refine st_cond rfl (fun hc => ?_) (fun hc => ?_)
    · replace h := (if_pos hc).mp h
      refine st_seq ?_
      refine st_region ?_
      refine o_build (ps := []) (cs := [.int .i64 0, .int .i64 0, .int .u32 0, .int .i64 0, .int .i64 0, .slice none 0 0]) rfl rfl rfl z_struct87 trivial rfl ?_
      refine o_move rfl rfl rfl rfl ?_
      refine o_store (j := 0) (vs := [.int .i64 0, .int .i64 0, .int .u32 0, .int .i64 0, .int .i64 0, .slice none 0 0]) (cs' := [.int .i64 0, .int .i64 0, .int .u32 0, .int .i64 0, .int .i64 0, .slice none 0 0]) rfl rfl rfl z_size87 rfl rfl rfl (ones_cons rfl (ones_cons rfl (ones_cons rfl (ones_cons rfl (ones_cons rfl (ones_cons rfl ones_nil)))))) rfl rfl rfl ?_
      refine st_gs [[(b7, .cells [.int .i64 0, .int .i64 0, .int .u32 0, .int .i64 0, .int .i64 0, .slice none 0 0].toArray 87 (0, 0))]] rfl ?_
      refine o_assign rfl rfl rfl rfl ?_
      refine st_end ?_
      obtain rfl := Eq.symm h
      exact st_retC (gs' := []) [.agg [.int .i64 0, .int .i64 0, .int .u32 0, .int .i64 0, .int .i64 0, .slice none 0 0].toArray, .int .i64 r8.2] Tryd.func86 ⟨⟨_, _, _, _, rfl, mem_flat 0 rfl, fun w hw => cellOfN (vs := [.int .i64 0, .int .i64 0, .int .u32 0, .int .i64 0, .int .i64 0, .slice none 0 0]) z_agg87 rfl w hw⟩, rfl, trivial⟩ (by simp) hl11 ⟨_, rfl, rfl, Sl.nil⟩
    · replace h := (if_neg (ne_t hc)).mp h
      refine st_seq ?_
      refine st_region ?_
      refine o_move rfl rfl rfl rfl ?_
      refine o_lenI rfl rfl rfl z_slT67 rfl hs13 ?_
      refine o_ibin (v := .bool (decide ((r8.1.length : Int) ≤ 12))) rfl rfl rfl rfl rfl rfl ?_
      refine o_assign rfl rfl rfl rfl ?_
      refine st_end ?_
      refine st_cond rfl (fun hc => ?_) (fun hc => ?_)
      · replace h := (if_pos hc).mp h
        refine st_seq ?_
        refine st_region ?_
        refine o_build (ps := []) (cs := [.int .i64 0, .int .i64 0, .int .u32 0, .int .i64 0, .int .i64 0, .slice none 0 0]) rfl rfl rfl z_struct87 trivial rfl ?_
        refine o_store (j := 0) (vs := [.int .i64 0, .int .i64 0, .int .u32 0, .int .i64 0, .int .i64 0, .slice none 0 0]) (cs' := [.int .i64 0, .int .i64 0, .int .u32 0, .int .i64 0, .int .i64 0, .slice none 0 0]) rfl rfl rfl z_size87 rfl rfl rfl (ones_cons rfl (ones_cons rfl (ones_cons rfl (ones_cons rfl (ones_cons rfl (ones_cons rfl ones_nil)))))) rfl rfl rfl ?_
        refine st_gs [[(b7, .cells [.int .i64 0, .int .i64 0, .int .u32 0, .int .i64 0, .int .i64 0, .slice none 0 0].toArray 87 (0, 0))]] rfl ?_
        refine o_assign rfl rfl rfl rfl ?_
        refine st_end ?_
        obtain rfl := Eq.symm h
        exact st_retC (gs' := []) [.agg [.int .i64 0, .int .i64 0, .int .u32 0, .int .i64 0, .int .i64 0, .slice none 0 0].toArray, .int .i64 13] Tryd.func86 ⟨⟨_, _, _, _, rfl, mem_flat 0 rfl, fun w hw => cellOfN (vs := [.int .i64 0, .int .i64 0, .int .u32 0, .int .i64 0, .int .i64 0, .slice none 0 0]) z_agg87 rfl w hw⟩, rfl, trivial⟩ (by simp) hl11 ⟨_, rfl, rfl, Sl.nil⟩
      · replace h := (if_neg (ne_t hc)).mp h
        refine st_skip ?_
        refine st_inBlock ?_
        refine st_seq ?_
        refine st_seq ?_
        refine st_region ?_
        refine o_move rfl rfl rfl rfl ?_
        refine o_nilCheck rfl rfl rfl rfl ?_
        refine o_fieldAddr rfl rfl rfl z_field152_0 rfl ?_
        refine o_loadI (v := .pointer (some ⟨bi3, 0, none⟩)) rfl rfl rfl z_sc149 rfl ((hc2.up hl11) 0 _ rfl) ?_
        refine o_move rfl rfl rfl rfl ?_
        obtain ⟨r14, hr15, h⟩ := h
        refine st_call (foot := []) rfl rfl rfl rfl rfl rfl (callV_fn z_en123 (crc_Open_ok hr15 τ10 (hc4.up hl11) hs13)) ?_
        rintro vτ16 τ16 gsτ16 hl17 ⟨v18, rfl, rfl, hs19⟩
        refine o_move rfl rfl rfl rfl ?_
        refine o_extract rfl rfl rfl rfl rfl ?_
        refine o_extract rfl rfl rfl rfl rfl ?_
        refine o_assign rfl rfl rfl rfl ?_
        refine o_assign rfl rfl rfl rfl ?_
        refine st_end ?_
        refine st_seq ?_
        refine st_region ?_
        refine o_move rfl rfl rfl rfl ?_
        refine o_ibin (v := .bool (!(decide (r14.2 = 0)))) rfl rfl rfl rfl rfl rfl ?_
        refine st_end ?_
        refine st_cond rfl (fun hc => ?_) (fun hc => ?_)
        · replace h := (if_pos hc).mp h
          refine st_seq ?_
          refine st_region ?_
          refine o_build (ps := []) (cs := [.int .i64 0, .int .i64 0, .int .u32 0, .int .i64 0, .int .i64 0, .slice none 0 0]) rfl rfl rfl z_struct87 trivial rfl ?_
          refine o_move rfl rfl rfl rfl ?_
          refine o_store (j := 0) (vs := [.int .i64 0, .int .i64 0, .int .u32 0, .int .i64 0, .int .i64 0, .slice none 0 0]) (cs' := [.int .i64 0, .int .i64 0, .int .u32 0, .int .i64 0, .int .i64 0, .slice none 0 0]) rfl rfl rfl z_size87 rfl rfl rfl (ones_cons rfl (ones_cons rfl (ones_cons rfl (ones_cons rfl (ones_cons rfl (ones_cons rfl ones_nil)))))) rfl rfl rfl ?_
          refine st_gs [[(b7, .cells [.int .i64 0, .int .i64 0, .int .u32 0, .int .i64 0, .int .i64 0, .slice none 0 0].toArray 87 (0, 0))]] rfl ?_
          refine o_assign rfl rfl rfl rfl ?_
          refine st_end ?_
          obtain rfl := Eq.symm h
          exact st_retC (gs' := []) [.agg [.int .i64 0, .int .i64 0, .int .u32 0, .int .i64 0, .int .i64 0, .slice none 0 0].toArray, .int .i64 r14.2] Tryd.func86 ⟨⟨_, _, _, _, rfl, mem_flat 0 rfl, fun w hw => cellOfN (vs := [.int .i64 0, .int .i64 0, .int .u32 0, .int .i64 0, .int .i64 0, .slice none 0 0]) z_agg87 rfl w hw⟩, rfl, trivial⟩ (by simp) (hl11.trans hl17) ⟨_, rfl, rfl, Sl.nil⟩
        · replace h := (if_neg (ne_t hc)).mp h
          refine st_skip ?_
          refine st_seq ?_
          refine st_region ?_
          refine o_move rfl rfl rfl rfl ?_
          obtain ⟨hf20, h⟩ := h
          refine o_slice (L := 0) (H := 8) rfl rfl rfl z_slT67 rfl rfl hs19 rfl ⟨_, rfl⟩ (by decide) (by decide) hf20 trivial (by simp) (fun v21 hs22 => ?_)
          obtain ⟨r23, hr24, h⟩ := h
          refine st_call (foot := []) rfl rfl rfl rfl rfl rfl (callV_fn z_en124 (head_Parse_ok hr24 τ16 hs22)) ?_
          rintro vτ25 τ25 gsτ25 hl26 ⟨rfl, rfl⟩
          refine o_move rfl rfl rfl rfl ?_
          refine o_extract rfl rfl rfl rfl rfl ?_
          refine o_extract rfl rfl rfl rfl rfl ?_
          refine o_alloc rfl rfl rfl z_zero85 (fun b27 => ?_)
          refine o_store (j := 0) (vs := [.int .i64 r23.1.1, .int .i64 r23.1.2.1, .int .u32 r23.1.2.2.1, .int .i64 r23.1.2.2.2.1, .int .i64 r23.1.2.2.2.2]) (cs' := [.int .i64 r23.1.1, .int .i64 r23.1.2.1, .int .u32 r23.1.2.2.1, .int .i64 r23.1.2.2.2.1, .int .i64 r23.1.2.2.2.2]) rfl rfl rfl z_size85 rfl rfl rfl (ones_cons rfl (ones_cons rfl (ones_cons rfl (ones_cons rfl (ones_cons rfl ones_nil))))) rfl rfl rfl ?_
          refine st_gs [[(b27, .cells [.int .i64 r23.1.1, .int .i64 r23.1.2.1, .int .u32 r23.1.2.2.1, .int .i64 r23.1.2.2.2.1, .int .i64 r23.1.2.2.2.2].toArray 85 (0, 0))], [(b7, .cells [.int .i64 0, .int .i64 0, .int .u32 0, .int .i64 0, .int .i64 0, .slice none 0 0].toArray 87 (0, 0))]] rfl ?_
          refine o_assign rfl rfl rfl rfl ?_
          refine st_end ?_
          refine st_seq ?_
          refine st_seq ?_
          refine st_region ?_
          refine o_move rfl rfl rfl rfl ?_
          refine o_ibin (v := .bool (!(decide (r23.2 = 0)))) rfl rfl rfl rfl rfl rfl ?_
          refine st_end ?_
          refine st_cond rfl (fun hc => ?_) (fun hc => ?_)
          · replace h := (if_pos hc).mp h
            refine st_seq ?_
            refine st_region ?_
            refine o_build (ps := []) (cs := [.int .i64 0, .int .i64 0, .int .u32 0, .int .i64 0, .int .i64 0, .slice none 0 0]) rfl rfl rfl z_struct87 trivial rfl ?_
            refine o_move rfl rfl rfl rfl ?_
            refine o_store (j := 1) (vs := [.int .i64 0, .int .i64 0, .int .u32 0, .int .i64 0, .int .i64 0, .slice none 0 0]) (cs' := [.int .i64 0, .int .i64 0, .int .u32 0, .int .i64 0, .int .i64 0, .slice none 0 0]) rfl rfl rfl z_size87 rfl rfl rfl (ones_cons rfl (ones_cons rfl (ones_cons rfl (ones_cons rfl (ones_cons rfl (ones_cons rfl ones_nil)))))) rfl rfl rfl ?_
            refine st_gs [[(b27, .cells [.int .i64 r23.1.1, .int .i64 r23.1.2.1, .int .u32 r23.1.2.2.1, .int .i64 r23.1.2.2.2.1, .int .i64 r23.1.2.2.2.2].toArray 85 (0, 0))], [(b7, .cells [.int .i64 0, .int .i64 0, .int .u32 0, .int .i64 0, .int .i64 0, .slice none 0 0].toArray 87 (0, 0))]] rfl ?_
            refine o_assign rfl rfl rfl rfl ?_
            refine st_end ?_
            obtain rfl := Eq.symm h
            exact st_retC (gs' := []) [.agg [.int .i64 0, .int .i64 0, .int .u32 0, .int .i64 0, .int .i64 0, .slice none 0 0].toArray, .int .i64 r23.2] Tryd.func86 ⟨⟨_, _, _, _, rfl, mem_flat 1 rfl, fun w hw => cellOfN (vs := [.int .i64 0, .int .i64 0, .int .u32 0, .int .i64 0, .int .i64 0, .slice none 0 0]) z_agg87 rfl w hw⟩, rfl, trivial⟩ (by simp) ((hl11.trans hl17).trans hl26) ⟨_, rfl, rfl, Sl.nil⟩
          · replace h := (if_neg (ne_t hc)).mp h
            refine st_skip ?_
            refine st_seq ?_
            obtain ⟨hf28, h⟩ := h
            obtain ⟨hf29, h⟩ := h
            refine st_draw 4 (tl [fun τ v => (.agg [.int .i64 r23.1.1, .int .i64 r23.1.2.1, .int .u32 r23.1.2.2.1, .int .i64 r23.1.2.2.2.1, .int .i64 r23.1.2.2.2.2].toArray : Value) = v,
    fun τ v => (v18 : Value) = v,
    fun τ v => ∃ (v30 : Value), (v30 : Value) = v ∧ Sl (kI .u8) τ v30 ((r14.1.drop (8 : Int).toNat).take (((r14.1.length : Int) : Int) - 8).toNat),
    fun τ v => ∃ (v30 : Value), (.agg [.int .i64 r23.1.1, .int .i64 r23.1.2.1, .int .u32 r23.1.2.2.1, .int .i64 r23.1.2.2.2.1, .int .i64 r23.1.2.2.2.2, v30].toArray : Value) = v ∧ Sl (kI .u8) τ v30 ((r14.1.drop (8 : Int).toNat).take (((r14.1.length : Int) : Int) - 8).toNat)]) (fun _ _ => []) z_mix rfl (tl_mono ⟨fun _ _ _ _ h => h, ⟨fun _ _ _ _ h => h, ⟨fun _ _ _ hl ⟨v30, hv, hs31⟩ => ⟨v30, hv, hs31.up hl⟩, ⟨fun _ _ _ hl ⟨v30, hv, hs31⟩ => ⟨v30, hv, hs31.up hl⟩, trivial⟩⟩⟩⟩) (allB_cons (allB_cons (allB_cons (allB_cons allB_nil ?_) ?_) ?_) ?_) ?_
            · intro ρ' τ pool rs hl hd hout hk
              refine o_loadN (j := 0) (vs := [.int .i64 r23.1.1, .int .i64 r23.1.2.1, .int .u32 r23.1.2.2.1, .int .i64 r23.1.2.2.2.1, .int .i64 r23.1.2.2.2.2]) rfl rfl rfl z_agg85 ((hout 8 rfl).trans rfl) rfl rfl ?_
              exact st_addNil (hk _ _ (Sto.Le.refl _) rfl)
            · intro ρ' τ pool rs hl hd hout hk
              refine o_move rfl rfl rfl ((hout 6 rfl).trans rfl) ?_
              exact st_addNil (hk _ _ (Sto.Le.refl _) rfl)
            · intro ρ' τ pool rs hl hd hout hk
              obtain ⟨_, e1, rfl⟩ := hd 1 rfl
              refine o_slice (L := 8) (H := (r14.1.length : Int)) rfl rfl rfl z_slT67 rfl e1 (hs19.up (hl26.trans hl)) ⟨_, rfl⟩ rfl (by decide) hf28 hf29 trivial (by simp) (fun v30 hs31 => ?_)
              exact st_addNil (hk _ _ (Sto.Le.refl _) ⟨v30, rfl, hs31⟩)
            · intro ρ' τ pool rs hl hd hout hk
              obtain ⟨_, e0, rfl⟩ := hd 0 rfl
              obtain ⟨_, e2, v30, rfl, hs31⟩ := hd 2 rfl
              refine o_build (ps := [(0, [.int .i64 r23.1.1, .int .i64 r23.1.2.1, .int .u32 r23.1.2.2.1, .int .i64 r23.1.2.2.2.1, .int .i64 r23.1.2.2.2.2]), (1, [v30])]) (cs := [.int .i64 r23.1.1, .int .i64 r23.1.2.1, .int .u32 r23.1.2.2.1, .int .i64 r23.1.2.2.2.1, .int .i64 r23.1.2.2.2.2, v30]) rfl rfl rfl z_struct87 ⟨rfl, ⟨_, e0, rfl⟩, ⟨rfl, ⟨_, e2, (oneL_sl hs31)⟩, trivial⟩⟩ rfl ?_
              exact st_addNil (hk _ _ (Sto.Le.refl _) ⟨v30, rfl, hs31⟩)
            intro ρ' τ32 vals hl32 hv hout
            obtain ⟨l3, v30, t3, hs31⟩ := hv 3 (by decide)
            replace l3 : Eng.look ρ' 59 = some (.agg [.int .i64 r23.1.1, .int .i64 r23.1.2.1, .int .u32 r23.1.2.2.1, .int .i64 r23.1.2.2.2.1, .int .i64 r23.1.2.2.2.2, v30].toArray) := l3.trans (congrArg some (Eq.symm t3))
            refine st_ord [0, 0] [[(b27, .cells [.int .i64 r23.1.1, .int .i64 r23.1.2.1, .int .u32 r23.1.2.2.1, .int .i64 r23.1.2.2.2.1, .int .i64 r23.1.2.2.2.2].toArray 85 (0, 0))], [(b7, .cells [.int .i64 0, .int .i64 0, .int .u32 0, .int .i64 0, .int .i64 0, .slice none 0 0].toArray 87 (0, 0))]] rfl ?_
            refine st_env (ρ' := [(59, .agg [.int .i64 r23.1.1, .int .i64 r23.1.2.1, .int .u32 r23.1.2.2.1, .int .i64 r23.1.2.2.2.1, .int .i64 r23.1.2.2.2.2, v30].toArray), (4, .pointer (some ⟨b7, 0, none⟩)), (5, .int .i64 0)]) ⟨l3, (hout 4 rfl).trans rfl, (hout 5 rfl).trans rfl, trivial⟩ ?_
            refine o_store (j := 1) (vs := [.int .i64 r23.1.1, .int .i64 r23.1.2.1, .int .u32 r23.1.2.2.1, .int .i64 r23.1.2.2.2.1, .int .i64 r23.1.2.2.2.2, v30]) (cs' := [.int .i64 r23.1.1, .int .i64 r23.1.2.1, .int .u32 r23.1.2.2.1, .int .i64 r23.1.2.2.2.1, .int .i64 r23.1.2.2.2.2, v30]) rfl rfl rfl z_size87 rfl rfl rfl (ones_cons rfl (ones_cons rfl (ones_cons rfl (ones_cons rfl (ones_cons rfl (ones_cons hs31.one' ones_nil)))))) rfl rfl rfl ?_
            refine st_gs [[(b27, .cells [.int .i64 r23.1.1, .int .i64 r23.1.2.1, .int .u32 r23.1.2.2.1, .int .i64 r23.1.2.2.2.1, .int .i64 r23.1.2.2.2.2].toArray 85 (0, 0))], [(b7, .cells [.int .i64 r23.1.1, .int .i64 r23.1.2.1, .int .u32 r23.1.2.2.1, .int .i64 r23.1.2.2.2.1, .int .i64 r23.1.2.2.2.2, v30].toArray 87 (0, 0))]] rfl ?_
            refine o_assign rfl rfl rfl rfl ?_
            refine st_end ?_
            obtain rfl := Eq.symm h
            exact st_retC (gs' := []) [.agg [.int .i64 r23.1.1, .int .i64 r23.1.2.1, .int .u32 r23.1.2.2.1, .int .i64 r23.1.2.2.2.1, .int .i64 r23.1.2.2.2.2, v30].toArray, .int .i64 0] Tryd.func86 ⟨⟨_, _, _, _, rfl, mem_flat 1 rfl, fun w hw => cellOfN (vs := [.int .i64 r23.1.1, .int .i64 r23.1.2.1, .int .u32 r23.1.2.2.1, .int .i64 r23.1.2.2.2.1, .int .i64 r23.1.2.2.2.2, v30]) z_agg87 rfl w hw⟩, rfl, trivial⟩ (by simp) (((hl11.trans hl17).trans hl26).trans hl32) ⟨_, rfl, rfl, hs31⟩
theorem internal_strconv_FormatUint_ok {a0 : Int} {a1 : Int} {r : ByteArray} (h : internal_strconv_FormatUint a0 a1 r) (σ : Sto) (hT : Tab Tryd.prog σ) :
    Does Tryd.prog 162 [.int .u64 a0, .int .i64 a1] σ [] (fun v τ gs => gs = [] ∧ .string r = v) := by
  obtain ⟨hk, rfl, rfl⟩ := h
  rw [itoa_lib]
  exact does_grow fun w hw => Tryd.FormatUint_10 a0 (u64_lo hk) (u64_hi hk) w (hT w hw)
theorem strconv_FormatUint_ok {a0 : Int} {a1 : Int} {r : ByteArray} (h : strconv_FormatUint a0 a1 r) (σ : Sto) (hT : Tab Tryd.prog σ) :
    Does Tryd.prog 131 [.int .u64 a0, .int .i64 a1] σ [] (fun v τ gs => gs = [] ∧ .string r = v) := by
  refine call_of Tryd.func131 Tryd.ntmps131 rfl rfl (fun cs fs => ?_)
  refine st_seq ?_
  refine st_region ?_
  refine o_assign rfl rfl rfl (ev_str z_str19) ?_
  refine st_end ?_
  refine st_seq ?_
  refine st_region ?_
  refine o_move rfl rfl rfl rfl ?_
  refine o_move rfl rfl rfl rfl ?_
  obtain ⟨r1, hr2, h⟩ := h
  refine st_call (foot := []) rfl rfl rfl rfl rfl rfl (callV_fn z_en162 (internal_strconv_FormatUint_ok hr2 σ hT)) ?_
  rintro vτ3 τ3 gsτ3 hl4 ⟨rfl, rfl⟩
  refine o_assign rfl rfl rfl rfl ?_
  refine st_end ?_
  obtain rfl := Eq.symm h
  exact st_ret (gs' := []) Tryd.func131 rfl (List.Sublist.refl _) hl4 ⟨rfl, rfl⟩
theorem head_Line_ok {a0 : Int × Int × Int × Int × Int} {r : ByteArray} (h : head_Line a0 r) (σ : Sto) (hT : Tab Tryd.prog σ) :
    Does Tryd.prog 92 [.agg [.int .i64 a0.1, .int .i64 a0.2.1, .int .u32 a0.2.2.1, .int .i64 a0.2.2.2.1, .int .i64 a0.2.2.2.2].toArray] σ [] (fun v τ gs => gs = [] ∧ .string r = v) := by
  refine call_of Tryd.func92 Tryd.ntmps92 rfl rfl (fun cs fs => ?_)
  refine st_seq ?_
  refine st_region ?_
  refine o_box (cs := [.int .i64 a0.1, .int .i64 a0.2.1, .int .u32 a0.2.2.1, .int .i64 a0.2.2.2.1, .int .i64 a0.2.2.2.2]) rfl rfl rfl rfl rfl (fun b1 => ?_)
  refine o_assign rfl rfl rfl (ev_str z_str19) ?_
  refine st_end ?_
  refine st_seq ?_
  obtain ⟨r2, hr3, h⟩ := h
  obtain ⟨hf6, h⟩ := h
  obtain ⟨hf7, h⟩ := h
  obtain ⟨r8, hr9, h⟩ := h
  obtain ⟨hf12, h⟩ := h
  obtain ⟨hf13, h⟩ := h
  obtain ⟨r14, hr15, h⟩ := h
  obtain ⟨hf18, h⟩ := h
  obtain ⟨hf19, h⟩ := h
  obtain ⟨r20, hr21, h⟩ := h
  obtain ⟨hf24, h⟩ := h
  obtain ⟨hf25, h⟩ := h
  obtain ⟨r26, hr27, h⟩ := h
  obtain ⟨hf30, h⟩ := h
  refine st_draw 25 (tl [fun τ v => (.pointer (some ⟨b1, 0, none⟩) : Value) = v,
    fun τ v => (.int .i64 a0.1 : Value) = v,
    fun τ v => (.string r2 : Value) = v,
    fun τ v => (.string ((bstr [118, 32]) ++ r2) : Value) = v,
    fun τ v => (.string (((bstr [118, 32]) ++ r2) ++ (bstr [32, 107, 32])) : Value) = v,
    fun τ v => (.pointer (some ⟨b1, 1, none⟩) : Value) = v,
    fun τ v => (.int .i64 a0.2.1 : Value) = v,
    fun τ v => (.string r8 : Value) = v,
    fun τ v => (.string ((((bstr [118, 32]) ++ r2) ++ (bstr [32, 107, 32])) ++ r8) : Value) = v,
    fun τ v => (.string (((((bstr [118, 32]) ++ r2) ++ (bstr [32, 107, 32])) ++ r8) ++ (bstr [32])) : Value) = v,
    fun τ v => (.pointer (some ⟨b1, 2, none⟩) : Value) = v,
    fun τ v => (.int .u32 a0.2.2.1 : Value) = v,
    fun τ v => (.int .u64 (IntKind.u64.wrap a0.2.2.1) : Value) = v,
    fun τ v => (.string r14 : Value) = v,
    fun τ v => (.string ((((((bstr [118, 32]) ++ r2) ++ (bstr [32, 107, 32])) ++ r8) ++ (bstr [32])) ++ r14) : Value) = v,
    fun τ v => (.string (((((((bstr [118, 32]) ++ r2) ++ (bstr [32, 107, 32])) ++ r8) ++ (bstr [32])) ++ r14) ++ (bstr [32])) : Value) = v,
    fun τ v => (.pointer (some ⟨b1, 3, none⟩) : Value) = v,
    fun τ v => (.int .i64 a0.2.2.2.1 : Value) = v,
    fun τ v => (.string r20 : Value) = v,
    fun τ v => (.string ((((((((bstr [118, 32]) ++ r2) ++ (bstr [32, 107, 32])) ++ r8) ++ (bstr [32])) ++ r14) ++ (bstr [32])) ++ r20) : Value) = v,
    fun τ v => (.string (((((((((bstr [118, 32]) ++ r2) ++ (bstr [32, 107, 32])) ++ r8) ++ (bstr [32])) ++ r14) ++ (bstr [32])) ++ r20) ++ (bstr [47])) : Value) = v,
    fun τ v => (.pointer (some ⟨b1, 4, none⟩) : Value) = v,
    fun τ v => (.int .i64 a0.2.2.2.2 : Value) = v,
    fun τ v => (.string r26 : Value) = v,
    fun τ v => (.string ((((((((((bstr [118, 32]) ++ r2) ++ (bstr [32, 107, 32])) ++ r8) ++ (bstr [32])) ++ r14) ++ (bstr [32])) ++ r20) ++ (bstr [47])) ++ r26) : Value) = v]) (fun _ _ => []) z_mix rfl (tl_mono ⟨fun _ _ _ _ h => h, ⟨fun _ _ _ _ h => h, ⟨fun _ _ _ _ h => h, ⟨fun _ _ _ _ h => h, ⟨fun _ _ _ _ h => h, ⟨fun _ _ _ _ h => h, ⟨fun _ _ _ _ h => h, ⟨fun _ _ _ _ h => h, ⟨fun _ _ _ _ h => h, ⟨fun _ _ _ _ h => h, ⟨fun _ _ _ _ h => h, ⟨fun _ _ _ _ h => h, ⟨fun _ _ _ _ h => h, ⟨fun _ _ _ _ h => h, ⟨fun _ _ _ _ h => h, ⟨fun _ _ _ _ h => h, ⟨fun _ _ _ _ h => h, ⟨fun _ _ _ _ h => h, ⟨fun _ _ _ _ h => h, ⟨fun _ _ _ _ h => h, ⟨fun _ _ _ _ h => h, ⟨fun _ _ _ _ h => h, ⟨fun _ _ _ _ h => h, ⟨fun _ _ _ _ h => h, ⟨fun _ _ _ _ h => h, trivial⟩⟩⟩⟩⟩⟩⟩⟩⟩⟩⟩⟩⟩⟩⟩⟩⟩⟩⟩⟩⟩⟩⟩⟩⟩) (allB_cons (allB_cons (allB_cons (allB_cons (allB_cons (allB_cons (allB_cons (allB_cons (allB_cons (allB_cons (allB_cons (allB_cons (allB_cons (allB_cons (allB_cons (allB_cons (allB_cons (allB_cons (allB_cons (allB_cons (allB_cons (allB_cons (allB_cons (allB_cons (allB_cons allB_nil ?_) ?_) ?_) ?_) ?_) ?_) ?_) ?_) ?_) ?_) ?_) ?_) ?_) ?_) ?_) ?_) ?_) ?_) ?_) ?_) ?_) ?_) ?_) ?_) ?_) ?_
  · intro ρ' τ pool rs hl hd hout hk
    refine o_fieldAddr rfl rfl rfl z_field85_0 ((hout 1 rfl).trans rfl) ?_
    exact st_addNil (hk _ _ (Sto.Le.refl _) rfl)
  · intro ρ' τ pool rs hl hd hout hk
    obtain ⟨_, e0, rfl⟩ := hd 0 rfl
    refine o_load (j := 0) (v := .int .i64 a0.1) rfl rfl rfl z_sc3 e0 rfl rfl ?_
    exact st_addNil (hk _ _ (Sto.Le.refl _) rfl)
  · intro ρ' τ pool rs hl hd hout hk
    obtain ⟨_, e1, rfl⟩ := hd 1 rfl
    refine st_call (foot := []) rfl rfl rfl rfl (evs_cons e1 rfl) rfl (callV_fn z_en93 (strconv_Itoa_ok hr3 τ (hT.up hl))) ?_
    rintro vτ4 τ4 gsτ4 hl5 ⟨rfl, rfl⟩
    exact st_addNil (hk _ _ hl5 rfl)
  · intro ρ' τ pool rs hl hd hout hk
    obtain ⟨_, e2, rfl⟩ := hd 2 rfl
    refine o_sadd rfl rfl rfl (ev_str z_str55) e2 hf6 ?_
    exact st_addNil (hk _ _ (Sto.Le.refl _) rfl)
  · intro ρ' τ pool rs hl hd hout hk
    obtain ⟨_, e3, rfl⟩ := hd 3 rfl
    refine o_sadd rfl rfl rfl e3 (ev_str z_str56) hf7 ?_
    exact st_addNil (hk _ _ (Sto.Le.refl _) rfl)
  · intro ρ' τ pool rs hl hd hout hk
    refine o_fieldAddr rfl rfl rfl z_field85_1 ((hout 1 rfl).trans rfl) ?_
    exact st_addNil (hk _ _ (Sto.Le.refl _) rfl)
  · intro ρ' τ pool rs hl hd hout hk
    obtain ⟨_, e5, rfl⟩ := hd 5 rfl
    refine o_load (j := 0) (v := .int .i64 a0.2.1) rfl rfl rfl z_sc3 e5 rfl rfl ?_
    exact st_addNil (hk _ _ (Sto.Le.refl _) rfl)
  · intro ρ' τ pool rs hl hd hout hk
    obtain ⟨_, e6, rfl⟩ := hd 6 rfl
    refine st_call (foot := []) rfl rfl rfl rfl (evs_cons e6 rfl) rfl (callV_fn z_en93 (strconv_Itoa_ok hr9 τ (hT.up hl))) ?_
    rintro vτ10 τ10 gsτ10 hl11 ⟨rfl, rfl⟩
    exact st_addNil (hk _ _ hl11 rfl)
  · intro ρ' τ pool rs hl hd hout hk
    obtain ⟨_, e4, rfl⟩ := hd 4 rfl
    obtain ⟨_, e7, rfl⟩ := hd 7 rfl
    refine o_sadd rfl rfl rfl e4 e7 hf12 ?_
    exact st_addNil (hk _ _ (Sto.Le.refl _) rfl)
  · intro ρ' τ pool rs hl hd hout hk
    obtain ⟨_, e8, rfl⟩ := hd 8 rfl
    refine o_sadd rfl rfl rfl e8 (ev_str z_str25) hf13 ?_
    exact st_addNil (hk _ _ (Sto.Le.refl _) rfl)
  · intro ρ' τ pool rs hl hd hout hk
    refine o_fieldAddr rfl rfl rfl z_field85_2 ((hout 1 rfl).trans rfl) ?_
    exact st_addNil (hk _ _ (Sto.Le.refl _) rfl)
  · intro ρ' τ pool rs hl hd hout hk
    obtain ⟨_, e10, rfl⟩ := hd 10 rfl
    refine o_load (j := 0) (v := .int .u32 a0.2.2.1) rfl rfl rfl z_sc33 e10 rfl rfl ?_
    exact st_addNil (hk _ _ (Sto.Le.refl _) rfl)
  · intro ρ' τ pool rs hl hd hout hk
    obtain ⟨_, e11, rfl⟩ := hd 11 rfl
    refine o_conv rfl rfl rfl Tryd.underlying33 Tryd.underlying209 e11 ?_
    exact st_addNil (hk _ _ (Sto.Le.refl _) rfl)
  · intro ρ' τ pool rs hl hd hout hk
    obtain ⟨_, e12, rfl⟩ := hd 12 rfl
    refine st_call (foot := []) rfl rfl rfl rfl (evs_cons e12 (evs_cons rfl rfl)) rfl (callV_fn z_en131 (strconv_FormatUint_ok hr15 τ (hT.up hl))) ?_
    rintro vτ16 τ16 gsτ16 hl17 ⟨rfl, rfl⟩
    exact st_addNil (hk _ _ hl17 rfl)
  · intro ρ' τ pool rs hl hd hout hk
    obtain ⟨_, e9, rfl⟩ := hd 9 rfl
    obtain ⟨_, e13, rfl⟩ := hd 13 rfl
    refine o_sadd rfl rfl rfl e9 e13 hf18 ?_
    exact st_addNil (hk _ _ (Sto.Le.refl _) rfl)
  · intro ρ' τ pool rs hl hd hout hk
    obtain ⟨_, e14, rfl⟩ := hd 14 rfl
    refine o_sadd rfl rfl rfl e14 (ev_str z_str25) hf19 ?_
    exact st_addNil (hk _ _ (Sto.Le.refl _) rfl)
  · intro ρ' τ pool rs hl hd hout hk
    refine o_fieldAddr rfl rfl rfl z_field85_3 ((hout 1 rfl).trans rfl) ?_
    exact st_addNil (hk _ _ (Sto.Le.refl _) rfl)
  · intro ρ' τ pool rs hl hd hout hk
    obtain ⟨_, e16, rfl⟩ := hd 16 rfl
    refine o_load (j := 0) (v := .int .i64 a0.2.2.2.1) rfl rfl rfl z_sc3 e16 rfl rfl ?_
    exact st_addNil (hk _ _ (Sto.Le.refl _) rfl)
  · intro ρ' τ pool rs hl hd hout hk
    obtain ⟨_, e17, rfl⟩ := hd 17 rfl
    refine st_call (foot := []) rfl rfl rfl rfl (evs_cons e17 rfl) rfl (callV_fn z_en93 (strconv_Itoa_ok hr21 τ (hT.up hl))) ?_
    rintro vτ22 τ22 gsτ22 hl23 ⟨rfl, rfl⟩
    exact st_addNil (hk _ _ hl23 rfl)
  · intro ρ' τ pool rs hl hd hout hk
    obtain ⟨_, e15, rfl⟩ := hd 15 rfl
    obtain ⟨_, e18, rfl⟩ := hd 18 rfl
    refine o_sadd rfl rfl rfl e15 e18 hf24 ?_
    exact st_addNil (hk _ _ (Sto.Le.refl _) rfl)
  · intro ρ' τ pool rs hl hd hout hk
    obtain ⟨_, e19, rfl⟩ := hd 19 rfl
    refine o_sadd rfl rfl rfl e19 (ev_str z_str57) hf25 ?_
    exact st_addNil (hk _ _ (Sto.Le.refl _) rfl)
  · intro ρ' τ pool rs hl hd hout hk
    refine o_fieldAddr rfl rfl rfl z_field85_4 ((hout 1 rfl).trans rfl) ?_
    exact st_addNil (hk _ _ (Sto.Le.refl _) rfl)
  · intro ρ' τ pool rs hl hd hout hk
    obtain ⟨_, e21, rfl⟩ := hd 21 rfl
    refine o_load (j := 0) (v := .int .i64 a0.2.2.2.2) rfl rfl rfl z_sc3 e21 rfl rfl ?_
    exact st_addNil (hk _ _ (Sto.Le.refl _) rfl)
  · intro ρ' τ pool rs hl hd hout hk
    obtain ⟨_, e22, rfl⟩ := hd 22 rfl
    refine st_call (foot := []) rfl rfl rfl rfl (evs_cons e22 rfl) rfl (callV_fn z_en93 (strconv_Itoa_ok hr27 τ (hT.up hl))) ?_
    rintro vτ28 τ28 gsτ28 hl29 ⟨rfl, rfl⟩
    exact st_addNil (hk _ _ hl29 rfl)
  · intro ρ' τ pool rs hl hd hout hk
    obtain ⟨_, e20, rfl⟩ := hd 20 rfl
    obtain ⟨_, e23, rfl⟩ := hd 23 rfl
    refine o_sadd rfl rfl rfl e20 e23 hf30 ?_
    exact st_addNil (hk _ _ (Sto.Le.refl _) rfl)
  intro ρ' τ31 vals hl31 hv hout
  have l24 : Eng.look ρ' 27 = some (.string ((((((((((bstr [118, 32]) ++ r2) ++ (bstr [32, 107, 32])) ++ r8) ++ (bstr [32])) ++ r14) ++ (bstr [32])) ++ r20) ++ (bstr [47])) ++ r26)) := ((hv 24 (by decide)).1).trans (congrArg some (show vals 24 = .string ((((((((((bstr [118, 32]) ++ r2) ++ (bstr [32, 107, 32])) ++ r8) ++ (bstr [32])) ++ r14) ++ (bstr [32])) ++ r20) ++ (bstr [47])) ++ r26) from Eq.symm (hv 24 (by decide)).2))
  refine st_ord [0] [[(b1, .cells [.int .i64 a0.1, .int .i64 a0.2.1, .int .u32 a0.2.2.1, .int .i64 a0.2.2.2.1, .int .i64 a0.2.2.2.2].toArray 85 (0, 0))]] rfl ?_
  refine st_env (ρ' := [(27, .string ((((((((((bstr [118, 32]) ++ r2) ++ (bstr [32, 107, 32])) ++ r8) ++ (bstr [32])) ++ r14) ++ (bstr [32])) ++ r20) ++ (bstr [47])) ++ r26)), (2, .string (bstr []))]) ⟨l24, (hout 2 rfl).trans rfl, trivial⟩ ?_
  refine o_assign rfl rfl rfl rfl ?_
  refine st_end ?_
  refine st_ord [] [] rfl ?_
  obtain rfl := Eq.symm h
  exact st_ret (gs' := []) Tryd.func92 rfl (List.Sublist.refl _) hl31 ⟨rfl, rfl⟩
theorem frame_Line_ok {a0 : (Int × Int × Int × Int × Int) × List Int} {v1 : Value} {r : ByteArray} (h : frame_Line a0 r) (σ : Sto) (hs2 : Sl (kI .u8) σ v1 a0.2) (hT : Tab Tryd.prog σ) :
    Does Tryd.prog 46 [.agg [.int .i64 a0.1.1, .int .i64 a0.1.2.1, .int .u32 a0.1.2.2.1, .int .i64 a0.1.2.2.2.1, .int .i64 a0.1.2.2.2.2, v1].toArray] σ [] (fun v τ gs => gs = [] ∧ .string r = v) := by
  refine call_of Tryd.func46 Tryd.ntmps46 rfl rfl (fun cs fs => ?_)
  refine st_seq ?_
  refine st_region ?_
  refine o_box (cs := [.int .i64 a0.1.1, .int .i64 a0.1.2.1, .int .u32 a0.1.2.2.1, .int .i64 a0.1.2.2.2.1, .int .i64 a0.1.2.2.2.2, v1]) rfl rfl rfl rfl rfl (fun b3 => ?_)
  refine o_assign rfl rfl rfl (ev_str z_str19) ?_
  refine st_end ?_
  refine st_seq ?_
  obtain ⟨r4, hr5, h⟩ := h
  obtain ⟨hf8, h⟩ := h
  obtain ⟨r9, hr10, h⟩ := h
  obtain ⟨hf13, h⟩ := h
  refine st_draw 9 (tl [fun τ v => (.pointer (some ⟨b3, 0, none⟩) : Value) = v,
    fun τ v => (.agg [.int .i64 a0.1.1, .int .i64 a0.1.2.1, .int .u32 a0.1.2.2.1, .int .i64 a0.1.2.2.2.1, .int .i64 a0.1.2.2.2.2].toArray : Value) = v,
    fun τ v => (.string r4 : Value) = v,
    fun τ v => (.string (r4 ++ (bstr [32])) : Value) = v,
    fun τ v => (.pointer (some ⟨b3, 5, none⟩) : Value) = v,
    fun τ v => (v1 : Value) = v,
    fun τ v => (.int .i64 (a0.2.length : Int) : Value) = v,
    fun τ v => (.string r9 : Value) = v,
    fun τ v => (.string ((r4 ++ (bstr [32])) ++ r9) : Value) = v]) (fun _ _ => []) z_mix rfl (tl_mono ⟨fun _ _ _ _ h => h, ⟨fun _ _ _ _ h => h, ⟨fun _ _ _ _ h => h, ⟨fun _ _ _ _ h => h, ⟨fun _ _ _ _ h => h, ⟨fun _ _ _ _ h => h, ⟨fun _ _ _ _ h => h, ⟨fun _ _ _ _ h => h, ⟨fun _ _ _ _ h => h, trivial⟩⟩⟩⟩⟩⟩⟩⟩⟩) (allB_cons (allB_cons (allB_cons (allB_cons (allB_cons (allB_cons (allB_cons (allB_cons (allB_cons allB_nil ?_) ?_) ?_) ?_) ?_) ?_) ?_) ?_) ?_) ?_
  · intro ρ' τ pool rs hl hd hout hk
    refine o_fieldAddr rfl rfl rfl z_field87_0 ((hout 1 rfl).trans rfl) ?_
    exact st_addNil (hk _ _ (Sto.Le.refl _) rfl)
  · intro ρ' τ pool rs hl hd hout hk
    obtain ⟨_, e0, rfl⟩ := hd 0 rfl
    refine o_loadN (j := 0) (vs := [.int .i64 a0.1.1, .int .i64 a0.1.2.1, .int .u32 a0.1.2.2.1, .int .i64 a0.1.2.2.2.1, .int .i64 a0.1.2.2.2.2]) rfl rfl rfl z_agg85 e0 rfl rfl ?_
    exact st_addNil (hk _ _ (Sto.Le.refl _) rfl)
  · intro ρ' τ pool rs hl hd hout hk
    obtain ⟨_, e1, rfl⟩ := hd 1 rfl
    refine st_call (foot := []) rfl rfl rfl rfl (evs_cons e1 rfl) rfl (callV_fn z_en92 (head_Line_ok hr5 τ (hT.up hl))) ?_
    rintro vτ6 τ6 gsτ6 hl7 ⟨rfl, rfl⟩
    exact st_addNil (hk _ _ hl7 rfl)
  · intro ρ' τ pool rs hl hd hout hk
    obtain ⟨_, e2, rfl⟩ := hd 2 rfl
    refine o_sadd rfl rfl rfl e2 (ev_str z_str25) hf8 ?_
    exact st_addNil (hk _ _ (Sto.Le.refl _) rfl)
  · intro ρ' τ pool rs hl hd hout hk
    refine o_fieldAddr rfl rfl rfl z_field87_1 ((hout 1 rfl).trans rfl) ?_
    exact st_addNil (hk _ _ (Sto.Le.refl _) rfl)
  · intro ρ' τ pool rs hl hd hout hk
    obtain ⟨_, e4, rfl⟩ := hd 4 rfl
    refine o_load (j := 0) (v := v1) rfl rfl rfl z_sc67 e4 rfl rfl ?_
    exact st_addNil (hk _ _ (Sto.Le.refl _) rfl)
  · intro ρ' τ pool rs hl hd hout hk
    obtain ⟨_, e5, rfl⟩ := hd 5 rfl
    refine o_lenI rfl rfl rfl z_slT67 e5 (hs2.up hl) ?_
    exact st_addNil (hk _ _ (Sto.Le.refl _) rfl)
  · intro ρ' τ pool rs hl hd hout hk
    obtain ⟨_, e6, rfl⟩ := hd 6 rfl
    refine st_call (foot := []) rfl rfl rfl rfl (evs_cons e6 rfl) rfl (callV_fn z_en93 (strconv_Itoa_ok hr10 τ (hT.up hl))) ?_
    rintro vτ11 τ11 gsτ11 hl12 ⟨rfl, rfl⟩
    exact st_addNil (hk _ _ hl12 rfl)
  · intro ρ' τ pool rs hl hd hout hk
    obtain ⟨_, e3, rfl⟩ := hd 3 rfl
    obtain ⟨_, e7, rfl⟩ := hd 7 rfl
    refine o_sadd rfl rfl rfl e3 e7 hf13 ?_
    exact st_addNil (hk _ _ (Sto.Le.refl _) rfl)
  intro ρ' τ14 vals hl14 hv hout
  have l8 : Eng.look ρ' 11 = some (.string ((r4 ++ (bstr [32])) ++ r9)) := ((hv 8 (by decide)).1).trans (congrArg some (show vals 8 = .string ((r4 ++ (bstr [32])) ++ r9) from Eq.symm (hv 8 (by decide)).2))
  refine st_ord [0] [[(b3, .cells [.int .i64 a0.1.1, .int .i64 a0.1.2.1, .int .u32 a0.1.2.2.1, .int .i64 a0.1.2.2.2.1, .int .i64 a0.1.2.2.2.2, v1].toArray 87 (0, 0))]] rfl ?_
  refine st_env (ρ' := [(11, .string ((r4 ++ (bstr [32])) ++ r9)), (2, .string (bstr []))]) ⟨l8, (hout 2 rfl).trans rfl, trivial⟩ ?_
  refine o_assign rfl rfl rfl rfl ?_
  refine st_end ?_
  refine st_ord [] [] rfl ?_
  obtain rfl := Eq.symm h
  exact st_ret (gs' := []) Tryd.func46 rfl (List.Sublist.refl _) hl14 ⟨rfl, rfl⟩
theorem law08_Cut_ok {a0 : (Int × Int × Int × Int × Int) × List Int} {v1 : Value} {r : ((Int × Int × Int × Int × Int) × List Int)} (h : law08_Cut a0 r) (σ : Sto) (hs2 : Sl (kI .u8) σ v1 a0.2) :
    Does Tryd.prog 41 [.agg [.int .i64 a0.1.1, .int .i64 a0.1.2.1, .int .u32 a0.1.2.2.1, .int .i64 a0.1.2.2.2.1, .int .i64 a0.1.2.2.2.2, v1].toArray] σ [] (fun v τ gs => ∃ (v9 : Value), gs = [] ∧ .agg [.int .i64 r.1.1, .int .i64 r.1.2.1, .int .u32 r.1.2.2.1, .int .i64 r.1.2.2.2.1, .int .i64 r.1.2.2.2.2, v9].toArray = v ∧ Sl (kI .u8) τ v9 r.2) := by
  refine call_of Tryd.func41 Tryd.ntmps41 rfl rfl (fun cs fs => ?_)
  refine st_seq ?_
  refine st_region ?_
  refine o_box (cs := [.int .i64 a0.1.1, .int .i64 a0.1.2.1, .int .u32 a0.1.2.2.1, .int .i64 a0.1.2.2.2.1, .int .i64 a0.1.2.2.2.2, v1]) rfl rfl rfl rfl rfl (fun b3 => ?_)
  refine o_alloc rfl rfl rfl z_zero87 (fun b4 => ?_)
  refine st_end ?_
  refine st_seq ?_
  refine st_region ?_
  refine o_fieldAddr rfl rfl rfl z_field87_1 rfl ?_
  refine o_load (j := 1) (v := v1) rfl rfl rfl z_sc67 rfl rfl rfl ?_
  refine o_fieldAddr rfl rfl rfl z_field87_1 rfl ?_
  refine o_load (j := 1) (v := v1) rfl rfl rfl z_sc67 rfl rfl rfl ?_
  refine o_lenI rfl rfl rfl z_slT67 rfl hs2 ?_
  refine o_min2 rfl rfl rfl rfl rfl ?_
  obtain ⟨hf5, h⟩ := h
  obtain ⟨hf6, h⟩ := h
  refine o_slice (L := 0) (H := (min (a0.2.length : Int) 250)) rfl rfl rfl z_slT67 rfl rfl hs2 rfl ⟨_, rfl⟩ (by decide) hf5 hf6 trivial (by simp) (fun v7 hs8 => ?_)
  refine o_fieldAddr rfl rfl rfl z_field87_1 rfl ?_
  refine o_store (j := 1) (vs := [v7]) (cs' := [.int .i64 a0.1.1, .int .i64 a0.1.2.1, .int .u32 a0.1.2.2.1, .int .i64 a0.1.2.2.2.1, .int .i64 a0.1.2.2.2.2, v7]) rfl rfl rfl z_size67 rfl rfl (oneL_sl hs8) (ones_cons hs8.one' ones_nil) rfl rfl rfl ?_
  refine st_gs [[(b4, .cells [.int .i64 0, .int .i64 0, .int .u32 0, .int .i64 0, .int .i64 0, .slice none 0 0].toArray 87 (0, 0))], [(b3, .cells [.int .i64 a0.1.1, .int .i64 a0.1.2.1, .int .u32 a0.1.2.2.1, .int .i64 a0.1.2.2.2.1, .int .i64 a0.1.2.2.2.2, v7].toArray 87 (0, 0))]] rfl ?_
  refine st_end ?_
  refine st_seq ?_
  refine st_region ?_
  refine o_loadN (j := 1) (vs := [.int .i64 a0.1.1, .int .i64 a0.1.2.1, .int .u32 a0.1.2.2.1, .int .i64 a0.1.2.2.2.1, .int .i64 a0.1.2.2.2.2, v7]) rfl rfl rfl z_agg87 rfl rfl rfl ?_
  refine o_store (j := 0) (vs := [.int .i64 a0.1.1, .int .i64 a0.1.2.1, .int .u32 a0.1.2.2.1, .int .i64 a0.1.2.2.2.1, .int .i64 a0.1.2.2.2.2, v7]) (cs' := [.int .i64 a0.1.1, .int .i64 a0.1.2.1, .int .u32 a0.1.2.2.1, .int .i64 a0.1.2.2.2.1, .int .i64 a0.1.2.2.2.2, v7]) rfl rfl rfl z_size87 rfl rfl rfl (ones_cons rfl (ones_cons rfl (ones_cons rfl (ones_cons rfl (ones_cons rfl (ones_cons hs8.one' ones_nil)))))) rfl rfl rfl ?_
  refine st_gs [[(b4, .cells [.int .i64 a0.1.1, .int .i64 a0.1.2.1, .int .u32 a0.1.2.2.1, .int .i64 a0.1.2.2.2.1, .int .i64 a0.1.2.2.2.2, v7].toArray 87 (0, 0))], [(b3, .cells [.int .i64 a0.1.1, .int .i64 a0.1.2.1, .int .u32 a0.1.2.2.1, .int .i64 a0.1.2.2.2.1, .int .i64 a0.1.2.2.2.2, v7].toArray 87 (0, 0))]] rfl ?_
  refine st_end ?_
  obtain rfl := Eq.symm h
  exact st_retC (gs' := []) [.agg [.int .i64 a0.1.1, .int .i64 a0.1.2.1, .int .u32 a0.1.2.2.1, .int .i64 a0.1.2.2.2.1, .int .i64 a0.1.2.2.2.2, v7].toArray] Tryd.func41 ⟨⟨_, _, _, _, rfl, mem_flat 0 rfl, fun w hw => cellOfN (vs := [.int .i64 a0.1.1, .int .i64 a0.1.2.1, .int .u32 a0.1.2.2.1, .int .i64 a0.1.2.2.2.1, .int .i64 a0.1.2.2.2.2, v7]) z_agg87 rfl w hw⟩, trivial⟩ (by simp) (Sto.Le.refl _) ⟨_, rfl, rfl, hs8⟩
theorem law08_Of_ok {a0 : (Int × Int × Int × Int × Int) × List Int} {v1 : Value} {r : ((Int × Int × Int × Int × Int) × List Int)} (h : law08_Of a0 r) (σ : Sto) (hs2 : Sl (kI .u8) σ v1 a0.2) :
    Does Tryd.prog 42 [.agg [.int .i64 a0.1.1, .int .i64 a0.1.2.1, .int .u32 a0.1.2.2.1, .int .i64 a0.1.2.2.2.1, .int .i64 a0.1.2.2.2.2, v1].toArray] σ [] (fun v τ gs => ∃ (v5 : Value), gs = [] ∧ .agg [.int .i64 r.1.1, .int .i64 r.1.2.1, .int .u32 r.1.2.2.1, .int .i64 r.1.2.2.2.1, .int .i64 r.1.2.2.2.2, v5].toArray = v ∧ Sl (kI .u8) τ v5 r.2) := by
  refine call_of Tryd.func42 Tryd.ntmps42 rfl rfl (fun cs fs => ?_)
  refine st_seq ?_
  refine st_region ?_
  refine o_box (cs := [.int .i64 a0.1.1, .int .i64 a0.1.2.1, .int .u32 a0.1.2.2.1, .int .i64 a0.1.2.2.2.1, .int .i64 a0.1.2.2.2.2, v1]) rfl rfl rfl rfl rfl (fun b3 => ?_)
  refine o_alloc rfl rfl rfl z_zero91 (fun b4 => ?_)
  refine st_end ?_
  refine st_seq ?_
  refine st_region ?_
  refine o_fieldAddr rfl rfl rfl z_field87_0 rfl ?_
  refine o_loadN (j := 1) (vs := [.int .i64 a0.1.1, .int .i64 a0.1.2.1, .int .u32 a0.1.2.2.1, .int .i64 a0.1.2.2.2.1, .int .i64 a0.1.2.2.2.2]) rfl rfl rfl z_agg85 rfl rfl rfl ?_
  refine o_fieldAddr rfl rfl rfl z_field87_1 rfl ?_
  refine o_load (j := 1) (v := v1) rfl rfl rfl z_sc67 rfl rfl rfl ?_
  refine o_build (ps := [(0, [.int .i64 a0.1.1, .int .i64 a0.1.2.1, .int .u32 a0.1.2.2.1, .int .i64 a0.1.2.2.2.1, .int .i64 a0.1.2.2.2.2]), (1, [v1])]) (cs := [.int .i64 a0.1.1, .int .i64 a0.1.2.1, .int .u32 a0.1.2.2.1, .int .i64 a0.1.2.2.2.1, .int .i64 a0.1.2.2.2.2, v1]) rfl rfl rfl z_struct91 ⟨rfl, ⟨_, rfl, rfl⟩, ⟨rfl, ⟨_, rfl, (oneL_sl hs2)⟩, trivial⟩⟩ rfl ?_
  refine o_store (j := 0) (vs := [.int .i64 a0.1.1, .int .i64 a0.1.2.1, .int .u32 a0.1.2.2.1, .int .i64 a0.1.2.2.2.1, .int .i64 a0.1.2.2.2.2, v1]) (cs' := [.int .i64 a0.1.1, .int .i64 a0.1.2.1, .int .u32 a0.1.2.2.1, .int .i64 a0.1.2.2.2.1, .int .i64 a0.1.2.2.2.2, v1]) rfl rfl rfl z_size91 rfl rfl rfl (ones_cons rfl (ones_cons rfl (ones_cons rfl (ones_cons rfl (ones_cons rfl (ones_cons hs2.one' ones_nil)))))) rfl rfl rfl ?_
  refine st_gs [[(b4, .cells [.int .i64 a0.1.1, .int .i64 a0.1.2.1, .int .u32 a0.1.2.2.1, .int .i64 a0.1.2.2.2.1, .int .i64 a0.1.2.2.2.2, v1].toArray 91 (0, 0))], [(b3, .cells [.int .i64 a0.1.1, .int .i64 a0.1.2.1, .int .u32 a0.1.2.2.1, .int .i64 a0.1.2.2.2.1, .int .i64 a0.1.2.2.2.2, v1].toArray 87 (0, 0))]] rfl ?_
  refine st_end ?_
  obtain rfl := Eq.symm h
  exact st_retC (gs' := []) [.agg [.int .i64 a0.1.1, .int .i64 a0.1.2.1, .int .u32 a0.1.2.2.1, .int .i64 a0.1.2.2.2.1, .int .i64 a0.1.2.2.2.2, v1].toArray] Tryd.func42 ⟨⟨_, _, _, _, rfl, mem_flat 0 rfl, fun w hw => cellOfN (vs := [.int .i64 a0.1.1, .int .i64 a0.1.2.1, .int .u32 a0.1.2.2.1, .int .i64 a0.1.2.2.2.1, .int .i64 a0.1.2.2.2.2, v1]) z_agg91 rfl w hw⟩, trivial⟩ (by simp) (Sto.Le.refl _) ⟨_, rfl, rfl, hs2⟩
theorem ref08_Check_ok {a0 : (Int × Int × Int × Int × Int) × List Int} {v1 : Value} {r : Int} (h : ref08_Check a0 r) (σ : Sto) (hs2 : Sl (kI .u8) σ v1 a0.2) :
    Does Tryd.prog 43 [.agg [.int .i64 a0.1.1, .int .i64 a0.1.2.1, .int .u32 a0.1.2.2.1, .int .i64 a0.1.2.2.2.1, .int .i64 a0.1.2.2.2.2, v1].toArray] σ [] (fun v τ gs => gs = [] ∧ .int .i64 r = v) := by
  refine call_of Tryd.func43 Tryd.ntmps43 rfl rfl (fun cs fs => ?_)
  refine st_seq ?_
  refine st_region ?_
  refine o_box (cs := [.int .i64 a0.1.1, .int .i64 a0.1.2.1, .int .u32 a0.1.2.2.1, .int .i64 a0.1.2.2.2.1, .int .i64 a0.1.2.2.2.2, v1]) rfl rfl rfl rfl rfl (fun b3 => ?_)
  refine o_assign rfl rfl rfl rfl ?_
  refine st_end ?_
  refine st_seq ?_
  refine st_seq ?_
  refine st_region ?_
  refine o_fieldAddr rfl rfl rfl z_field91_0 rfl ?_
  refine o_loadN (j := 0) (vs := [.int .i64 a0.1.1, .int .i64 a0.1.2.1, .int .u32 a0.1.2.2.1, .int .i64 a0.1.2.2.2.1, .int .i64 a0.1.2.2.2.2]) rfl rfl rfl z_agg89 rfl rfl rfl ?_
  obtain ⟨r4, hr5, h⟩ := h
  refine st_call (foot := []) rfl rfl rfl rfl rfl rfl (callV_fn z_en89 (ref07_Check_ok hr5 σ)) ?_
  rintro vτ6 τ6 gsτ6 hl7 ⟨rfl, rfl⟩
  refine o_ibin (v := .bool (!(decide (r4 = 0)))) rfl rfl rfl rfl rfl rfl ?_
  refine st_end ?_
  refine st_cond rfl (fun hc => ?_) (fun hc => ?_)
  · replace h := (if_pos hc).mp h
    refine st_seq ?_
    refine st_region ?_
    refine o_fieldAddr rfl rfl rfl z_field91_0 rfl ?_
    refine o_loadN (j := 0) (vs := [.int .i64 a0.1.1, .int .i64 a0.1.2.1, .int .u32 a0.1.2.2.1, .int .i64 a0.1.2.2.2.1, .int .i64 a0.1.2.2.2.2]) rfl rfl rfl z_agg89 rfl rfl rfl ?_
    obtain ⟨r8, hr9, h⟩ := h
    refine st_call (foot := []) rfl rfl rfl rfl rfl rfl (callV_fn z_en89 (ref07_Check_ok hr9 τ6)) ?_
    rintro vτ10 τ10 gsτ10 hl11 ⟨rfl, rfl⟩
    refine o_assign rfl rfl rfl rfl ?_
    refine st_end ?_
    refine st_ord [] [] rfl ?_
    obtain rfl := Eq.symm h
    exact st_ret (gs' := []) Tryd.func43 rfl (List.Sublist.refl _) (hl7.trans hl11) ⟨rfl, rfl⟩
  · replace h := (if_neg (ne_t hc)).mp h
    refine st_skip ?_
    refine st_seq ?_
    refine st_seq ?_
    refine st_region ?_
    refine o_fieldAddr rfl rfl rfl z_field91_1 rfl ?_
    refine o_load (j := 0) (v := v1) rfl rfl rfl z_sc67 rfl rfl rfl ?_
    refine o_lenI rfl rfl rfl z_slT67 rfl (hs2.up hl7) ?_
    refine o_ibin (v := .bool (decide ((a0.2.length : Int) = 0))) rfl rfl rfl rfl rfl rfl ?_
    refine st_end ?_
    refine st_cond rfl (fun hc => ?_) (fun hc => ?_)
    · replace h := (if_pos hc).mp h
      refine st_seq ?_
      refine st_region ?_
      refine o_assign rfl rfl rfl rfl ?_
      refine st_end ?_
      refine st_ord [] [] rfl ?_
      obtain rfl := Eq.symm h
      exact st_ret (gs' := []) Tryd.func43 rfl (List.Sublist.refl _) hl7 ⟨rfl, rfl⟩
    · replace h := (if_neg (ne_t hc)).mp h
      refine st_skip ?_
      refine st_seq ?_
      refine st_seq ?_
      refine st_region ?_
      refine o_fieldAddr rfl rfl rfl z_field91_1 rfl ?_
      refine o_load (j := 0) (v := v1) rfl rfl rfl z_sc67 rfl rfl rfl ?_
      refine o_lenI rfl rfl rfl z_slT67 rfl (hs2.up hl7) ?_
      refine o_ibin (v := .bool (decide (242 < (a0.2.length : Int)))) rfl rfl rfl rfl rfl rfl ?_
      refine st_end ?_
      refine st_cond rfl (fun hc => ?_) (fun hc => ?_)
      · replace h := (if_pos hc).mp h
        refine st_seq ?_
        refine st_region ?_
        refine o_assign rfl rfl rfl rfl ?_
        refine st_end ?_
        refine st_ord [] [] rfl ?_
        obtain rfl := Eq.symm h
        exact st_ret (gs' := []) Tryd.func43 rfl (List.Sublist.refl _) hl7 ⟨rfl, rfl⟩
      · replace h := (if_neg (ne_t hc)).mp h
        refine st_skip ?_
        refine st_seq ?_
        refine st_region ?_
        refine o_assign rfl rfl rfl rfl ?_
        refine st_end ?_
        refine st_ord [] [] rfl ?_
        obtain rfl := Eq.symm h
        exact st_ret (gs' := []) Tryd.func43 rfl (List.Sublist.refl _) hl7 ⟨rfl, rfl⟩
theorem frame_Codec_Check_ok {a0 : List Int} {a1 : (Int × Int × Int × Int × Int) × List Int} {bi3 : Nat} {bi1 : Nat} {v5 : Value} {r : Int} (h : frame_Codec_Check a0 a1 r) (σ : Sto) (hc4 : CelN σ ⟨bi3, 0, none⟩ (cellsN (Value.int .u32) 0 1024 a0)) (hc2 : CelN σ ⟨bi1, 0, none⟩ [.pointer (some ⟨bi3, 0, none⟩)]) (hs6 : Sl (kI .u8) σ v5 a1.2) :
    Does Tryd.prog 44 [.pointer (some ⟨bi1, 0, none⟩), .agg [.int .i64 a1.1.1, .int .i64 a1.1.2.1, .int .u32 a1.1.2.2.1, .int .i64 a1.1.2.2.2.1, .int .i64 a1.1.2.2.2.2, v5].toArray] σ [] (fun v τ gs => gs = [] ∧ .int .i64 r = v) := by
  refine call_of Tryd.func44 Tryd.ntmps44 rfl rfl (fun cs fs => ?_)
  refine st_seq ?_
  refine st_region ?_
  refine o_box (cs := [.int .i64 a1.1.1, .int .i64 a1.1.2.1, .int .u32 a1.1.2.2.1, .int .i64 a1.1.2.2.2.1, .int .i64 a1.1.2.2.2.2, v5]) rfl rfl rfl rfl rfl (fun b7 => ?_)
  refine o_assign rfl rfl rfl rfl ?_
  refine st_end ?_
  refine st_seq ?_
  refine st_seq ?_
  refine st_region ?_
  refine o_move rfl rfl rfl rfl ?_
  refine o_ptrNil (b := false) rfl rfl rfl Tryd.underlying81 rfl rfl rfl ?_
  refine st_end ?_
  refine st_condF rfl ?_
  refine st_skip ?_
  refine st_seq ?_
  refine st_region ?_
  refine o_fieldAddr rfl rfl rfl z_field87_0 rfl ?_
  refine o_loadN (j := 0) (vs := [.int .i64 a1.1.1, .int .i64 a1.1.2.1, .int .u32 a1.1.2.2.1, .int .i64 a1.1.2.2.2.1, .int .i64 a1.1.2.2.2.2]) rfl rfl rfl z_agg85 rfl rfl rfl ?_
  obtain ⟨r8, hr9, h⟩ := h
  refine st_call (foot := []) rfl rfl rfl rfl rfl rfl (callV_fn z_en90 (head_Check_ok hr9 σ)) ?_
  rintro vτ10 τ10 gsτ10 hl11 ⟨rfl, rfl⟩
  refine o_assign rfl rfl rfl rfl ?_
  refine st_end ?_
  refine st_seq ?_
  refine st_block ?_
  refine st_seq ?_
  refine st_region ?_
  refine o_move rfl rfl rfl rfl ?_
  refine o_ibin (v := .bool (!(decide (r8 = 0)))) rfl rfl rfl rfl rfl rfl ?_
  refine o_assign rfl rfl rfl rfl ?_
  refine st_end ?_
  refine st_cond rfl (fun hc => ?_) (fun hc => ?_)
  · replace h := (if_pos hc).mp h
    refine st_seq ?_
    refine st_region ?_
    refine o_move rfl rfl rfl rfl ?_
    refine o_assign rfl rfl rfl rfl ?_
    refine st_end ?_
    refine st_ord [] [] rfl ?_
    obtain rfl := Eq.symm h
    exact st_ret (gs' := []) Tryd.func44 rfl (List.Sublist.refl _) hl11 ⟨rfl, rfl⟩
  · replace h := (if_neg (ne_t hc)).mp h
    refine st_seq ?_
    refine st_region ?_
    refine o_fieldAddr rfl rfl rfl z_field87_1 rfl ?_
    refine o_load (j := 0) (v := v5) rfl rfl rfl z_sc67 rfl rfl rfl ?_
    refine o_lenI rfl rfl rfl z_slT67 rfl (hs6.up hl11) ?_
    refine o_ibin (v := .bool (decide ((a1.2.length : Int) = 0))) rfl rfl rfl rfl rfl rfl ?_
    refine o_assign rfl rfl rfl rfl ?_
    refine st_end ?_
    refine st_cond rfl (fun hc => ?_) (fun hc => ?_)
    · replace h := (if_pos hc).mp h
      refine st_seq ?_
      refine st_region ?_
      refine o_assign rfl rfl rfl rfl ?_
      refine st_end ?_
      refine st_ord [] [] rfl ?_
      obtain rfl := Eq.symm h
      exact st_ret (gs' := []) Tryd.func44 rfl (List.Sublist.refl _) hl11 ⟨rfl, rfl⟩
    · replace h := (if_neg (ne_t hc)).mp h
      refine st_seq ?_
      refine st_region ?_
      refine o_fieldAddr rfl rfl rfl z_field87_1 rfl ?_
      refine o_load (j := 0) (v := v5) rfl rfl rfl z_sc67 rfl rfl rfl ?_
      refine o_lenI rfl rfl rfl z_slT67 rfl (hs6.up hl11) ?_
      refine o_ibin (v := .bool (decide (242 < (a1.2.length : Int)))) rfl rfl rfl rfl rfl rfl ?_
      refine o_assign rfl rfl rfl rfl ?_
      refine st_end ?_
      refine st_cond rfl (fun hc => ?_) (fun hc => ?_)
      · replace h := (if_pos hc).mp h
        refine st_seq ?_
        refine st_region ?_
        refine o_assign rfl rfl rfl rfl ?_
        refine st_end ?_
        refine st_ord [] [] rfl ?_
        obtain rfl := Eq.symm h
        exact st_ret (gs' := []) Tryd.func44 rfl (List.Sublist.refl _) hl11 ⟨rfl, rfl⟩
      · replace h := (if_neg (ne_t hc)).mp h
        refine st_skip ?_
        refine st_inBlock ?_
        refine st_seq ?_
        refine st_region ?_
        refine o_assign rfl rfl rfl rfl ?_
        refine st_end ?_
        refine st_ord [] [] rfl ?_
        obtain rfl := Eq.symm h
        exact st_ret (gs' := []) Tryd.func44 rfl (List.Sublist.refl _) hl11 ⟨rfl, rfl⟩
theorem bytes_Equal_ok {a0 : List Int} {a1 : List Int} {v1 : Value} {v3 : Value} {r : Bool} (h : bytes_Equal a0 a1 r) (σ : Sto) (hs2 : Sl (kI .u8) σ v1 a0) (hs4 : Sl (kI .u8) σ v3 a1) :
    Does Tryd.prog 91 [v1, v3] σ [] (fun v τ gs => gs = [] ∧ .bool r = v) := by
  refine call_of Tryd.func91 Tryd.ntmps91 rfl rfl (fun cs fs => ?_)
  refine st_seq ?_
  refine st_region ?_
  refine o_assign rfl rfl rfl rfl ?_
  refine st_end ?_
  refine st_seq ?_
  refine st_region ?_
  refine o_move rfl rfl rfl rfl ?_
  refine o_bstr (xs := a0) rfl rfl rfl Tryd.underlying67 Tryd.underlying5 Tryd.underlying9 rfl hs2 ?_
  refine o_move rfl rfl rfl rfl ?_
  refine o_bstr (xs := a1) rfl rfl rfl Tryd.underlying67 Tryd.underlying5 Tryd.underlying9 rfl hs4 ?_
  refine o_sbin (v := .bool (decide ((bstr a0) = (bstr a1)))) rfl rfl rfl rfl rfl rfl ?_
  refine o_assign rfl rfl rfl rfl ?_
  refine st_end ?_
  obtain rfl := Eq.symm h
  exact st_ret (gs' := []) Tryd.func91 rfl (List.Sublist.refl _) (Sto.Le.refl _) ⟨rfl, rfl⟩
theorem frame_Same_ok {a0 : (Int × Int × Int × Int × Int) × List Int} {a1 : (Int × Int × Int × Int × Int) × List Int} {v1 : Value} {v3 : Value} {r : Bool} (h : frame_Same a0 a1 r) (σ : Sto) (hs2 : Sl (kI .u8) σ v1 a0.2) (hs4 : Sl (kI .u8) σ v3 a1.2) :
    Does Tryd.prog 45 [.agg [.int .i64 a0.1.1, .int .i64 a0.1.2.1, .int .u32 a0.1.2.2.1, .int .i64 a0.1.2.2.2.1, .int .i64 a0.1.2.2.2.2, v1].toArray, .agg [.int .i64 a1.1.1, .int .i64 a1.1.2.1, .int .u32 a1.1.2.2.1, .int .i64 a1.1.2.2.2.1, .int .i64 a1.1.2.2.2.2, v3].toArray] σ [] (fun v τ gs => gs = [] ∧ .bool r = v) := by
  refine call_of Tryd.func45 Tryd.ntmps45 rfl rfl (fun cs fs => ?_)
  refine st_seq ?_
  refine st_region ?_
  refine o_box (cs := [.int .i64 a0.1.1, .int .i64 a0.1.2.1, .int .u32 a0.1.2.2.1, .int .i64 a0.1.2.2.2.1, .int .i64 a0.1.2.2.2.2, v1]) rfl rfl rfl rfl rfl (fun b5 => ?_)
  refine o_box (cs := [.int .i64 a1.1.1, .int .i64 a1.1.2.1, .int .u32 a1.1.2.2.1, .int .i64 a1.1.2.2.2.1, .int .i64 a1.1.2.2.2.2, v3]) rfl rfl rfl rfl rfl (fun b6 => ?_)
  refine o_assign rfl rfl rfl rfl ?_
  refine st_end ?_
  refine st_seq ?_
  refine st_cut (fun ρ τ7 gs => ∃ (s7 : Bool), frame_Same_j1 s7 r ∧ σ.Le τ7 ∧ ρ = [(4, .bool s7)] ∧ gs = []) ?_ (fun hk7 => ?_)
  · rintro ρ7 τ7 gs7 ⟨s7, h, hl7, rfl, rfl⟩
    obtain rfl := Eq.symm h
    exact st_ret (gs' := []) Tryd.func45 rfl (List.Sublist.refl _) hl7 ⟨rfl, rfl⟩
  refine st_region ?_
  refine o_fieldAddr rfl rfl rfl z_field87_0 rfl ?_
  refine o_loadN (j := 1) (vs := [.int .i64 a0.1.1, .int .i64 a0.1.2.1, .int .u32 a0.1.2.2.1, .int .i64 a0.1.2.2.2.1, .int .i64 a0.1.2.2.2.2]) rfl rfl rfl z_agg85 rfl rfl rfl ?_
  refine o_fieldAddr rfl rfl rfl z_field87_0 rfl ?_
  refine o_loadN (j := 0) (vs := [.int .i64 a1.1.1, .int .i64 a1.1.2.1, .int .u32 a1.1.2.2.1, .int .i64 a1.1.2.2.2.1, .int .i64 a1.1.2.2.2.2]) rfl rfl rfl z_agg85 rfl rfl rfl ?_
  refine o_aggEq (b := ((decide (a0.1.1 = a1.1.1)) && ((decide (a0.1.2.1 = a1.1.2.1)) && ((decide (a0.1.2.2.1 = a1.1.2.2.1)) && ((decide (a0.1.2.2.2.1 = a1.1.2.2.2.1)) && ((decide (a0.1.2.2.2.2 = a1.1.2.2.2.2)) && true)))))) (e := ((decide (a0.1.1 = a1.1.1)) && ((decide (a0.1.2.1 = a1.1.2.1)) && ((decide (a0.1.2.2.1 = a1.1.2.2.1)) && ((decide (a0.1.2.2.2.1 = a1.1.2.2.2.1)) && ((decide (a0.1.2.2.2.2 = a1.1.2.2.2.2)) && true)))))) rfl rfl rfl z_eqg85 rfl rfl (fun w => by refine eq_struct Tryd.underlying85 z_held85 ?_; refine eqf_cons (r := (decide (a0.1.1 = a1.1.1))) (r' := ((decide (a0.1.2.1 = a1.1.2.1)) && ((decide (a0.1.2.2.1 = a1.1.2.2.1)) && ((decide (a0.1.2.2.2.1 = a1.1.2.2.2.1)) && ((decide (a0.1.2.2.2.2 = a1.1.2.2.2.2)) && true))))) rfl (part_one z_sc3 rfl) (part_one z_sc3 rfl) (by exact eq_int Tryd.underlying3 _ _) ?_; refine eqf_cons (r := (decide (a0.1.2.1 = a1.1.2.1))) (r' := ((decide (a0.1.2.2.1 = a1.1.2.2.1)) && ((decide (a0.1.2.2.2.1 = a1.1.2.2.2.1)) && ((decide (a0.1.2.2.2.2 = a1.1.2.2.2.2)) && true)))) rfl (part_one z_sc3 rfl) (part_one z_sc3 rfl) (by exact eq_int Tryd.underlying3 _ _) ?_; refine eqf_cons (r := (decide (a0.1.2.2.1 = a1.1.2.2.1))) (r' := ((decide (a0.1.2.2.2.1 = a1.1.2.2.2.1)) && ((decide (a0.1.2.2.2.2 = a1.1.2.2.2.2)) && true))) rfl (part_one z_sc33 rfl) (part_one z_sc33 rfl) (by exact eq_int Tryd.underlying33 _ _) ?_; refine eqf_cons (r := (decide (a0.1.2.2.2.1 = a1.1.2.2.2.1))) (r' := ((decide (a0.1.2.2.2.2 = a1.1.2.2.2.2)) && true)) rfl (part_one z_sc3 rfl) (part_one z_sc3 rfl) (by exact eq_int Tryd.underlying3 _ _) ?_; refine eqf_cons (r := (decide (a0.1.2.2.2.2 = a1.1.2.2.2.2))) (r' := true) rfl (part_one z_sc3 rfl) (part_one z_sc3 rfl) (by exact eq_int Tryd.underlying3 _ _) ?_; exact eqf_nil _ _ _ _) rfl ?_
  refine o_moveB rfl rfl rfl rfl (fun hc => ?_) (fun hc => ?_)
  · replace h := (if_pos hc).mp h
    refine o_fieldAddr rfl rfl rfl z_field87_1 rfl ?_
    refine o_load (j := 1) (v := v1) rfl rfl rfl z_sc67 rfl rfl rfl ?_
    refine o_fieldAddr rfl rfl rfl z_field87_1 rfl ?_
    refine o_load (j := 0) (v := v3) rfl rfl rfl z_sc67 rfl rfl rfl ?_
    obtain ⟨r8, hr9, h⟩ := h
    refine st_call (foot := []) rfl rfl rfl rfl rfl rfl (callV_fn z_en91 (bytes_Equal_ok hr9 σ hs2 hs4)) ?_
    rintro vτ10 τ10 gsτ10 hl11 ⟨rfl, rfl⟩
    refine o_pick rfl rfl rfl rfl rfl ?_
    refine o_assign rfl rfl rfl rfl ?_
    refine st_end ?_
    refine st_env (ρ' := [(4, .bool r8)]) ⟨rfl, trivial⟩ ?_
    refine st_ord [] [] rfl ?_
    exact hk7 _ _ _ ⟨r8, h, hl11, rfl, rfl⟩
  · replace h := (if_neg (ne_t hc)).mp h
    refine st_pass rfl rfl rfl rfl rfl rfl ?_
    refine st_pass rfl rfl rfl rfl rfl rfl ?_
    refine st_pass rfl rfl rfl rfl rfl rfl ?_
    refine st_pass rfl rfl rfl rfl rfl rfl ?_
    refine st_pass rfl rfl rfl rfl rfl rfl ?_
    refine o_pick rfl rfl rfl rfl rfl ?_
    refine o_assign rfl rfl rfl rfl ?_
    refine st_end ?_
    refine st_env (ρ' := [(4, .bool false)]) ⟨rfl, trivial⟩ ?_
    refine st_ord [] [] rfl ?_
    exact hk7 _ _ _ ⟨false, h, (Sto.Le.refl _), rfl, rfl⟩
theorem ref08_Same_ok {a0 : (Int × Int × Int × Int × Int) × List Int} {a1 : (Int × Int × Int × Int × Int) × List Int} {v1 : Value} {v3 : Value} {r : Bool} (h : ref08_Same a0 a1 r) (σ : Sto) (hs2 : Sl (kI .u8) σ v1 a0.2) (hs4 : Sl (kI .u8) σ v3 a1.2) :
    Does Tryd.prog 48 [.agg [.int .i64 a0.1.1, .int .i64 a0.1.2.1, .int .u32 a0.1.2.2.1, .int .i64 a0.1.2.2.2.1, .int .i64 a0.1.2.2.2.2, v1].toArray, .agg [.int .i64 a1.1.1, .int .i64 a1.1.2.1, .int .u32 a1.1.2.2.1, .int .i64 a1.1.2.2.2.1, .int .i64 a1.1.2.2.2.2, v3].toArray] σ [] (fun v τ gs => gs = [] ∧ .bool r = v) := by
  refine call_of Tryd.func48 Tryd.ntmps48 rfl rfl (fun cs fs => ?_)
  refine st_seq ?_
  refine st_region ?_
  refine o_box (cs := [.int .i64 a0.1.1, .int .i64 a0.1.2.1, .int .u32 a0.1.2.2.1, .int .i64 a0.1.2.2.2.1, .int .i64 a0.1.2.2.2.2, v1]) rfl rfl rfl rfl rfl (fun b5 => ?_)
  refine o_box (cs := [.int .i64 a1.1.1, .int .i64 a1.1.2.1, .int .u32 a1.1.2.2.1, .int .i64 a1.1.2.2.2.1, .int .i64 a1.1.2.2.2.2, v3]) rfl rfl rfl rfl rfl (fun b6 => ?_)
  refine o_assign rfl rfl rfl rfl ?_
  refine st_end ?_
  refine st_seq ?_
  refine st_cut (fun ρ τ7 gs => ∃ (s7 : Bool), ref08_Same_j1 s7 r ∧ σ.Le τ7 ∧ ρ = [(4, .bool s7)] ∧ gs = []) ?_ (fun hk7 => ?_)
  · rintro ρ7 τ7 gs7 ⟨s7, h, hl7, rfl, rfl⟩
    obtain rfl := Eq.symm h
    exact st_ret (gs' := []) Tryd.func48 rfl (List.Sublist.refl _) hl7 ⟨rfl, rfl⟩
  refine st_region ?_
  refine o_fieldAddr rfl rfl rfl z_field91_0 rfl ?_
  refine o_loadN (j := 1) (vs := [.int .i64 a0.1.1, .int .i64 a0.1.2.1, .int .u32 a0.1.2.2.1, .int .i64 a0.1.2.2.2.1, .int .i64 a0.1.2.2.2.2]) rfl rfl rfl z_agg89 rfl rfl rfl ?_
  refine o_fieldAddr rfl rfl rfl z_field91_0 rfl ?_
  refine o_loadN (j := 0) (vs := [.int .i64 a1.1.1, .int .i64 a1.1.2.1, .int .u32 a1.1.2.2.1, .int .i64 a1.1.2.2.2.1, .int .i64 a1.1.2.2.2.2]) rfl rfl rfl z_agg89 rfl rfl rfl ?_
  refine o_aggEq (b := ((decide (a0.1.1 = a1.1.1)) && ((decide (a0.1.2.1 = a1.1.2.1)) && ((decide (a0.1.2.2.1 = a1.1.2.2.1)) && ((decide (a0.1.2.2.2.1 = a1.1.2.2.2.1)) && ((decide (a0.1.2.2.2.2 = a1.1.2.2.2.2)) && true)))))) (e := ((decide (a0.1.1 = a1.1.1)) && ((decide (a0.1.2.1 = a1.1.2.1)) && ((decide (a0.1.2.2.1 = a1.1.2.2.1)) && ((decide (a0.1.2.2.2.1 = a1.1.2.2.2.1)) && ((decide (a0.1.2.2.2.2 = a1.1.2.2.2.2)) && true)))))) rfl rfl rfl z_eqg89 rfl rfl (fun w => by refine eq_struct Tryd.underlying89 z_held89 ?_; refine eqf_cons (r := (decide (a0.1.1 = a1.1.1))) (r' := ((decide (a0.1.2.1 = a1.1.2.1)) && ((decide (a0.1.2.2.1 = a1.1.2.2.1)) && ((decide (a0.1.2.2.2.1 = a1.1.2.2.2.1)) && ((decide (a0.1.2.2.2.2 = a1.1.2.2.2.2)) && true))))) rfl (part_one z_sc3 rfl) (part_one z_sc3 rfl) (by exact eq_int Tryd.underlying3 _ _) ?_; refine eqf_cons (r := (decide (a0.1.2.1 = a1.1.2.1))) (r' := ((decide (a0.1.2.2.1 = a1.1.2.2.1)) && ((decide (a0.1.2.2.2.1 = a1.1.2.2.2.1)) && ((decide (a0.1.2.2.2.2 = a1.1.2.2.2.2)) && true)))) rfl (part_one z_sc3 rfl) (part_one z_sc3 rfl) (by exact eq_int Tryd.underlying3 _ _) ?_; refine eqf_cons (r := (decide (a0.1.2.2.1 = a1.1.2.2.1))) (r' := ((decide (a0.1.2.2.2.1 = a1.1.2.2.2.1)) && ((decide (a0.1.2.2.2.2 = a1.1.2.2.2.2)) && true))) rfl (part_one z_sc33 rfl) (part_one z_sc33 rfl) (by exact eq_int Tryd.underlying33 _ _) ?_; refine eqf_cons (r := (decide (a0.1.2.2.2.1 = a1.1.2.2.2.1))) (r' := ((decide (a0.1.2.2.2.2 = a1.1.2.2.2.2)) && true)) rfl (part_one z_sc3 rfl) (part_one z_sc3 rfl) (by exact eq_int Tryd.underlying3 _ _) ?_; refine eqf_cons (r := (decide (a0.1.2.2.2.2 = a1.1.2.2.2.2))) (r' := true) rfl (part_one z_sc3 rfl) (part_one z_sc3 rfl) (by exact eq_int Tryd.underlying3 _ _) ?_; exact eqf_nil _ _ _ _) rfl ?_
  refine o_moveB rfl rfl rfl rfl (fun hc => ?_) (fun hc => ?_)
  · replace h := (if_pos hc).mp h
    refine o_fieldAddr rfl rfl rfl z_field91_1 rfl ?_
    refine o_load (j := 1) (v := v1) rfl rfl rfl z_sc67 rfl rfl rfl ?_
    refine o_fieldAddr rfl rfl rfl z_field91_1 rfl ?_
    refine o_load (j := 0) (v := v3) rfl rfl rfl z_sc67 rfl rfl rfl ?_
    obtain ⟨r8, hr9, h⟩ := h
    refine st_call (foot := []) rfl rfl rfl rfl rfl rfl (callV_fn z_en39 (ref01_Same_ok hr9 σ hs2 hs4)) ?_
    rintro vτ10 τ10 gsτ10 hl11 ⟨rfl, rfl⟩
    refine o_pick rfl rfl rfl rfl rfl ?_
    refine o_assign rfl rfl rfl rfl ?_
    refine st_end ?_
    refine st_env (ρ' := [(4, .bool r8)]) ⟨rfl, trivial⟩ ?_
    refine st_ord [] [] rfl ?_
    exact hk7 _ _ _ ⟨r8, h, hl11, rfl, rfl⟩
  · replace h := (if_neg (ne_t hc)).mp h
    refine st_pass rfl rfl rfl rfl rfl rfl ?_
    refine st_pass rfl rfl rfl rfl rfl rfl ?_
    refine st_pass rfl rfl rfl rfl rfl rfl ?_
    refine st_pass rfl rfl rfl rfl rfl rfl ?_
    refine st_pass rfl rfl rfl rfl rfl rfl ?_
    refine o_pick rfl rfl rfl rfl rfl ?_
    refine o_assign rfl rfl rfl rfl ?_
    refine st_end ?_
    refine st_env (ρ' := [(4, .bool false)]) ⟨rfl, trivial⟩ ?_
    refine st_ord [] [] rfl ?_
    exact hk7 _ _ _ ⟨false, h, (Sto.Le.refl _), rfl, rfl⟩
theorem head_Bytes_ok {a0 : Int × Int × Int × Int × Int} {r : List Int × Int} (h : head_Bytes a0 r) (σ : Sto)  :
    Does Tryd.prog 133 [.agg [.int .i64 a0.1, .int .i64 a0.2.1, .int .u32 a0.2.2.1, .int .i64 a0.2.2.2.1, .int .i64 a0.2.2.2.2].toArray] σ [] (fun v τ gs => ∃ (v13 : Value), gs = [] ∧ .tuple [v13, .int .i64 r.2].toArray = v ∧ Sl (kI .u8) τ v13 r.1 ∧ Full v13) := by
  refine call_of Tryd.func133 Tryd.ntmps133 rfl rfl (fun cs fs => ?_)
  refine st_seq ?_
  refine st_region ?_
  refine o_box (cs := [.int .i64 a0.1, .int .i64 a0.2.1, .int .u32 a0.2.2.1, .int .i64 a0.2.2.2.1, .int .i64 a0.2.2.2.2]) rfl rfl rfl rfl rfl (fun b1 => ?_)
  refine o_assign rfl rfl rfl rfl ?_
  refine o_assign rfl rfl rfl rfl ?_
  refine st_end ?_
  refine st_seq ?_
  refine st_seq ?_
  refine st_region ?_
  refine o_loadN (j := 0) (vs := [.int .i64 a0.1, .int .i64 a0.2.1, .int .u32 a0.2.2.1, .int .i64 a0.2.2.2.1, .int .i64 a0.2.2.2.2]) rfl rfl rfl z_agg85 rfl rfl rfl ?_
  obtain ⟨r2, hr3, h⟩ := h
  refine st_call (foot := []) rfl rfl rfl rfl rfl rfl (callV_fn z_en90 (head_Check_ok hr3 σ)) ?_
  rintro vτ4 τ4 gsτ4 hl5 ⟨rfl, rfl⟩
  refine o_assign rfl rfl rfl rfl ?_
  refine st_end ?_
  refine st_seq ?_
  refine st_region ?_
  refine o_move rfl rfl rfl rfl ?_
  refine o_ibin (v := .bool (!(decide (r2 = 0)))) rfl rfl rfl rfl rfl rfl ?_
  refine st_end ?_
  refine st_cond rfl (fun hc => ?_) (fun hc => ?_)
  · replace h := (if_pos hc).mp h
    refine st_seq ?_
    refine st_region ?_
    refine o_move rfl rfl rfl rfl ?_
    refine o_assign rfl rfl rfl rfl ?_
    refine o_assign rfl rfl rfl rfl ?_
    refine st_end ?_
    refine st_ord [] [] rfl ?_
    obtain rfl := Eq.symm h
    exact st_ret (gs' := []) Tryd.func133 rfl (List.Sublist.refl _) hl5 ⟨_, rfl, rfl, Sl.nil, full_nil⟩
  · replace h := (if_neg (ne_t hc)).mp h
    refine st_skip ?_
    refine st_seq ?_
    refine st_region ?_
    refine o_fieldAddr rfl rfl rfl z_field85_0 rfl ?_
    refine o_load (j := 0) (v := .int .i64 a0.1) rfl rfl rfl z_sc3 rfl rfl rfl ?_
    refine o_conv rfl rfl rfl Tryd.underlying3 Tryd.underlying5 rfl ?_
    refine o_fieldAddr rfl rfl rfl z_field85_1 rfl ?_
    refine o_load (j := 0) (v := .int .i64 a0.2.1) rfl rfl rfl z_sc3 rfl rfl rfl ?_
    refine o_conv rfl rfl rfl Tryd.underlying3 Tryd.underlying5 rfl ?_
    refine o_fieldAddr rfl rfl rfl z_field85_2 rfl ?_
    refine o_load (j := 0) (v := .int .u32 a0.2.2.1) rfl rfl rfl z_sc33 rfl rfl rfl ?_
    refine o_conv rfl rfl rfl Tryd.underlying33 Tryd.underlying5 rfl ?_
    refine o_fieldAddr rfl rfl rfl z_field85_2 rfl ?_
    refine o_load (j := 0) (v := .int .u32 a0.2.2.1) rfl rfl rfl z_sc33 rfl rfl rfl ?_
    refine o_shr rfl rfl rfl rfl rfl (by decide) ?_
    refine o_conv rfl rfl rfl Tryd.underlying33 Tryd.underlying5 rfl ?_
    refine o_fieldAddr rfl rfl rfl z_field85_2 rfl ?_
    refine o_load (j := 0) (v := .int .u32 a0.2.2.1) rfl rfl rfl z_sc33 rfl rfl rfl ?_
    refine o_shr rfl rfl rfl rfl rfl (by decide) ?_
    refine o_conv rfl rfl rfl Tryd.underlying33 Tryd.underlying5 rfl ?_
    refine o_fieldAddr rfl rfl rfl z_field85_2 rfl ?_
    refine o_load (j := 0) (v := .int .u32 a0.2.2.1) rfl rfl rfl z_sc33 rfl rfl rfl ?_
    refine o_shr rfl rfl rfl rfl rfl (by decide) ?_
    refine o_conv rfl rfl rfl Tryd.underlying33 Tryd.underlying5 rfl ?_
    refine o_fieldAddr rfl rfl rfl z_field85_3 rfl ?_
    refine o_load (j := 0) (v := .int .i64 a0.2.2.2.1) rfl rfl rfl z_sc3 rfl rfl rfl ?_
    refine o_conv rfl rfl rfl Tryd.underlying3 Tryd.underlying5 rfl ?_
    refine o_fieldAddr rfl rfl rfl z_field85_4 rfl ?_
    refine o_load (j := 0) (v := .int .i64 a0.2.2.2.2) rfl rfl rfl z_sc3 rfl rfl rfl ?_
    refine o_conv rfl rfl rfl Tryd.underlying3 Tryd.underlying5 rfl ?_
    refine o_buildA (ps := [(0, [.int .u8 (IntKind.u8.wrap a0.1)]), (1, [.int .u8 (IntKind.u8.wrap a0.2.1)]), (2, [.int .u8 (IntKind.u8.wrap a0.2.2.1)]), (3, [.int .u8 (IntKind.u8.wrap (ishr .u32 a0.2.2.1 8))]), (4, [.int .u8 (IntKind.u8.wrap (ishr .u32 a0.2.2.1 16))]), (5, [.int .u8 (IntKind.u8.wrap (ishr .u32 a0.2.2.1 24))]), (6, [.int .u8 (IntKind.u8.wrap a0.2.2.2.1)]), (7, [.int .u8 (IntKind.u8.wrap a0.2.2.2.2)])]) (cs := [.int .u8 (IntKind.u8.wrap a0.1), .int .u8 (IntKind.u8.wrap a0.2.1), .int .u8 (IntKind.u8.wrap a0.2.2.1), .int .u8 (IntKind.u8.wrap (ishr .u32 a0.2.2.1 8)), .int .u8 (IntKind.u8.wrap (ishr .u32 a0.2.2.1 16)), .int .u8 (IntKind.u8.wrap (ishr .u32 a0.2.2.1 24)), .int .u8 (IntKind.u8.wrap a0.2.2.2.1), .int .u8 (IntKind.u8.wrap a0.2.2.2.2)]) rfl rfl rfl z_arrz241 ⟨rfl, ⟨_, rfl, rfl⟩, ⟨rfl, ⟨_, rfl, rfl⟩, ⟨rfl, ⟨_, rfl, rfl⟩, ⟨rfl, ⟨_, rfl, rfl⟩, ⟨rfl, ⟨_, rfl, rfl⟩, ⟨rfl, ⟨_, rfl, rfl⟩, ⟨rfl, ⟨_, rfl, rfl⟩, ⟨rfl, ⟨_, rfl, rfl⟩, trivial⟩⟩⟩⟩⟩⟩⟩⟩ (fill_all [.int .u8 (IntKind.u8.wrap a0.1), .int .u8 (IntKind.u8.wrap a0.2.1), .int .u8 (IntKind.u8.wrap a0.2.2.1), .int .u8 (IntKind.u8.wrap (ishr .u32 a0.2.2.1 8)), .int .u8 (IntKind.u8.wrap (ishr .u32 a0.2.2.1 16)), .int .u8 (IntKind.u8.wrap (ishr .u32 a0.2.2.1 24)), .int .u8 (IntKind.u8.wrap a0.2.2.2.1), .int .u8 (IntKind.u8.wrap a0.2.2.2.2)] _ rfl) ?_
    refine o_alloc rfl rfl rfl z_zero241 (fun b6 => ?_)
    refine o_store (j := 0) (vs := [.int .u8 (IntKind.u8.wrap a0.1), .int .u8 (IntKind.u8.wrap a0.2.1), .int .u8 (IntKind.u8.wrap a0.2.2.1), .int .u8 (IntKind.u8.wrap (ishr .u32 a0.2.2.1 8)), .int .u8 (IntKind.u8.wrap (ishr .u32 a0.2.2.1 16)), .int .u8 (IntKind.u8.wrap (ishr .u32 a0.2.2.1 24)), .int .u8 (IntKind.u8.wrap a0.2.2.2.1), .int .u8 (IntKind.u8.wrap a0.2.2.2.2)]) (cs' := [.int .u8 (IntKind.u8.wrap a0.1), .int .u8 (IntKind.u8.wrap a0.2.1), .int .u8 (IntKind.u8.wrap a0.2.2.1), .int .u8 (IntKind.u8.wrap (ishr .u32 a0.2.2.1 8)), .int .u8 (IntKind.u8.wrap (ishr .u32 a0.2.2.1 16)), .int .u8 (IntKind.u8.wrap (ishr .u32 a0.2.2.1 24)), .int .u8 (IntKind.u8.wrap a0.2.2.2.1), .int .u8 (IntKind.u8.wrap a0.2.2.2.2)]) rfl rfl rfl z_size241 rfl rfl rfl (ones_cons rfl (ones_cons rfl (ones_cons rfl (ones_cons rfl (ones_cons rfl (ones_cons rfl (ones_cons rfl (ones_cons rfl ones_nil)))))))) rfl rfl rfl ?_
    refine st_gs [[(b6, .cells [.int .u8 (IntKind.u8.wrap a0.1), .int .u8 (IntKind.u8.wrap a0.2.1), .int .u8 (IntKind.u8.wrap a0.2.2.1), .int .u8 (IntKind.u8.wrap (ishr .u32 a0.2.2.1 8)), .int .u8 (IntKind.u8.wrap (ishr .u32 a0.2.2.1 16)), .int .u8 (IntKind.u8.wrap (ishr .u32 a0.2.2.1 24)), .int .u8 (IntKind.u8.wrap a0.2.2.2.1), .int .u8 (IntKind.u8.wrap a0.2.2.2.2)].toArray 241 (0, 0))], [(b1, .cells [.int .i64 a0.1, .int .i64 a0.2.1, .int .u32 a0.2.2.1, .int .i64 a0.2.2.2.1, .int .i64 a0.2.2.2.2].toArray 85 (0, 0))]] rfl ?_
    refine st_end ?_
    refine st_seq ?_
    refine st_region ?_
    refine st_freeze (fun τ7 hl8 hg9 => ?_)
    refine o_sliceF (dk := (kI .u8)) (xs := [(IntKind.u8.wrap a0.1), (IntKind.u8.wrap a0.2.1), (IntKind.u8.wrap a0.2.2.1), (IntKind.u8.wrap (ishr .u32 a0.2.2.1 8)), (IntKind.u8.wrap (ishr .u32 a0.2.2.1 16)), (IntKind.u8.wrap (ishr .u32 a0.2.2.1 24)), (IntKind.u8.wrap a0.2.2.2.1), (IntKind.u8.wrap a0.2.2.2.2)]) rfl rfl rfl z_arr241 rfl (hg9 _ List.mem_cons_self) (manyI [(IntKind.u8.wrap a0.1), (IntKind.u8.wrap a0.2.1), (IntKind.u8.wrap a0.2.2.1), (IntKind.u8.wrap (ishr .u32 a0.2.2.1 8)), (IntKind.u8.wrap (ishr .u32 a0.2.2.1 16)), (IntKind.u8.wrap (ishr .u32 a0.2.2.1 24)), (IntKind.u8.wrap a0.2.2.2.1), (IntKind.u8.wrap a0.2.2.2.2)]) rfl rfl (fun v10 hs11 hF12 => ?_)
    refine o_assign rfl rfl rfl rfl ?_
    refine o_assign rfl rfl rfl rfl ?_
    refine st_end ?_
    refine st_ord [] [] rfl ?_
    obtain rfl := Eq.symm h
    exact st_ret (gs' := []) Tryd.func133 rfl (List.Sublist.refl _) (hl5.trans hl8) ⟨_, rfl, rfl, hs11, hF12⟩
theorem crc_Seal_ok {a0 : List Int} {a1 : List Int} {bi1 : Nat} {v3 : Value} {r : List Int} (h : crc_Seal a0 a1 r) (σ : Sto) (hc2 : CelN σ ⟨bi1, 0, none⟩ (cellsN (Value.int .u32) 0 1024 a0)) (hs4 : Sl (kI .u8) σ v3 a1) :
    Does Tryd.prog 135 [.pointer (some ⟨bi1, 0, none⟩), v3] σ [] (fun v τ gs => ∃ (v55 : Value), gs = [] ∧ v55 = v ∧ Sl (kI .u8) τ v55 r) := by
  refine call_of Tryd.func135 Tryd.ntmps135 rfl rfl (fun cs fs => ?_)
  refine st_seq ?_
  refine st_region ?_
  refine o_assign rfl rfl rfl rfl ?_
  refine st_end ?_
  refine st_seq ?_
  refine st_seq ?_
  refine st_region ?_
  refine o_move rfl rfl rfl rfl ?_
  refine o_ptrNil (b := false) rfl rfl rfl Tryd.underlying149 rfl rfl rfl ?_
  refine st_end ?_
  refine st_condF rfl ?_
  refine st_skip ?_
  refine st_seq ?_
  refine st_region ?_
  refine o_move rfl rfl rfl rfl ?_
  refine o_move rfl rfl rfl rfl ?_
  refine o_lit (dk := (kSl (kI .u8))) (xs := [a1]) (ps := [(0, [v3])]) (cs := [v3]) rfl rfl rfl z_slT137 z_zero67 ⟨rfl, ⟨_, rfl, (oneL_sl hs4)⟩, trivial⟩ rfl rfl rfl rfl (Kd.Many.cons (d := (kSl (kI .u8))) (x := a1) (a := [v3]) ⟨_, rfl, hs4⟩ Kd.Many.nil) (fun v5 g6 ho7 => ?_)
  obtain ⟨r12, hr13, h⟩ := h
  refine st_freeze (fun τ8 hl9 hg10 => ?_)
  have hs11 := ho7.freeze hl9 hg10
  refine st_call (foot := []) rfl rfl rfl rfl rfl rfl (callV_fn z_en154 (crc_Table_Sum_ok hr13 τ8 (hc2.up hl9) hs11)) ?_
  rintro vτ14 τ14 gsτ14 hl15 ⟨rfl, rfl⟩
  obtain ⟨r16, hr17, h⟩ := h
  refine st_call (foot := []) rfl rfl rfl rfl rfl rfl (callV_fn z_en153 (crc_bytes_ok hr17 τ14)) ?_
  rintro vτ18 τ18 gsτ18 hl19 ⟨rfl, rfl⟩
  refine o_alloc rfl rfl rfl z_zero230 (fun b20 => ?_)
  refine o_store (j := 0) (vs := [.int .u8 (r16.getD 0 0), .int .u8 (r16.getD 1 0), .int .u8 (r16.getD 2 0), .int .u8 (r16.getD 3 0)]) (cs' := [.int .u8 (r16.getD 0 0), .int .u8 (r16.getD 1 0), .int .u8 (r16.getD 2 0), .int .u8 (r16.getD 3 0)]) rfl rfl rfl z_size230 rfl rfl rfl (ones_cons rfl (ones_cons rfl (ones_cons rfl (ones_cons rfl ones_nil)))) rfl rfl rfl ?_
  refine st_gs [[(b20, .cells [.int .u8 (r16.getD 0 0), .int .u8 (r16.getD 1 0), .int .u8 (r16.getD 2 0), .int .u8 (r16.getD 3 0)].toArray 230 (0, 0))]] rfl ?_
  refine st_end ?_
  refine st_seq ?_
  obtain ⟨hf33, h⟩ := h
  obtain ⟨hf34, h⟩ := h
  obtain ⟨hf44, h⟩ := h
  obtain ⟨hf45, h⟩ := h
  refine st_freeze (fun τ21 hl22 hg23 => ?_)
  refine st_draw41 (gs := []) (F0 := []) 5 3 (tlP [some (0, 0), none, some (0, 1), none, some (0, 2)]) (tlP [none, none, none, none, none]) (tlNN [[none, some 13, some 15, some 17]]) (tl [fun _ _ => True,
    fun τ v => (v3 : Value) = v,
    fun _ _ => True,
    fun τ v => ∃ (v38 : Value), (v38 : Value) = v ∧ Sl (kI .u8) τ v38 [(r16.getD 0 0), (r16.getD 1 0), (r16.getD 2 0), (r16.getD 3 0)],
    fun _ _ => True]) (tlII [[fun τ u F => F = [],
    fun τ u F => ∃ (v27 : Value) (g28 : Grp), F = [g28] ∧ v27 = u ∧ Ow (kI .u8) 5 τ v27 ([] : List Int) g28,
    fun τ u F => ∃ (v35 : Value) (g36 : Grp), F = [g36] ∧ v35 = u ∧ Ow (kI .u8) 5 τ v35 (([] : List Int) ++ a1) g36,
    fun τ u F => ∃ (v46 : Value) (g47 : Grp), F = [g47] ∧ v46 = u ∧ Ow (kI .u8) 5 τ v46 ((([] : List Int) ++ a1) ++ [(r16.getD 0 0), (r16.getD 1 0), (r16.getD 2 0), (r16.getD 3 0)]) g47]]) z_mix ?_ (tl_mono ⟨fun _ _ _ _ _ => trivial, ⟨fun _ _ _ _ h => h, ⟨fun _ _ _ _ _ => trivial, ⟨fun _ _ _ hl ⟨v38, hv, hs39⟩ => ⟨v38, hv, hs39.up hl⟩, ⟨fun _ _ _ _ _ => trivial, trivial⟩⟩⟩⟩⟩) (tlII_mono ⟨⟨fun _ _ _ _ hl h => h, ⟨fun _ _ _ _ hl h => (let ⟨v27, g28, hF, hU, ho29⟩ := h; ⟨v27, g28, hF, hU, ho29.up hl⟩), ⟨fun _ _ _ _ hl h => (let ⟨v35, g36, hF, hU, ho37⟩ := h; ⟨v35, g36, hF, hU, ho37.up hl⟩), ⟨fun _ _ _ _ hl h => (let ⟨v46, g47, hF, hU, ho48⟩ := h; ⟨v46, g47, hF, hU, ho48.up hl⟩), trivial⟩⟩⟩⟩, trivial⟩) ?_ ?_ ?_ (allB_cons (allB_cons (allB_cons (allB_cons (allB_cons allB_nil ?_) ?_) ?_) ?_) ?_) ?_
  · exact rfl
  · exact rfl
  · exact rfl
  · exact rfl
  · intro ρ' τ u Fv pool rs hl hI hu hd hout hw hk
    have hI0 := hI
    obtain rfl := hI
    refine st_gs [pool] rfl ?_
    refine o_lit (dk := (kI .u8)) (xs := ([] : List Int)) (ps := []) (cs := []) rfl rfl rfl z_slT67 z_zero5 trivial rfl rfl rfl rfl Kd.Many.nil (fun v24 g25 ho26 => ?_)
    exact hk _ _ [g25] (Sto.Le.refl _) trivial (by exact ⟨v24, g25, rfl, rfl, ho26⟩)
  · intro ρ' τ pool rs hl hd hout hw hk
    refine o_move rfl rfl rfl ((hout 1 rfl).trans rfl) ?_
    exact hk _ _ (Sto.Le.refl _) rfl
  · intro ρ' τ u Fv pool rs hl hI hu hd hout hw hk
    obtain ⟨_, e1, rfl⟩ := hd 1 rfl _ rfl
    obtain ⟨v27, g28, rfl, rfl, ho29⟩ := hI
    refine st_gs [g28, pool] rfl ?_
    refine o_append (dk := (kI .u8)) (xs := ([] : List Int)) (ys := a1) rfl rfl rfl rfl z_slT67 (hu (by decide) _ rfl) ho29 e1 (Sl.src (hs4.up ((((hl9.trans hl15).trans hl19).trans hl22).trans hl))) hf33 hf34 (fun v30 g31 ho32 => ?_)
    exact hk _ _ [g31] (Sto.Le.refl _) trivial (by exact ⟨v30, g31, rfl, rfl, ho32⟩)
  · intro ρ' τ pool rs hl hd hout hw hk
    refine o_sliceF (dk := (kI .u8)) (xs := [(r16.getD 0 0), (r16.getD 1 0), (r16.getD 2 0), (r16.getD 3 0)]) rfl rfl rfl z_arr230 ((hout 5 rfl).trans rfl) (hl.imm _ _ (hg23 _ List.mem_cons_self)) (manyI [(r16.getD 0 0), (r16.getD 1 0), (r16.getD 2 0), (r16.getD 3 0)]) rfl rfl (fun v38 hs39 hF40 => ?_)
    exact hk _ _ (Sto.Le.refl _) ⟨v38, rfl, hs39⟩
  · intro ρ' τ u Fv pool rs hl hI hu hd hout hw hk
    obtain ⟨_, e3, v38, rfl, hs39⟩ := hd 3 rfl _ rfl
    obtain ⟨v35, g36, rfl, rfl, ho37⟩ := hI
    refine st_gs [g36, pool] rfl ?_
    refine o_append (dk := (kI .u8)) (xs := (([] : List Int) ++ a1)) (ys := [(r16.getD 0 0), (r16.getD 1 0), (r16.getD 2 0), (r16.getD 3 0)]) rfl rfl rfl rfl z_slT67 (hu (by decide) _ rfl) ho37 e3 (Sl.src hs39) hf44 hf45 (fun v41 g42 ho43 => ?_)
    exact hk _ _ [g42] (Sto.Le.refl _) trivial (by exact ⟨v41, g42, rfl, rfl, ho43⟩)
  intro ρ' τ49 vals u Fv hl49 hI hu hv hout
  obtain ⟨v46, g47, rfl, rfl, ho48⟩ := hI
  refine st_gs [g47] rfl ?_
  refine st_env (ρ' := [(4, .slice none 0 0), (17, v46)]) ⟨(hout 4 rfl).trans rfl, (by exact hu _ rfl), trivial⟩ ?_
  refine o_assign rfl rfl rfl rfl ?_
  refine st_end ?_
  refine st_freeze (fun τ50 hl51 hg52 => ?_)
  have hs53 := ho48.freeze hl51 hg52
  obtain rfl := Eq.symm h
  exact st_ret (gs' := []) Tryd.func135 rfl (List.Sublist.refl _) (((((hl9.trans hl15).trans hl19).trans hl22).trans hl49).trans hl51) ⟨_, rfl, rfl, hs53⟩
theorem cobs_block_ok {a0 : List Int} {v1 : Value} {r : Int × Int × Bool} (h : cobs_block a0 r) (σ : Sto) (hs2 : Sl (kI .u8) σ v1 a0) :
    Does Tryd.prog 187 [v1] σ [] (fun v τ gs => gs = [] ∧ .tuple [.int .i64 r.1, .int .i64 r.2.1, .bool r.2.2].toArray = v) := by
  refine call_of Tryd.func187 Tryd.ntmps187 rfl rfl (fun cs fs => ?_)
  refine st_seq ?_
  refine st_region ?_
  refine o_assign rfl rfl rfl rfl ?_
  refine o_assign rfl rfl rfl rfl ?_
  refine o_assign rfl rfl rfl rfl ?_
  refine st_end ?_
  refine st_seq ?_
  refine st_cut (fun ρ τ3 gs => ∃ (s3 : Unit), cobs_block_j1 a0 s3 r ∧ σ.Le τ3 ∧ ρ = [(0, v1), (2, .int .i64 0), (3, .int .i64 0), (4, .bool false)] ∧ gs = []) ?_ (fun hk3 => ?_)
  · rintro ρ3 τ3 gs3 ⟨s3, h, hl3, rfl, rfl⟩
    refine st_seq ?_
    refine st_seq ?_
    refine st_region ?_
    refine o_move rfl rfl rfl rfl ?_
    refine o_lenI rfl rfl rfl z_slT67 rfl (hs2.up hl3) ?_
    refine o_ibin (v := .bool (decide (254 ≤ (a0.length : Int)))) rfl rfl rfl rfl rfl rfl ?_
    refine st_end ?_
    refine st_cond rfl (fun hc => ?_) (fun hc => ?_)
    · replace h := (if_pos hc).mp h
      refine st_seq ?_
      refine st_region ?_
      refine o_move rfl rfl rfl rfl ?_
      refine o_lenI rfl rfl rfl z_slT67 rfl (hs2.up hl3) ?_
      refine o_ibin (v := .bool (decide (254 < (a0.length : Int)))) rfl rfl rfl rfl rfl rfl ?_
      refine o_assign rfl rfl rfl rfl ?_
      refine o_assign rfl rfl rfl rfl ?_
      refine o_assign rfl rfl rfl rfl ?_
      refine st_end ?_
      obtain rfl := Eq.symm h
      exact st_ret (gs' := []) Tryd.func187 rfl (List.Sublist.refl _) hl3 ⟨rfl, rfl⟩
    · replace h := (if_neg (ne_t hc)).mp h
      refine st_skip ?_
      refine st_seq ?_
      refine st_region ?_
      refine o_move rfl rfl rfl rfl ?_
      refine o_lenI rfl rfl rfl z_slT67 rfl (hs2.up hl3) ?_
      refine o_move rfl rfl rfl rfl ?_
      refine o_lenI rfl rfl rfl z_slT67 rfl (hs2.up hl3) ?_
      refine o_assign rfl rfl rfl rfl ?_
      refine o_assign rfl rfl rfl rfl ?_
      refine o_assign rfl rfl rfl rfl ?_
      refine st_end ?_
      obtain rfl := Eq.symm h
      exact st_ret (gs' := []) Tryd.func187 rfl (List.Sublist.refl _) hl3 ⟨rfl, rfl⟩
  refine st_seq ?_
  refine st_region ?_
  refine o_move rfl rfl rfl rfl ?_
  refine o_move rfl rfl rfl rfl ?_
  refine o_lenI rfl rfl rfl z_slT67 rfl hs2 ?_
  refine o_min2 rfl rfl rfl rfl rfl ?_
  obtain ⟨hf4, h⟩ := h
  obtain ⟨hf5, h⟩ := h
  refine o_slice (L := 0) (H := (min (a0.length : Int) 254)) rfl rfl rfl z_slT67 rfl rfl hs2 rfl ⟨_, rfl⟩ (by decide) hf4 hf5 trivial (by simp) (fun v6 hs7 => ?_)
  refine o_lenI rfl rfl rfl z_slT67 rfl hs7 ?_
  refine o_move rfl rfl rfl rfl ?_
  refine st_end ?_
  obtain ⟨e8, hL8, hA8⟩ := h
  refine st_env (ρ' := [(0, v1), (2, .int .i64 0), (3, .int .i64 0), (4, .bool false), (11, v6), (12, .int .i64 (((a0.drop (0 : Int).toNat).take (((min (a0.length : Int) 254) : Int) - 0).toNat).length : Int)), (13, .int .i64 0)]) ⟨rfl, rfl, rfl, rfl, rfl, rfl, rfl, trivial⟩ ?_
  refine st_loop hL8 (fun (s8 : Int) ρ τ8 gs => σ.Le τ8 ∧ ρ = [(0, v1), (2, .int .i64 0), (3, .int .i64 0), (4, .bool false), (11, v6), (12, .int .i64 (((a0.drop (0 : Int).toNat).take (((min (a0.length : Int) 254) : Int) - 0).toNat).length : Int)), (13, .int .i64 s8)] ∧ gs = []) ⟨Sto.Le.refl _, rfl, rfl⟩ ?_
  rintro s8 o8 h he8 ρ8 τ8 gs8 ⟨hl8, rfl, rfl⟩ hn8
  refine st_seq ?_
  refine st_region ?_
  refine o_ibin (v := .bool (decide (s8 < (((a0.drop (0 : Int).toNat).take (((min (a0.length : Int) 254) : Int) - 0).toNat).length : Int)))) rfl rfl rfl rfl rfl rfl ?_
  refine st_end ?_
  refine st_seq ?_
  refine st_cond rfl (fun hc => ?_) (fun hc => ?_)
  · replace h := (if_pos hc).mp h
    refine st_skip ?_
    refine st_seq ?_
    refine st_block ?_
    refine st_seq ?_
    refine st_region ?_
    refine o_move rfl rfl rfl rfl ?_
    obtain ⟨q9, hf10, h⟩ := h
    refine o_index rfl rfl rfl z_slT67 rfl rfl (hs7.up hl8) rfl hf10 (fun b11 of12 vs hc13 hrep => ?_)
    obtain rfl := hrep
    refine o_loadI (v := .int .u8 q9) rfl rfl rfl z_sc5 rfl (hc13 0 _ rfl) ?_
    refine o_assign rfl rfl rfl rfl ?_
    refine o_assign rfl rfl rfl rfl ?_
    refine st_end ?_
    refine st_seq ?_
    refine st_region ?_
    refine o_move rfl rfl rfl rfl ?_
    refine o_ibin (v := .bool (decide (q9 = 0))) rfl rfl rfl rfl rfl rfl ?_
    refine st_end ?_
    refine st_cond rfl (fun hc => ?_) (fun hc => ?_)
    · replace h := (if_pos hc).mp h
      refine st_seq ?_
      refine st_region ?_
      refine o_move rfl rfl rfl rfl ?_
      refine o_move rfl rfl rfl rfl ?_
      refine o_ibin (v := .int .i64 (IntKind.i64.wrap (s8 + 1))) rfl rfl rfl rfl rfl rfl ?_
      refine o_assign rfl rfl rfl rfl ?_
      refine o_assign rfl rfl rfl rfl ?_
      refine o_assign rfl rfl rfl rfl ?_
      refine st_end ?_
      obtain rfl := he8 _ h
      replace h := hA8
      obtain rfl := Eq.symm h
      exact st_ret (gs' := []) Tryd.func187 rfl (List.Sublist.refl _) hl8 ⟨rfl, rfl⟩
    · replace h := (if_neg (ne_t hc)).mp h
      refine st_skip ?_
      refine st_inBlock ?_
      refine st_region ?_
      refine o_ibin (v := .int .i64 (IntKind.i64.wrap (s8 + 1))) rfl rfl rfl rfl rfl rfl ?_
      refine o_move rfl rfl rfl rfl ?_
      refine st_end ?_
      refine st_env (ρ' := [(0, v1), (2, .int .i64 0), (3, .int .i64 0), (4, .bool false), (11, v6), (12, .int .i64 (((a0.drop (0 : Int).toNat).take (((min (a0.length : Int) 254) : Int) - 0).toNat).length : Int)), (13, .int .i64 (IntKind.i64.wrap (s8 + 1)))]) ⟨rfl, rfl, rfl, rfl, rfl, rfl, rfl, trivial⟩ ?_
      exact hn8 _ _ _ _ h ⟨hl8, rfl, rfl⟩
  · replace h := (if_neg (ne_t hc)).mp h
    refine st_exit rfl ?_
    obtain rfl := he8 _ h
    replace h := hA8
    refine st_env (ρ' := [(0, v1), (2, .int .i64 0), (3, .int .i64 0), (4, .bool false)]) ⟨rfl, rfl, rfl, rfl, trivial⟩ ?_
    exact hk3 _ _ _ ⟨(), h, hl8, rfl, rfl⟩
theorem cobs_Blocks_1_ok {c0 : List Int} {bc0 : Nat} {v1 : Value} {σ0 : Sto} (hc0_0 : Cel σ0 ⟨bc0, 0, none⟩ (v1)) (hs2 : Sl (kI .u8) σ0 v1 c0) :
    IterV Tryd.prog (fun τ x vx => ∃ (v27 : Value), vx = [v27] ∧ Sl (kI .u8) τ v27 x) (.func (.func 186) #[] [.pointer (some ⟨bc0, 0, none⟩)].toArray) σ0 [] (fun (_ : Unit) _ f => f = []) (cobs_Blocks_1 c0) := by
  intro S Y I y hyc hyo hIm hY s s' o hR σ g hle hIg
  obtain ⟨r, hr0⟩ : ∃ r, r = (s', o) := ⟨_, rfl⟩
  rw [← hr0] at hR
  have h := hR
  refine callV_of (caps := [.pointer (some ⟨bc0, 0, none⟩)]) z_en186 ?_
  refine call_of Tryd.func186 Tryd.ntmps186 rfl rfl (fun cs fs => ?_)
  refine st_ord [0] [g] rfl ?_
  refine st_seq ?_
  refine st_region ?_
  refine o_loadI (v := v1) rfl rfl rfl z_sc67 rfl (Cel.up hc0_0 hle) ?_
  refine o_assign rfl rfl rfl rfl ?_
  refine o_assign rfl rfl rfl rfl ?_
  refine st_end ?_
  obtain ⟨e3, hL3, hA3⟩ := h
  refine st_env (ρ' := [(0, y), (3, v1), (4, .bool true)]) ⟨rfl, rfl, rfl, trivial⟩ ?_
  refine st_loop hL3 (fun (s3 : S × List Int × Bool) ρ τ3 gs => σ.Le τ3 ∧ ∃ (g4 : Grp) (v6 : Value), ρ = [(0, y), (3, v6), (4, .bool s3.2.2)] ∧ gs = [g4] ∧ I s3.1 τ3 g4 ∧ Sl (kI .u8) τ3 v6 s3.2.1) ⟨Sto.Le.refl _, g, _, rfl, rfl, hIg, (hs2.up hle)⟩ ?_
  rintro s3 o3 h he3 ρ3 τ3 gs3 ⟨hl3, g4, v6, rfl, rfl, hI5, hs7⟩ hn3
  refine st_seq ?_
  refine st_seq ?_
  refine st_region ?_
  refine o_move rfl rfl rfl rfl ?_
  refine st_end ?_
  refine st_cond rfl (fun hc => ?_) (fun hc => ?_)
  · replace h := (if_pos hc).mp h
    refine st_skip ?_
    refine st_block ?_
    refine st_seq ?_
    refine st_region ?_
    refine o_move rfl rfl rfl rfl ?_
    obtain ⟨r8, hr9, h⟩ := h
    refine st_call (foot := []) rfl rfl rfl rfl rfl rfl (callV_fn z_en187 (cobs_block_ok hr9 τ3 hs7)) ?_
    rintro vτ10 τ10 gsτ10 hl11 ⟨rfl, rfl⟩
    refine o_move rfl rfl rfl rfl ?_
    refine o_extract rfl rfl rfl rfl rfl ?_
    refine o_extract rfl rfl rfl rfl rfl ?_
    refine o_extract rfl rfl rfl rfl rfl ?_
    refine o_assign rfl rfl rfl rfl ?_
    refine o_assign rfl rfl rfl rfl ?_
    refine o_assign rfl rfl rfl rfl ?_
    refine st_end ?_
    refine st_seq ?_
    refine st_seq ?_
    refine st_region ?_
    refine o_move rfl rfl rfl rfl ?_
    refine o_lit (dk := (kI .u8)) (xs := ([] : List Int)) (ps := []) (cs := []) rfl rfl rfl z_slT67 z_zero5 trivial rfl rfl rfl rfl Kd.Many.nil (fun v12 g13 ho14 => ?_)
    refine o_move rfl rfl rfl rfl ?_
    refine o_move rfl rfl rfl rfl ?_
    refine o_move rfl rfl rfl rfl ?_
    obtain ⟨hf15, h⟩ := h
    obtain ⟨hf16, h⟩ := h
    obtain ⟨hf17, h⟩ := h
    obtain ⟨hf18, h⟩ := h
    refine o_slice (L := 0) (H := r8.1) rfl rfl rfl z_slT67 rfl rfl (hs7.up hl11) rfl ⟨_, rfl⟩ (by decide) hf15 hf16 ⟨_, _, rfl, hf17, hf18⟩ (by simp) (fun v19 hs20 => ?_)
    obtain ⟨hf24, h⟩ := h
    obtain ⟨hf25, h⟩ := h
    refine o_append (dk := (kI .u8)) (xs := ([] : List Int)) (ys := ((s3.2.1.drop (0 : Int).toNat).take ((r8.1 : Int) - 0).toNat)) rfl rfl rfl rfl z_slT67 rfl ho14 rfl (Sl.src hs20) hf24 hf25 (fun v21 g22 ho23 => ?_)
    obtain ⟨y30, u31, hy32, h⟩ := h
    refine st_freeze (fun τ26 hl27 hg28 => ?_)
    have hs29 := ho23.freeze hl27 hg28
    refine st_call (foot := [g4]) rfl rfl rfl rfl rfl rfl (hY (([] : List Int) ++ ((s3.2.1.drop (0 : Int).toNat).take ((r8.1 : Int) - 0).toNat)) s3.1 _ _ _ _ _ (hle.trans ((hl3.trans hl11).trans hl27)) hy32 ⟨_, rfl, hs29⟩ (hIm _ _ _ _ (hl11.trans hl27) hI5)) ?_
    rintro vτ33 τ33 gsτ33 hl34 ⟨rfl, g35, rfl, hI36⟩
    refine o_not rfl rfl rfl rfl ?_
    refine st_end ?_
    refine st_cond rfl (fun hc => ?_) (fun hc => ?_)
    · replace h := (if_pos hc).mp h
      obtain rfl := he3 _ h
      replace h := hA3
      obtain rfl := Eq.symm h
      cases hr0
      exact st_ret (gs' := [g35, []]) Tryd.func186 rfl (by simp) (((hl3.trans hl11).trans hl27).trans hl34) ⟨g35, _, rfl, hI36, rfl⟩
    · replace h := (if_neg (ne_t hc)).mp h
      refine st_skip ?_
      refine st_region ?_
      refine o_move rfl rfl rfl rfl ?_
      refine o_move rfl rfl rfl rfl ?_
      obtain ⟨hf37, h⟩ := h
      obtain ⟨hf38, h⟩ := h
      obtain ⟨hf39, h⟩ := h
      refine o_slice (L := r8.2.1) (H := (s3.2.1.length : Int)) rfl rfl rfl z_slT67 rfl rfl (hs7.up ((hl11.trans hl27).trans hl34)) ⟨_, rfl⟩ rfl hf37 hf38 hf39 trivial (by simp) (fun v40 hs41 => ?_)
      refine o_move rfl rfl rfl rfl ?_
      refine o_assign rfl rfl rfl rfl ?_
      refine o_assign rfl rfl rfl rfl ?_
      refine st_end ?_
      refine st_inBlock ?_
      refine st_env (ρ' := [(0, y), (3, v40), (4, .bool r8.2.2)]) ⟨rfl, rfl, rfl, trivial⟩ ?_
      exact hn3 _ _ _ _ h ⟨(((hl3.trans hl11).trans hl27).trans hl34), g35, _, rfl, rfl, hI36, hs41⟩
  · replace h := (if_neg (ne_t hc)).mp h
    refine st_exit rfl ?_
    obtain rfl := he3 _ h
    replace h := hA3
    obtain rfl := Eq.symm h
    cases hr0
    exact st_fin (gs' := [g4, []]) Tryd.func186 rfl (by simp) hl3 ⟨g4, _, rfl, hI5, rfl⟩
theorem cobs_Blocks_ok {a0 : List Int} {v1 : Value} {r : (((S : Type) → ((List Int) → S → Bool × S → Prop) → S → S × Unit → Prop))} (h : cobs_Blocks a0 r) (σ : Sto) (hs2 : Sl (kI .u8) σ v1 a0) :
    Does Tryd.prog 164 [v1] σ [] (fun v τ gs => ∃ (f7 : Nat) (q8 : Array Value), gs = [] ∧ .func (.func f7) #[] q8 = v ∧ IterV Tryd.prog (fun τ x vx => ∃ (v29 : Value), vx = [v29] ∧ Sl (kI .u8) τ v29 x) (.func (.func f7) #[] q8) τ [] (fun (_ : Unit) _ f => f = []) r) := by
  refine call_of Tryd.func164 Tryd.ntmps164 rfl rfl (fun cs fs => ?_)
  refine st_seq ?_
  refine st_region ?_
  refine o_box (cs := [v1]) rfl rfl rfl rfl (oneL_sl hs2) (fun b3 => ?_)
  refine o_assign rfl rfl rfl rfl ?_
  refine st_end ?_
  refine st_seq ?_
  refine st_region ?_
  refine st_freeze (fun τ4 hl5 hg6 => ?_)
  refine o_func rfl rfl rfl rfl rfl ?_
  refine o_assign rfl rfl rfl rfl ?_
  refine st_end ?_
  obtain rfl := Eq.symm h
  exact st_ret (gs' := []) Tryd.func164 rfl (List.Sublist.refl _) hl5 ⟨_, _, rfl, rfl, (cobs_Blocks_1_ok (cel_of hg6 rfl) (hs2.up hl5))⟩
theorem cobs_Encode_ok {a0 : List Int} {v1 : Value} {r : List Int} (h : cobs_Encode a0 r) (σ : Sto) (hs2 : Sl (kI .u8) σ v1 a0) :
    Does Tryd.prog 134 [v1] σ [] (fun v τ gs => ∃ (v42 : Value), gs = [] ∧ v42 = v ∧ Sl (kI .u8) τ v42 r) := by
  refine call_of Tryd.func134 Tryd.ntmps134 rfl rfl (fun cs fs => ?_)
  refine st_seq ?_
  refine st_region ?_
  refine o_assign rfl rfl rfl rfl ?_
  refine st_end ?_
  refine st_seq ?_
  refine st_region ?_
  refine o_alloc rfl rfl rfl z_zero67 (fun b3 => ?_)
  refine st_end ?_
  refine st_seq ?_
  refine st_seq ?_
  refine st_region ?_
  refine o_move rfl rfl rfl rfl ?_
  obtain ⟨r4, hr5, h⟩ := h
  refine st_call (foot := []) rfl rfl rfl rfl rfl rfl (callV_fn z_en164 (cobs_Blocks_ok hr5 σ hs2)) ?_
  rintro vτ6 τ6 gsτ6 hl7 ⟨f8, q9, rfl, rfl, hit10⟩
  refine st_end ?_
  refine st_block ?_
  obtain ⟨t11, w11, hR11, hA11⟩ := h
  refine st_env (ρ' := [(2, .slice none 0 0), (3, .pointer (some ⟨b3, 0, none⟩)), (6, .func (.func f8) #[] q9)]) ⟨rfl, rfl, rfl, trivial⟩ ?_
  refine st_addNil ?_
  refine st_ord [1, 0] [[(b3, .cells [.slice none 0 0].toArray 67 (0, 0))], []] rfl ?_
  refine st_addNil ?_
  refine st_range (B := cobs_Encode_l1) (s0 := []) ranges_fctx rfl hit10 (Sto.Le.refl _) hR11 rfl (fun _ _ _ h => by obtain ⟨_, rfl, _⟩ := h; rfl) (fun (s11 : List Int) τ11 gs => τ6.Le τ11 ∧ ∃ (v12 : Value) (g13 : Grp), gs = [[(b3, .cells [v12].toArray 67 (0, 0))], g13] ∧ Ow (kI .u8) 5 τ11 v12 s11 g13) (fun _ _ _ _ => False) (fun _ _ _ _ hl ⟨hb, v12, g13, hg, ho14⟩ => ⟨hb.trans hl, v12, g13, hg, ho14.up hl⟩) (fun _ _ _ _ _ _ h => h.elim) ⟨Sto.Le.refl _, _, _, rfl, Ow.nil⟩ ?_ ?_ ?_
  · rintro x11 s11 o11 τ11 gs11 vx11 hl11 h ⟨v15, rfl, hs16⟩ ⟨hb11, v12, g13, rfl, ho14⟩ l11 rc11 caller11 cs11 fs11
    refine st_region ?_
    refine o_assign rfl rfl rfl rfl ?_
    refine st_end ?_
    refine st_begin ?_
    refine st_block ?_
    refine st_seq ?_
    refine st_region ?_
    refine o_load (j := 0) (v := v12) rfl rfl rfl z_sc67 rfl rfl rfl ?_
    refine o_move rfl rfl rfl rfl ?_
    refine o_lenI rfl rfl rfl z_slT67 rfl hs16 ?_
    refine o_ibin (v := .int .i64 (IntKind.i64.wrap ((x11.length : Int) + 1))) rfl rfl rfl rfl rfl rfl ?_
    refine o_conv rfl rfl rfl Tryd.underlying3 Tryd.underlying5 rfl ?_
    refine o_lit (dk := (kI .u8)) (xs := [(IntKind.u8.wrap (IntKind.i64.wrap ((x11.length : Int) + 1)))]) (ps := [(0, [.int .u8 (IntKind.u8.wrap (IntKind.i64.wrap ((x11.length : Int) + 1)))])]) (cs := [.int .u8 (IntKind.u8.wrap (IntKind.i64.wrap ((x11.length : Int) + 1)))]) rfl rfl rfl z_slT67 z_zero5 ⟨rfl, ⟨_, rfl, rfl⟩, trivial⟩ rfl rfl rfl rfl (Kd.Many.cons (d := (kI .u8)) (x := (IntKind.u8.wrap (IntKind.i64.wrap ((x11.length : Int) + 1)))) (a := [.int .u8 (IntKind.u8.wrap (IntKind.i64.wrap ((x11.length : Int) + 1)))]) rfl Kd.Many.nil) (fun v17 g18 ho19 => ?_)
    obtain ⟨hf23, h⟩ := h
    obtain ⟨hf24, h⟩ := h
    refine st_ord [2, 0, 0] [g13, g18, [(b3, .cells [v12].toArray 67 (0, 0))]] rfl ?_
    refine o_append (dk := (kI .u8)) (xs := s11) (ys := [(IntKind.u8.wrap (IntKind.i64.wrap ((x11.length : Int) + 1)))]) rfl rfl rfl rfl z_slT67 rfl ho14 rfl (Ow.src (j := 1) ho19 rfl) hf23 hf24 (fun v20 g21 ho22 => ?_)
    refine o_store (j := 2) (vs := [v20]) (cs' := [v20]) rfl rfl rfl z_size67 rfl rfl (oneL_ow ho22) (ones_cons ho22.one' ones_nil) rfl rfl rfl ?_
    refine st_gs [g21, g18, [(b3, .cells [v20].toArray 67 (0, 0))]] rfl ?_
    refine st_end ?_
    refine st_region ?_
    refine o_load (j := 2) (v := v20) rfl rfl rfl z_sc67 rfl rfl rfl ?_
    refine o_move rfl rfl rfl rfl ?_
    obtain ⟨hf28, h⟩ := h
    obtain ⟨hf29, h⟩ := h
    refine o_append (dk := (kI .u8)) (xs := (s11 ++ [(IntKind.u8.wrap (IntKind.i64.wrap ((x11.length : Int) + 1)))])) (ys := x11) rfl rfl rfl rfl z_slT67 rfl ho22 rfl (Sl.src hs16) hf28 hf29 (fun v25 g26 ho27 => ?_)
    refine o_store (j := 2) (vs := [v25]) (cs' := [v25]) rfl rfl rfl z_size67 rfl rfl (oneL_ow ho27) (ones_cons ho27.one' ones_nil) rfl rfl rfl ?_
    refine st_gs [g26, g18, [(b3, .cells [v25].toArray 67 (0, 0))]] rfl ?_
    refine st_end ?_
    refine st_inBlock ?_
    refine st_ord [2, 0] [[(b3, .cells [v25].toArray 67 (0, 0))], g26] rfl ?_
    exact st_rend (List.Sublist.refl _) (Sto.Le.refl _) ⟨_, h, hl11, _, _, rfl, ho27⟩
  · rintro p30 τ31 gs11 f11 ht hl32 ⟨hb, v33, g34, rfl, ho35⟩ rfl
    subst ht
    replace h := hA11
    refine st_ord [1, 1] [[(b3, .cells [v33].toArray 67 (0, 0))], g34] rfl ?_
    refine st_inBlock ?_
    refine st_seq ?_
    refine st_region ?_
    refine o_load (j := 0) (v := v33) rfl rfl rfl z_sc67 rfl rfl rfl ?_
    refine o_assign rfl rfl rfl rfl ?_
    refine st_end ?_
    refine st_ord [1, 0] [g34, [(b3, .cells [v33].toArray 67 (0, 0))]] rfl ?_
    refine st_freeze (fun τ36 hl37 hg38 => ?_)
    have hs39 := ho35.freeze hl37 hg38
    refine st_ord [] [] rfl ?_
    obtain rfl := Eq.symm h
    exact st_ret (gs' := []) Tryd.func134 rfl (List.Sublist.refl _) ((hl7.trans hl32).trans hl37) ⟨_, rfl, rfl, hs39⟩
  · exact fun _ _ _ _ _ _ _ h => h.elim
theorem frame_Codec_Segment_ok {a0 : List Int} {a1 : (Int × Int × Int × Int × Int) × List Int} {bi3 : Nat} {bi1 : Nat} {v5 : Value} {r : List Int × Int} (h : frame_Codec_Segment a0 a1 r) (σ : Sto) (hc4 : CelN σ ⟨bi3, 0, none⟩ (cellsN (Value.int .u32) 0 1024 a0)) (hc2 : CelN σ ⟨bi1, 0, none⟩ [.pointer (some ⟨bi3, 0, none⟩)]) (hs6 : Sl (kI .u8) σ v5 a1.2) :
    Does Tryd.prog 95 [.pointer (some ⟨bi1, 0, none⟩), .agg [.int .i64 a1.1.1, .int .i64 a1.1.2.1, .int .u32 a1.1.2.2.1, .int .i64 a1.1.2.2.2.1, .int .i64 a1.1.2.2.2.2, v5].toArray] σ [] (fun v τ gs => ∃ (v38 : Value), gs = [] ∧ .tuple [v38, .int .i64 r.2].toArray = v ∧ Sl (kI .u8) τ v38 r.1) := by
  refine call_of Tryd.func95 Tryd.ntmps95 rfl rfl (fun cs fs => ?_)
  refine st_seq ?_
  refine st_region ?_
  refine o_box (cs := [.int .i64 a1.1.1, .int .i64 a1.1.2.1, .int .u32 a1.1.2.2.1, .int .i64 a1.1.2.2.2.1, .int .i64 a1.1.2.2.2.2, v5]) rfl rfl rfl rfl rfl (fun b7 => ?_)
  refine o_assign rfl rfl rfl rfl ?_
  refine o_assign rfl rfl rfl rfl ?_
  refine st_end ?_
  refine st_seq ?_
  refine st_seq ?_
  refine st_region ?_
  refine o_move rfl rfl rfl rfl ?_
  refine o_loadN (j := 0) (vs := [.int .i64 a1.1.1, .int .i64 a1.1.2.1, .int .u32 a1.1.2.2.1, .int .i64 a1.1.2.2.2.1, .int .i64 a1.1.2.2.2.2, v5]) rfl rfl rfl z_agg87 rfl rfl rfl ?_
  obtain ⟨r8, hr9, h⟩ := h
  refine st_call (foot := []) rfl rfl rfl rfl rfl rfl (callV_fn z_en44 (frame_Codec_Check_ok hr9 σ hc4 hc2 hs6)) ?_
  rintro vτ10 τ10 gsτ10 hl11 ⟨rfl, rfl⟩
  refine o_assign rfl rfl rfl rfl ?_
  refine st_end ?_
  refine st_seq ?_
  refine st_region ?_
  refine o_move rfl rfl rfl rfl ?_
  refine o_ibin (v := .bool (!(decide (r8 = 0)))) rfl rfl rfl rfl rfl rfl ?_
  refine st_end ?_
  refine st_cond rfl (fun hc => ?_) (fun hc => ?_)
  · replace h := (if_pos hc).mp h
    refine st_seq ?_
    refine st_region ?_
    refine o_move rfl rfl rfl rfl ?_
    refine o_assign rfl rfl rfl rfl ?_
    refine o_assign rfl rfl rfl rfl ?_
    refine st_end ?_
    refine st_ord [] [] rfl ?_
    obtain rfl := Eq.symm h
    exact st_ret (gs' := []) Tryd.func95 rfl (List.Sublist.refl _) hl11 ⟨_, rfl, rfl, Sl.nil⟩
  · replace h := (if_neg (ne_t hc)).mp h
    refine st_skip ?_
    refine st_seq ?_
    refine st_region ?_
    refine o_fieldAddr rfl rfl rfl z_field87_0 rfl ?_
    refine o_loadN (j := 0) (vs := [.int .i64 a1.1.1, .int .i64 a1.1.2.1, .int .u32 a1.1.2.2.1, .int .i64 a1.1.2.2.2.1, .int .i64 a1.1.2.2.2.2]) rfl rfl rfl z_agg85 rfl rfl rfl ?_
    obtain ⟨r12, hr13, h⟩ := h
    refine st_call (foot := []) rfl rfl rfl rfl rfl rfl (callV_fn z_en133 (head_Bytes_ok hr13 τ10)) ?_
    rintro vτ14 τ14 gsτ14 hl15 ⟨v16, rfl, rfl, hs17, hF18⟩
    refine o_move rfl rfl rfl rfl ?_
    refine o_extract rfl rfl rfl rfl rfl ?_
    refine o_extract rfl rfl rfl rfl rfl ?_
    refine o_assign rfl rfl rfl rfl ?_
    refine o_assign rfl rfl rfl rfl ?_
    refine st_end ?_
    refine st_seq ?_
    obtain ⟨hf21, h⟩ := h
    obtain ⟨hf22, h⟩ := h
    obtain ⟨r25, hr26, h⟩ := h
    obtain ⟨r31, hr32, h⟩ := h
    refine st_draw 12 (tl [fun τ v => (.pointer (some ⟨bi1, 0, none⟩) : Value) = v,
    fun τ v => (.pointer (some ⟨bi1, 0, none⟩) : Value) = v,
    fun τ v => (.pointer (some ⟨bi1, 0, none⟩) : Value) = v,
    fun τ v => (.pointer (some ⟨bi3, 0, none⟩) : Value) = v,
    fun τ v => (v16 : Value) = v,
    fun τ v => (.pointer (some ⟨b7, 5, none⟩) : Value) = v,
    fun τ v => (v5 : Value) = v,
    fun τ v => ∃ (v19 : Value), (v19 : Value) = v ∧ Sl (kI .u8) τ v19 (r12.1 ++ a1.2),
    fun τ v => ∃ (v29 : Value), (v29 : Value) = v ∧ Sl (kI .u8) τ v29 r25,
    fun τ v => ∃ (v35 : Value), (v35 : Value) = v ∧ Sl (kI .u8) τ v35 r31,
    fun τ v => (.int .i64 r12.2 : Value) = v,
    fun τ v => ∃ (v35 : Value), (v35 : Value) = v ∧ Sl (kI .u8) τ v35 r31]) (fun _ _ => []) z_mix rfl (tl_mono ⟨fun _ _ _ _ h => h, ⟨fun _ _ _ _ h => h, ⟨fun _ _ _ _ h => h, ⟨fun _ _ _ _ h => h, ⟨fun _ _ _ _ h => h, ⟨fun _ _ _ _ h => h, ⟨fun _ _ _ _ h => h, ⟨fun _ _ _ hl ⟨v19, hv, hs20⟩ => ⟨v19, hv, hs20.up hl⟩, ⟨fun _ _ _ hl ⟨v29, hv, hs30⟩ => ⟨v29, hv, hs30.up hl⟩, ⟨fun _ _ _ hl ⟨v35, hv, hs36⟩ => ⟨v35, hv, hs36.up hl⟩, ⟨fun _ _ _ _ h => h, ⟨fun _ _ _ hl ⟨v35, hv, hs36⟩ => ⟨v35, hv, hs36.up hl⟩, trivial⟩⟩⟩⟩⟩⟩⟩⟩⟩⟩⟩⟩) (allB_cons (allB_cons (allB_cons (allB_cons (allB_cons (allB_cons (allB_cons (allB_cons (allB_cons (allB_cons (allB_cons (allB_cons allB_nil ?_) ?_) ?_) ?_) ?_) ?_) ?_) ?_) ?_) ?_) ?_) ?_) ?_
    · intro ρ' τ pool rs hl hd hout hk
      refine o_move rfl rfl rfl ((hout 0 rfl).trans rfl) ?_
      exact st_addNil (hk _ _ (Sto.Le.refl _) rfl)
    · intro ρ' τ pool rs hl hd hout hk
      obtain ⟨_, e0, rfl⟩ := hd 0 rfl
      refine o_nilCheck rfl rfl rfl e0 ?_
      exact st_addNil (hk _ _ (Sto.Le.refl _) rfl)
    · intro ρ' τ pool rs hl hd hout hk
      obtain ⟨_, e1, rfl⟩ := hd 1 rfl
      refine o_fieldAddr rfl rfl rfl z_field152_0 e1 ?_
      exact st_addNil (hk _ _ (Sto.Le.refl _) rfl)
    · intro ρ' τ pool rs hl hd hout hk
      obtain ⟨_, e2, rfl⟩ := hd 2 rfl
      refine o_loadI (v := .pointer (some ⟨bi3, 0, none⟩)) rfl rfl rfl z_sc149 e2 ((hc2.up ((hl11.trans hl15).trans hl)) 0 _ rfl) ?_
      exact st_addNil (hk _ _ (Sto.Le.refl _) rfl)
    · intro ρ' τ pool rs hl hd hout hk
      refine o_move rfl rfl rfl ((hout 7 rfl).trans rfl) ?_
      exact st_addNil (hk _ _ (Sto.Le.refl _) rfl)
    · intro ρ' τ pool rs hl hd hout hk
      refine o_fieldAddr rfl rfl rfl z_field87_1 ((hout 3 rfl).trans rfl) ?_
      exact st_addNil (hk _ _ (Sto.Le.refl _) rfl)
    · intro ρ' τ pool rs hl hd hout hk
      obtain ⟨_, e5, rfl⟩ := hd 5 rfl
      refine o_load (j := 0) (v := v5) rfl rfl rfl z_sc67 e5 rfl rfl ?_
      exact st_addNil (hk _ _ (Sto.Le.refl _) rfl)
    · intro ρ' τ pool rs hl hd hout hk
      obtain ⟨_, e4, rfl⟩ := hd 4 rfl
      obtain ⟨_, e6, rfl⟩ := hd 6 rfl
      refine o_appendF (dk := (kI .u8)) (xs := r12.1) (ys := a1.2) rfl rfl rfl rfl z_slT67 e4 (hs17.up hl) hF18 e6 (Sl.src (hs6.up ((hl11.trans hl15).trans hl))) hf21 hf22 (fun v19 τ23 hl24 hs20 => ?_)
      exact st_addNil (hk _ _ hl24 ⟨v19, rfl, hs20⟩)
    · intro ρ' τ pool rs hl hd hout hk
      obtain ⟨_, e3, rfl⟩ := hd 3 rfl
      obtain ⟨_, e7, v19, rfl, hs20⟩ := hd 7 rfl
      refine st_call (foot := []) rfl rfl rfl rfl (evs_cons e3 (evs_cons e7 rfl)) rfl (callV_fn z_en135 (crc_Seal_ok hr26 τ (hc4.up ((hl11.trans hl15).trans hl)) hs20)) ?_
      rintro vτ27 τ27 gsτ27 hl28 ⟨v29, rfl, rfl, hs30⟩
      exact st_addNil (hk _ _ hl28 ⟨v29, rfl, hs30⟩)
    · intro ρ' τ pool rs hl hd hout hk
      obtain ⟨_, e8, v29, rfl, hs30⟩ := hd 8 rfl
      refine st_call (foot := []) rfl rfl rfl rfl (evs_cons e8 rfl) rfl (callV_fn z_en134 (cobs_Encode_ok hr32 τ hs30)) ?_
      rintro vτ33 τ33 gsτ33 hl34 ⟨v35, rfl, rfl, hs36⟩
      exact st_addNil (hk _ _ hl34 ⟨v35, rfl, hs36⟩)
    · intro ρ' τ pool rs hl hd hout hk
      refine o_move rfl rfl rfl ((hout 8 rfl).trans rfl) ?_
      exact st_addNil (hk _ _ (Sto.Le.refl _) rfl)
    · intro ρ' τ pool rs hl hd hout hk
      obtain ⟨_, e9, v35, rfl, hs36⟩ := hd 9 rfl
      refine o_assign rfl rfl rfl e9 ?_
      exact st_addNil (hk _ _ (Sto.Le.refl _) ⟨v35, rfl, hs36⟩)
    intro ρ' τ37 vals hl37 hv hout
    have l10 : Eng.look ρ' 31 = some (.int .i64 r12.2) := ((hv 10 (by decide)).1).trans (congrArg some (show vals 10 = .int .i64 r12.2 from Eq.symm (hv 10 (by decide)).2))
    obtain ⟨l11, v35, t11, hs36⟩ := hv 11 (by decide)
    replace l11 : Eng.look ρ' 4 = some (v35) := l11.trans (congrArg some (Eq.symm t11))
    refine st_ord [0] [[(b7, .cells [.int .i64 a1.1.1, .int .i64 a1.1.2.1, .int .u32 a1.1.2.2.1, .int .i64 a1.1.2.2.2.1, .int .i64 a1.1.2.2.2.2, v5].toArray 87 (0, 0))]] rfl ?_
    refine st_env (ρ' := [(31, .int .i64 r12.2), (4, v35), (5, .int .i64 0)]) ⟨l10, l11, (hout 5 rfl).trans rfl, trivial⟩ ?_
    refine o_assign rfl rfl rfl rfl ?_
    refine st_end ?_
    refine st_ord [] [] rfl ?_
    obtain rfl := Eq.symm h
    exact st_ret (gs' := []) Tryd.func95 rfl (List.Sublist.refl _) ((hl11.trans hl15).trans hl37) ⟨_, rfl, rfl, hs36⟩
theorem fence_Wrap_ok {a0 : List (List Int)} {v1 : Value} {r : List Int} (h : fence_Wrap a0 r) (σ : Sto) (hs2 : Sl (kSl (kI .u8)) σ v1 a0) :
    Does Tryd.prog 96 [v1] σ [] (fun v τ gs => ∃ (v46 : Value), gs = [] ∧ v46 = v ∧ Sl (kI .u8) τ v46 r) := by
  refine call_of Tryd.func96 Tryd.ntmps96 rfl rfl (fun cs fs => ?_)
  refine st_seq ?_
  refine st_region ?_
  refine o_assign rfl rfl rfl rfl ?_
  refine st_end ?_
  refine st_seq ?_
  refine st_region ?_
  refine o_assign rfl rfl rfl rfl ?_
  refine st_end ?_
  refine st_seq ?_
  refine st_cut (fun ρ τ3 gs => ∃ (s3 : List Int) (v4 : Value) (g5 : Grp), fence_Wrap_j1 s3 r ∧ σ.Le τ3 ∧ ρ = [(2, .slice none 0 0), (3, v4)] ∧ gs = [g5] ∧ Ow (kI .u8) 5 τ3 v4 s3 g5) ?_ (fun hk3 => ?_)
  · rintro ρ3 τ3 gs3 ⟨s3, v4, g5, h, hl3, rfl, rfl, ho6⟩
    refine st_seq ?_
    refine st_region ?_
    refine o_move rfl rfl rfl rfl ?_
    refine o_assign rfl rfl rfl rfl ?_
    refine st_end ?_
    refine st_freeze (fun τ7 hl8 hg9 => ?_)
    have hs10 := ho6.freeze hl8 hg9
    obtain rfl := Eq.symm h
    exact st_ret (gs' := []) Tryd.func96 rfl (List.Sublist.refl _) (hl3.trans hl8) ⟨_, rfl, rfl, hs10⟩
  refine st_seq ?_
  refine st_region ?_
  refine o_move rfl rfl rfl rfl ?_
  refine o_lenI rfl rfl rfl z_slT137 rfl hs2 ?_
  refine o_move rfl rfl rfl rfl ?_
  refine st_end ?_
  obtain ⟨e13, hL13, hA13⟩ := h
  refine st_env (ρ' := [(2, .slice none 0 0), (3, .slice none 0 0), (6, v1), (7, .int .i64 (a0.length : Int)), (8, .int .i64 0)]) ⟨rfl, rfl, rfl, rfl, rfl, trivial⟩ ?_
  refine st_addNil ?_
  refine st_loop hL13 (fun (s13 : List Int × Int) ρ τ13 gs => σ.Le τ13 ∧ ∃ (v14 : Value) (g15 : Grp), ρ = [(2, .slice none 0 0), (3, v14), (6, v1), (7, .int .i64 (a0.length : Int)), (8, .int .i64 s13.2)] ∧ gs = [g15] ∧ Ow (kI .u8) 5 τ13 v14 s13.1 g15) ⟨Sto.Le.refl _, _, _, rfl, rfl, Ow.nil⟩ ?_
  rintro s13 o13 h he13 ρ13 τ13 gs13 ⟨hl13, v14, g15, rfl, rfl, ho16⟩ hn13
  refine st_seq ?_
  refine st_region ?_
  refine o_ibin (v := .bool (decide (s13.2 < (a0.length : Int)))) rfl rfl rfl rfl rfl rfl ?_
  refine st_end ?_
  refine st_seq ?_
  refine st_cond rfl (fun hc => ?_) (fun hc => ?_)
  · replace h := (if_pos hc).mp h
    refine st_skip ?_
    refine st_seq ?_
    refine st_block ?_
    refine st_seq ?_
    refine st_region ?_
    obtain ⟨q17, hf18, h⟩ := h
    refine o_index rfl rfl rfl z_slT137 rfl rfl (hs2.up hl13) rfl hf18 (fun b19 of20 vs hc22 hrep => ?_)
    obtain ⟨v21, rfl, hs23⟩ := hrep
    refine o_loadI (v := v21) rfl rfl rfl z_sc67 rfl (hc22 0 _ rfl) ?_
    refine o_assign rfl rfl rfl rfl ?_
    refine st_end ?_
    refine st_seq ?_
    refine st_region ?_
    refine o_move rfl rfl rfl rfl ?_
    refine o_lit (dk := (kI .u8)) (xs := [0]) (ps := [(0, [.int .u8 0])]) (cs := [.int .u8 0]) rfl rfl rfl z_slT67 z_zero5 ⟨rfl, ⟨_, rfl, rfl⟩, trivial⟩ rfl rfl rfl rfl (Kd.Many.cons (d := (kI .u8)) (x := 0) (a := [.int .u8 0]) rfl Kd.Many.nil) (fun v24 g25 ho26 => ?_)
    obtain ⟨hf30, h⟩ := h
    obtain ⟨hf31, h⟩ := h
    refine st_ord [1, 0] [g15, g25] rfl ?_
    refine o_append (dk := (kI .u8)) (xs := s13.1) (ys := [0]) rfl rfl rfl rfl z_slT67 rfl ho16 rfl (Ow.src (j := 1) ho26 rfl) hf30 hf31 (fun v27 g28 ho29 => ?_)
    refine o_assign rfl rfl rfl rfl ?_
    refine st_end ?_
    refine st_seq ?_
    refine st_region ?_
    refine o_move rfl rfl rfl rfl ?_
    refine o_move rfl rfl rfl rfl ?_
    obtain ⟨hf35, h⟩ := h
    obtain ⟨hf36, h⟩ := h
    refine o_append (dk := (kI .u8)) (xs := (s13.1 ++ [0])) (ys := q17) rfl rfl rfl rfl z_slT67 rfl ho29 rfl (Sl.src hs23) hf35 hf36 (fun v32 g33 ho34 => ?_)
    refine o_assign rfl rfl rfl rfl ?_
    refine st_end ?_
    refine st_region ?_
    refine o_move rfl rfl rfl rfl ?_
    refine o_lit (dk := (kI .u8)) (xs := [0]) (ps := [(0, [.int .u8 0])]) (cs := [.int .u8 0]) rfl rfl rfl z_slT67 z_zero5 ⟨rfl, ⟨_, rfl, rfl⟩, trivial⟩ rfl rfl rfl rfl (Kd.Many.cons (d := (kI .u8)) (x := 0) (a := [.int .u8 0]) rfl Kd.Many.nil) (fun v37 g38 ho39 => ?_)
    obtain ⟨hf43, h⟩ := h
    obtain ⟨hf44, h⟩ := h
    refine st_ord [1, 0, 0] [g33, g38, g25] rfl ?_
    refine o_append (dk := (kI .u8)) (xs := ((s13.1 ++ [0]) ++ q17)) (ys := [0]) rfl rfl rfl rfl z_slT67 rfl ho34 rfl (Ow.src (j := 1) ho39 rfl) hf43 hf44 (fun v40 g41 ho42 => ?_)
    refine o_assign rfl rfl rfl rfl ?_
    refine st_end ?_
    refine st_inBlock ?_
    refine st_region ?_
    refine o_ibin (v := .int .i64 (IntKind.i64.wrap (s13.2 + 1))) rfl rfl rfl rfl rfl rfl ?_
    refine o_move rfl rfl rfl rfl ?_
    refine st_end ?_
    refine st_env (ρ' := [(2, .slice none 0 0), (3, v40), (6, v1), (7, .int .i64 (a0.length : Int)), (8, .int .i64 (IntKind.i64.wrap (s13.2 + 1)))]) ⟨rfl, rfl, rfl, rfl, rfl, trivial⟩ ?_
    refine st_ord [0] [g41] rfl ?_
    exact hn13 _ _ _ _ h ⟨hl13, _, _, rfl, rfl, ho42⟩
  · replace h := (if_neg (ne_t hc)).mp h
    refine st_exit rfl ?_
    obtain rfl := he13 _ h
    replace h := hA13
    refine st_env (ρ' := [(2, .slice none 0 0), (3, v14)]) ⟨rfl, rfl, trivial⟩ ?_
    exact hk3 _ _ _ ⟨s13.1, _, _, h, hl13, rfl, rfl, ho16⟩
theorem frame_Codec_Pack_ok {a0 : List Int} {a1 : List ((Int × Int × Int × Int × Int) × List Int)} {bi3 : Nat} {bi1 : Nat} {v5 : Value} {r : List Int × Int} (h : frame_Codec_Pack a0 a1 r) (σ : Sto) (hc4 : CelN σ ⟨bi3, 0, none⟩ (cellsN (Value.int .u32) 0 1024 a0)) (hc2 : CelN σ ⟨bi1, 0, none⟩ [.pointer (some ⟨bi3, 0, none⟩)]) (hs6 : Sl (kP (kP (kI .i64) (kP (kI .i64) (kP (kI .u32) (kP (kI .i64) (kI .i64))))) (kSl (kI .u8))) σ v5 a1) :
    Does Tryd.prog 49 [.pointer (some ⟨bi1, 0, none⟩), v5] σ [] (fun v τ gs => ∃ (v49 : Value), gs = [] ∧ .tuple [v49, .int .i64 r.2].toArray = v ∧ Sl (kI .u8) τ v49 r.1) := by
  refine call_of Tryd.func49 Tryd.ntmps49 rfl rfl (fun cs fs => ?_)
  refine st_seq ?_
  refine st_region ?_
  refine o_assign rfl rfl rfl rfl ?_
  refine o_assign rfl rfl rfl rfl ?_
  refine st_end ?_
  refine st_scope ?_
  refine st_seq ?_
  refine st_seq ?_
  refine st_region ?_
  refine o_move rfl rfl rfl rfl ?_
  refine o_ptrNil (b := false) rfl rfl rfl Tryd.underlying81 rfl rfl rfl ?_
  refine st_end ?_
  refine st_condF rfl ?_
  refine st_skip ?_
  refine st_seq ?_
  refine st_region ?_
  refine o_assign rfl rfl rfl rfl ?_
  refine st_end ?_
  refine st_seq ?_
  refine st_region ?_
  refine o_assign rfl rfl rfl rfl ?_
  refine st_end ?_
  refine st_seq ?_
  refine st_label ?_
  refine st_seq ?_
  refine st_cut (fun ρ τ7 gs => ∃ (s7 : List (List Int) × Int) (v8 : Value) (g9 : Grp), frame_Codec_Pack_j1 s7 r ∧ σ.Le τ7 ∧ ρ = [(4, .slice none 0 0), (5, .int .i64 0), (6, v8), (7, .int .i64 s7.2)] ∧ gs = [g9] ∧ Ow (kSl (kI .u8)) 67 τ7 v8 s7.1 g9) ?_ (fun hk7 => ?_)
  · rintro ρ7 τ7 gs7 ⟨s7, v8, g9, h, hl7, rfl, rfl, ho10⟩
    refine st_seq ?_
    refine st_region ?_
    refine o_move rfl rfl rfl rfl ?_
    obtain ⟨r16, hr17, h⟩ := h
    refine st_freeze (fun τ11 hl12 hg13 => ?_)
    have hs14 := ho10.freeze hl12 hg13
    refine st_call (foot := []) rfl rfl rfl rfl rfl rfl (callV_fn z_en96 (fence_Wrap_ok hr17 τ11 hs14)) ?_
    rintro vτ18 τ18 gsτ18 hl19 ⟨v20, rfl, rfl, hs21⟩
    refine o_move rfl rfl rfl rfl ?_
    refine o_assign rfl rfl rfl rfl ?_
    refine o_assign rfl rfl rfl rfl ?_
    refine st_end ?_
    obtain rfl := Eq.symm h
    exact st_ret (gs' := []) Tryd.func49 rfl (List.Sublist.refl _) ((hl7.trans hl12).trans hl19) ⟨_, rfl, rfl, hs21⟩
  refine st_seq ?_
  refine st_region ?_
  refine o_move rfl rfl rfl rfl ?_
  refine o_lenI rfl rfl rfl z_slT80 rfl hs6 ?_
  refine o_move rfl rfl rfl rfl ?_
  refine st_end ?_
  obtain ⟨e22, hL22, hA22⟩ := h
  refine st_env (ρ' := [(0, .pointer (some ⟨bi1, 0, none⟩)), (4, .slice none 0 0), (5, .int .i64 0), (6, .slice none 0 0), (7, .int .i64 0), (14, v5), (15, .int .i64 (a1.length : Int)), (16, .int .i64 0)]) ⟨rfl, rfl, rfl, rfl, rfl, rfl, rfl, rfl, trivial⟩ ?_
  refine st_addNil ?_
  refine st_loop hL22 (fun (s22 : List (List Int) × Int) ρ τ22 gs => σ.Le τ22 ∧ ∃ (v23 : Value) (g24 : Grp), ρ = [(0, .pointer (some ⟨bi1, 0, none⟩)), (4, .slice none 0 0), (5, .int .i64 0), (6, v23), (7, .int .i64 0), (14, v5), (15, .int .i64 (a1.length : Int)), (16, .int .i64 s22.2)] ∧ gs = [g24] ∧ Ow (kSl (kI .u8)) 67 τ22 v23 s22.1 g24) ⟨Sto.Le.refl _, _, _, rfl, rfl, Ow.nil⟩ ?_
  rintro s22 o22 h he22 ρ22 τ22 gs22 ⟨hl22, v23, g24, rfl, rfl, ho25⟩ hn22
  refine st_seq ?_
  refine st_region ?_
  refine o_ibin (v := .bool (decide (s22.2 < (a1.length : Int)))) rfl rfl rfl rfl rfl rfl ?_
  refine st_end ?_
  refine st_seq ?_
  refine st_cond rfl (fun hc => ?_) (fun hc => ?_)
  · replace h := (if_pos hc).mp h
    refine st_skip ?_
    refine st_seq ?_
    refine st_block ?_
    refine st_seq ?_
    refine st_region ?_
    obtain ⟨q26, hf27, h⟩ := h
    refine o_index rfl rfl rfl z_slT80 rfl rfl (hs6.up hl22) rfl hf27 (fun b28 of29 vs hc31 hrep => ?_)
    obtain ⟨_, _, rfl, ⟨_, _, rfl, rfl, ⟨_, _, rfl, rfl, ⟨_, _, rfl, rfl, ⟨_, _, rfl, rfl, rfl⟩⟩⟩⟩, ⟨v30, rfl, hs32⟩⟩ := hrep
    refine o_loadIN (vs := [.int .i64 q26.1.1, .int .i64 q26.1.2.1, .int .u32 q26.1.2.2.1, .int .i64 q26.1.2.2.2.1, .int .i64 q26.1.2.2.2.2, v30]) rfl rfl rfl z_agg87 rfl rfl (celn_part 0 rfl hc31) ?_
    refine o_alloc rfl rfl rfl z_zero87 (fun b33 => ?_)
    refine o_store (j := 0) (vs := [.int .i64 q26.1.1, .int .i64 q26.1.2.1, .int .u32 q26.1.2.2.1, .int .i64 q26.1.2.2.2.1, .int .i64 q26.1.2.2.2.2, v30]) (cs' := [.int .i64 q26.1.1, .int .i64 q26.1.2.1, .int .u32 q26.1.2.2.1, .int .i64 q26.1.2.2.2.1, .int .i64 q26.1.2.2.2.2, v30]) rfl rfl rfl z_size87 rfl rfl rfl (ones_cons rfl (ones_cons rfl (ones_cons rfl (ones_cons rfl (ones_cons rfl (ones_cons hs32.one' ones_nil)))))) rfl rfl rfl ?_
    refine st_gs [[(b33, .cells [.int .i64 q26.1.1, .int .i64 q26.1.2.1, .int .u32 q26.1.2.2.1, .int .i64 q26.1.2.2.2.1, .int .i64 q26.1.2.2.2.2, v30].toArray 87 (0, 0))], g24] rfl ?_
    refine st_end ?_
    refine st_seq ?_
    refine st_region ?_
    refine o_move rfl rfl rfl rfl ?_
    refine o_loadN (j := 0) (vs := [.int .i64 q26.1.1, .int .i64 q26.1.2.1, .int .u32 q26.1.2.2.1, .int .i64 q26.1.2.2.2.1, .int .i64 q26.1.2.2.2.2, v30]) rfl rfl rfl z_agg87 rfl rfl rfl ?_
    obtain ⟨r34, hr35, h⟩ := h
    refine st_call (foot := []) rfl rfl rfl rfl rfl rfl (callV_fn z_en95 (frame_Codec_Segment_ok hr35 τ22 (hc4.up hl22) (hc2.up hl22) hs32)) ?_
    rintro vτ36 τ36 gsτ36 hl37 ⟨v38, rfl, rfl, hs39⟩
    refine o_move rfl rfl rfl rfl ?_
    refine o_extract rfl rfl rfl rfl rfl ?_
    refine o_extract rfl rfl rfl rfl rfl ?_
    refine o_assign rfl rfl rfl rfl ?_
    refine o_assign rfl rfl rfl rfl ?_
    refine st_end ?_
    refine st_seq ?_
    refine st_seq ?_
    refine st_region ?_
    refine o_move rfl rfl rfl rfl ?_
    refine o_ibin (v := .bool (!(decide (r34.2 = 0)))) rfl rfl rfl rfl rfl rfl ?_
    refine st_end ?_
    refine st_cond rfl (fun hc => ?_) (fun hc => ?_)
    · replace h := (if_pos hc).mp h
      refine st_seq ?_
      refine st_region ?_
      refine o_move rfl rfl rfl rfl ?_
      refine o_assign rfl rfl rfl rfl ?_
      refine o_assign rfl rfl rfl rfl ?_
      refine st_end ?_
      refine st_exit rfl ?_
      obtain rfl := he22 _ h
      replace h := hA22
      refine st_env (ρ' := [(4, .slice none 0 0), (5, .int .i64 0), (6, .slice none 0 0), (7, .int .i64 r34.2)]) ⟨rfl, rfl, rfl, rfl, trivial⟩ ?_
      refine st_addNil ?_
      refine st_ord [0] [[]] rfl ?_
      exact hk7 _ _ _ ⟨([], r34.2), _, _, h, (hl22.trans hl37), rfl, rfl, Ow.nil⟩
    · replace h := (if_neg (ne_t hc)).mp h
      refine st_skip ?_
      refine st_region ?_
      refine o_move rfl rfl rfl rfl ?_
      refine o_move rfl rfl rfl rfl ?_
      refine o_lit (dk := (kSl (kI .u8))) (xs := [r34.1]) (ps := [(0, [v38])]) (cs := [v38]) rfl rfl rfl z_slT137 z_zero67 ⟨rfl, ⟨_, rfl, (oneL_sl hs39)⟩, trivial⟩ rfl rfl rfl rfl (Kd.Many.cons (d := (kSl (kI .u8))) (x := r34.1) (a := [v38]) ⟨_, rfl, hs39⟩ Kd.Many.nil) (fun v40 g41 ho42 => ?_)
      obtain ⟨hf46, h⟩ := h
      obtain ⟨hf47, h⟩ := h
      refine st_ord [2, 0, 0] [g24, g41, [(b33, .cells [.int .i64 q26.1.1, .int .i64 q26.1.2.1, .int .u32 q26.1.2.2.1, .int .i64 q26.1.2.2.2.1, .int .i64 q26.1.2.2.2.2, v30].toArray 87 (0, 0))]] rfl ?_
      refine o_append (dk := (kSl (kI .u8))) (xs := s22.1) (ys := [r34.1]) rfl rfl rfl rfl z_slT137 rfl (ho25.up hl37) rfl (Ow.src (j := 1) ho42 rfl) hf46 hf47 (fun v43 g44 ho45 => ?_)
      refine o_assign rfl rfl rfl rfl ?_
      refine st_end ?_
      refine st_inBlock ?_
      refine st_region ?_
      refine o_ibin (v := .int .i64 (IntKind.i64.wrap (s22.2 + 1))) rfl rfl rfl rfl rfl rfl ?_
      refine o_move rfl rfl rfl rfl ?_
      refine st_end ?_
      refine st_env (ρ' := [(0, .pointer (some ⟨bi1, 0, none⟩)), (4, .slice none 0 0), (5, .int .i64 0), (6, v43), (7, .int .i64 0), (14, v5), (15, .int .i64 (a1.length : Int)), (16, .int .i64 (IntKind.i64.wrap (s22.2 + 1)))]) ⟨rfl, rfl, rfl, rfl, rfl, rfl, rfl, rfl, trivial⟩ ?_
      refine st_ord [0] [g44] rfl ?_
      exact hn22 _ _ _ _ h ⟨(hl22.trans hl37), _, _, rfl, rfl, ho45⟩
  · replace h := (if_neg (ne_t hc)).mp h
    refine st_exit rfl ?_
    obtain rfl := he22 _ h
    replace h := hA22
    refine st_env (ρ' := [(4, .slice none 0 0), (5, .int .i64 0), (6, v23), (7, .int .i64 0)]) ⟨rfl, rfl, rfl, rfl, trivial⟩ ?_
    exact hk7 _ _ _ ⟨(s22.1, 0), _, _, h, hl22, rfl, rfl, ho25⟩
theorem cobs_Most_ok {a0 : Int} {r : Int} (h : cobs_Most a0 r) (σ : Sto)  :
    Does Tryd.prog 136 [.int .i64 a0] σ [] (fun v τ gs => gs = [] ∧ .int .i64 r = v) := by
  refine call_of Tryd.func136 Tryd.ntmps136 rfl rfl (fun cs fs => ?_)
  refine st_seq ?_
  refine st_region ?_
  refine o_assign rfl rfl rfl rfl ?_
  refine st_end ?_
  refine st_seq ?_
  refine st_seq ?_
  refine st_region ?_
  refine o_move rfl rfl rfl rfl ?_
  refine o_ibin (v := .bool (decide (a0 < 0))) rfl rfl rfl rfl rfl rfl ?_
  refine st_end ?_
  refine st_cond rfl (fun hc => ?_) (fun hc => ?_)
  · replace h := (if_pos hc).mp h
    refine st_seq ?_
    refine st_region ?_
    refine o_assign rfl rfl rfl rfl ?_
    refine st_end ?_
    obtain rfl := Eq.symm h
    exact st_ret (gs' := []) Tryd.func136 rfl (List.Sublist.refl _) (Sto.Le.refl _) ⟨rfl, rfl⟩
  · replace h := (if_neg (ne_t hc)).mp h
    refine st_skip ?_
    refine st_seq ?_
    refine st_region ?_
    refine o_move rfl rfl rfl rfl ?_
    refine o_quo rfl rfl rfl rfl rfl (by decide) ?_
    refine o_assign rfl rfl rfl rfl ?_
    refine st_end ?_
    refine st_seq ?_
    refine st_cut (fun ρ τ1 gs => ∃ (s1 : Int), cobs_Most_j1 a0 s1 r ∧ σ.Le τ1 ∧ ρ = [(0, .int .i64 a0), (2, .int .i64 0), (3, .int .i64 s1)] ∧ gs = []) ?_ (fun hk1 => ?_)
    · rintro ρ1 τ1 gs1 ⟨s1, h, hl1, rfl, rfl⟩
      refine st_seq ?_
      refine st_region ?_
      refine o_move rfl rfl rfl rfl ?_
      refine o_move rfl rfl rfl rfl ?_
      refine o_max2 rfl rfl rfl rfl rfl ?_
      refine o_ibin (v := .int .i64 (IntKind.i64.wrap (a0 + (max s1 1)))) rfl rfl rfl rfl rfl rfl ?_
      refine o_assign rfl rfl rfl rfl ?_
      refine st_end ?_
      obtain rfl := Eq.symm h
      exact st_ret (gs' := []) Tryd.func136 rfl (List.Sublist.refl _) hl1 ⟨rfl, rfl⟩
    refine st_seq ?_
    refine st_region ?_
    refine o_move rfl rfl rfl rfl ?_
    refine o_rem rfl rfl rfl rfl rfl (by decide) ?_
    refine o_ibin (v := .bool (!(decide ((a0.tmod 254) = 0)))) rfl rfl rfl rfl rfl rfl ?_
    refine st_end ?_
    refine st_cond rfl (fun hc => ?_) (fun hc => ?_)
    · replace h := (if_pos hc).mp h
      refine st_region ?_
      refine o_move rfl rfl rfl rfl ?_
      refine o_ibin (v := .int .i64 (IntKind.i64.wrap ((IntKind.i64.wrap (a0.tdiv 254)) + 1))) rfl rfl rfl rfl rfl rfl ?_
      refine o_assign rfl rfl rfl rfl ?_
      refine st_end ?_
      refine st_env (ρ' := [(0, .int .i64 a0), (2, .int .i64 0), (3, .int .i64 (IntKind.i64.wrap ((IntKind.i64.wrap (a0.tdiv 254)) + 1)))]) ⟨rfl, rfl, rfl, trivial⟩ ?_
      exact hk1 _ _ _ ⟨(IntKind.i64.wrap ((IntKind.i64.wrap (a0.tdiv 254)) + 1)), h, (Sto.Le.refl _), rfl, rfl⟩
    · replace h := (if_neg (ne_t hc)).mp h
      refine st_skip ?_
      refine st_env (ρ' := [(0, .int .i64 a0), (2, .int .i64 0), (3, .int .i64 (IntKind.i64.wrap (a0.tdiv 254)))]) ⟨rfl, rfl, rfl, trivial⟩ ?_
      exact hk1 _ _ _ ⟨(IntKind.i64.wrap (a0.tdiv 254)), h, (Sto.Le.refl _), rfl, rfl⟩
theorem frame_Wire_ok {a0 : Int} {r : Int} (h : frame_Wire a0 r) (σ : Sto)  :
    Does Tryd.prog 97 [.int .i64 a0] σ [] (fun v τ gs => gs = [] ∧ .int .i64 r = v) := by
  refine call_of Tryd.func97 Tryd.ntmps97 rfl rfl (fun cs fs => ?_)
  refine st_seq ?_
  refine st_region ?_
  refine o_assign rfl rfl rfl rfl ?_
  refine st_end ?_
  refine st_seq ?_
  refine st_seq ?_
  refine st_cut (fun ρ τ1 gs => ∃ (s1 : Bool), frame_Wire_j1 a0 s1 r ∧ σ.Le τ1 ∧ ρ = [(0, .int .i64 a0), (2, .int .i64 0), (8, .bool s1)] ∧ gs = []) ?_ (fun hk1 => ?_)
  · rintro ρ1 τ1 gs1 ⟨s1, h, hl1, rfl, rfl⟩
    refine st_cond rfl (fun hc => ?_) (fun hc => ?_)
    · replace h := (if_pos hc).mp h
      refine st_seq ?_
      refine st_region ?_
      refine o_assign rfl rfl rfl rfl ?_
      refine st_end ?_
      obtain rfl := Eq.symm h
      exact st_ret (gs' := []) Tryd.func97 rfl (List.Sublist.refl _) hl1 ⟨rfl, rfl⟩
    · replace h := (if_neg (ne_t hc)).mp h
      refine st_skip ?_
      refine st_seq ?_
      refine st_region ?_
      refine o_move rfl rfl rfl rfl ?_
      refine o_ibin (v := .int .i64 (IntKind.i64.wrap (a0 + 12))) rfl rfl rfl rfl rfl rfl ?_
      obtain ⟨r2, hr3, h⟩ := h
      refine st_call (foot := []) rfl rfl rfl rfl rfl rfl (callV_fn z_en136 (cobs_Most_ok hr3 τ1)) ?_
      rintro vτ4 τ4 gsτ4 hl5 ⟨rfl, rfl⟩
      refine o_ibin (v := .int .i64 (IntKind.i64.wrap (r2 + 2))) rfl rfl rfl rfl rfl rfl ?_
      refine o_assign rfl rfl rfl rfl ?_
      refine st_end ?_
      obtain rfl := Eq.symm h
      exact st_ret (gs' := []) Tryd.func97 rfl (List.Sublist.refl _) (hl1.trans hl5) ⟨rfl, rfl⟩
  refine st_region ?_
  refine o_move rfl rfl rfl rfl ?_
  refine o_ibin (v := .bool (decide (a0 < 1))) rfl rfl rfl rfl rfl rfl ?_
  refine o_moveB rfl rfl rfl rfl (fun hc => ?_) (fun hc => ?_)
  · replace h := (if_pos hc).mp h
    refine st_pass rfl rfl rfl rfl rfl rfl ?_
    refine st_pass rfl rfl rfl rfl rfl rfl ?_
    refine o_pick rfl rfl rfl rfl rfl ?_
    refine st_end ?_
    refine st_env (ρ' := [(0, .int .i64 a0), (2, .int .i64 0), (8, .bool true)]) ⟨rfl, rfl, rfl, trivial⟩ ?_
    exact hk1 _ _ _ ⟨true, h, (Sto.Le.refl _), rfl, rfl⟩
  · replace h := (if_neg (ne_t hc)).mp h
    refine o_move rfl rfl rfl rfl ?_
    refine o_ibin (v := .bool (decide (242 < a0))) rfl rfl rfl rfl rfl rfl ?_
    refine o_pick rfl rfl rfl rfl rfl ?_
    refine st_end ?_
    refine st_env (ρ' := [(0, .int .i64 a0), (2, .int .i64 0), (8, .bool (decide (242 < a0)))]) ⟨rfl, rfl, rfl, trivial⟩ ?_
    exact hk1 _ _ _ ⟨(decide (242 < a0)), h, (Sto.Le.refl _), rfl, rfl⟩
theorem frame_Room_ok {a0 : Int} {r : Int} (h : frame_Room a0 r) (σ : Sto)  :
    Does Tryd.prog 98 [.int .i64 a0] σ [] (fun v τ gs => gs = [] ∧ .int .i64 r = v) := by
  refine call_of Tryd.func98 Tryd.ntmps98 rfl rfl (fun cs fs => ?_)
  refine st_seq ?_
  refine st_region ?_
  refine o_assign rfl rfl rfl rfl ?_
  refine st_end ?_
  refine st_seq ?_
  refine st_seq ?_
  refine st_region ?_
  refine o_move rfl rfl rfl rfl ?_
  obtain ⟨r1, hr2, h⟩ := h
  refine st_call (foot := []) rfl rfl rfl rfl rfl rfl (callV_fn z_en97 (frame_Wire_ok hr2 σ)) ?_
  rintro vτ3 τ3 gsτ3 hl4 ⟨rfl, rfl⟩
  refine o_ibin (v := .bool (decide (a0 < r1))) rfl rfl rfl rfl rfl rfl ?_
  refine st_end ?_
  refine st_cond rfl (fun hc => ?_) (fun hc => ?_)
  · replace h := (if_pos hc).mp h
    refine st_seq ?_
    refine st_region ?_
    refine o_assign rfl rfl rfl rfl ?_
    refine st_end ?_
    obtain rfl := Eq.symm h
    exact st_ret (gs' := []) Tryd.func98 rfl (List.Sublist.refl _) hl4 ⟨rfl, rfl⟩
  · replace h := (if_neg (ne_t hc)).mp h
    refine st_skip ?_
    refine st_seq ?_
    refine st_region ?_
    refine o_move rfl rfl rfl rfl ?_
    obtain ⟨r5, hr6, h⟩ := h
    refine st_call (foot := []) rfl rfl rfl rfl rfl rfl (callV_fn z_en97 (frame_Wire_ok hr6 τ3)) ?_
    rintro vτ7 τ7 gsτ7 hl8 ⟨rfl, rfl⟩
    refine o_ibin (v := .int .i64 (IntKind.i64.wrap (a0 - r5))) rfl rfl rfl rfl rfl rfl ?_
    refine o_ibin (v := .int .i64 (IntKind.i64.wrap ((IntKind.i64.wrap (a0 - r5)) + 1))) rfl rfl rfl rfl rfl rfl ?_
    refine o_min2 rfl rfl rfl rfl rfl ?_
    refine o_assign rfl rfl rfl rfl ?_
    refine st_end ?_
    obtain rfl := Eq.symm h
    exact st_ret (gs' := []) Tryd.func98 rfl (List.Sublist.refl _) (hl4.trans hl8) ⟨rfl, rfl⟩
theorem law08_known_ok  {r : Bool} (h : law08_known r) (σ : Sto)  :
    Does Tryd.prog 50 [] σ [] (fun v τ gs => gs = [] ∧ .bool r = v) := by
  refine call_of Tryd.func50 Tryd.ntmps50 rfl rfl (fun cs fs => ?_)
  refine st_seq ?_
  refine st_region ?_
  refine o_assign rfl rfl rfl rfl ?_
  refine st_end ?_
  refine st_seq ?_
  refine st_region ?_
  refine o_build (ps := [(0, [.int .i64 1]), (1, [.int .i64 1]), (4, [.int .i64 1])]) (cs := [.int .i64 1, .int .i64 1, .int .u32 0, .int .i64 0, .int .i64 1]) rfl rfl rfl z_struct85 ⟨rfl, ⟨_, rfl, rfl⟩, ⟨rfl, ⟨_, rfl, rfl⟩, ⟨rfl, ⟨_, rfl, rfl⟩, trivial⟩⟩⟩ rfl ?_
  refine o_lit (dk := (kI .u8)) (xs := [7]) (ps := [(0, [.int .u8 7])]) (cs := [.int .u8 7]) rfl rfl rfl z_slT67 z_zero5 ⟨rfl, ⟨_, rfl, rfl⟩, trivial⟩ rfl rfl rfl rfl (Kd.Many.cons (d := (kI .u8)) (x := 7) (a := [.int .u8 7]) rfl Kd.Many.nil) (fun v1 g2 ho3 => ?_)
  refine o_build (ps := [(0, [.int .i64 1, .int .i64 1, .int .u32 0, .int .i64 0, .int .i64 1]), (1, [v1])]) (cs := [.int .i64 1, .int .i64 1, .int .u32 0, .int .i64 0, .int .i64 1, v1]) rfl rfl rfl z_struct87 ⟨rfl, ⟨_, rfl, rfl⟩, ⟨rfl, ⟨_, rfl, (oneL_ow ho3)⟩, trivial⟩⟩ rfl ?_
  refine o_alloc rfl rfl rfl z_zero87 (fun b4 => ?_)
  refine o_store (j := 0) (vs := [.int .i64 1, .int .i64 1, .int .u32 0, .int .i64 0, .int .i64 1, v1]) (cs' := [.int .i64 1, .int .i64 1, .int .u32 0, .int .i64 0, .int .i64 1, v1]) rfl rfl rfl z_size87 rfl rfl rfl (ones_cons rfl (ones_cons rfl (ones_cons rfl (ones_cons rfl (ones_cons rfl (ones_cons ho3.one' ones_nil)))))) rfl rfl rfl ?_
  refine st_gs [[(b4, .cells [.int .i64 1, .int .i64 1, .int .u32 0, .int .i64 0, .int .i64 1, v1].toArray 87 (0, 0))], g2] rfl ?_
  refine st_end ?_
  refine st_seq ?_
  obtain ⟨r11, hr12, h⟩ := h
  obtain ⟨r26, hr27, h⟩ := h
  refine st_ord [1, 0] [g2, [(b4, .cells [.int .i64 1, .int .i64 1, .int .u32 0, .int .i64 0, .int .i64 1, v1].toArray 87 (0, 0))]] rfl ?_
  refine st_freeze (fun τ5 hl6 hg7 => ?_)
  have hs8 := ho3.freeze hl6 hg7
  refine st_draw 8 (tl [fun τ v => ∃ (bi17 : Nat) (bi15 : Nat), (.pointer (some ⟨bi15, 0, none⟩) : Value) = v ∧ CelN τ ⟨bi17, 0, none⟩ (cellsN (Value.int .u32) 0 1024 r11) ∧ CelN τ ⟨bi15, 0, none⟩ [.pointer (some ⟨bi17, 0, none⟩)],
    fun τ v => (.agg [.int .i64 1, .int .i64 1, .int .u32 0, .int .i64 0, .int .i64 1, v1].toArray : Value) = v,
    fun τ v => ∃ (v19 : Value), (v19 : Value) = v ∧ Sl (kP (kP (kI .i64) (kP (kI .i64) (kP (kI .u32) (kP (kI .i64) (kI .i64))))) (kSl (kI .u8))) τ v19 [((1, 1, 0, 0, 1), [7])],
    fun τ v => ∃ (v30 : Value), (.tuple [v30, .int .i64 r26.2].toArray : Value) = v ∧ Sl (kI .u8) τ v30 r26.1,
    fun τ v => ∃ (v30 : Value), (.tuple [v30, .int .i64 r26.2].toArray : Value) = v ∧ Sl (kI .u8) τ v30 r26.1,
    fun τ v => ∃ (v30 : Value), (v30 : Value) = v ∧ Sl (kI .u8) τ v30 r26.1,
    fun τ v => (.int .i64 r26.2 : Value) = v,
    fun τ v => ∃ (v30 : Value), (v30 : Value) = v ∧ Sl (kI .u8) τ v30 r26.1]) (fun _ _ => []) z_mix rfl (tl_mono ⟨fun _ _ _ hl ⟨bi17, bi15, hv, hc18, hc16⟩ => ⟨bi17, bi15, hv, hc18.up hl, hc16.up hl⟩, ⟨fun _ _ _ _ h => h, ⟨fun _ _ _ hl ⟨v19, hv, hs25⟩ => ⟨v19, hv, hs25.up hl⟩, ⟨fun _ _ _ hl ⟨v30, hv, hs31⟩ => ⟨v30, hv, hs31.up hl⟩, ⟨fun _ _ _ hl ⟨v30, hv, hs31⟩ => ⟨v30, hv, hs31.up hl⟩, ⟨fun _ _ _ hl ⟨v30, hv, hs31⟩ => ⟨v30, hv, hs31.up hl⟩, ⟨fun _ _ _ _ h => h, ⟨fun _ _ _ hl ⟨v30, hv, hs31⟩ => ⟨v30, hv, hs31.up hl⟩, trivial⟩⟩⟩⟩⟩⟩⟩⟩) (allB_cons (allB_cons (allB_cons (allB_cons (allB_cons (allB_cons (allB_cons (allB_cons allB_nil ?_) ?_) ?_) ?_) ?_) ?_) ?_) ?_) ?_
  · intro ρ' τ pool rs hl hd hout hk
    refine st_call (foot := []) rfl rfl rfl rfl rfl rfl (callV_fn z_en40 (frame_New_ok hr12 τ)) ?_
    rintro vτ13 τ13 gsτ13 hl14 ⟨bi17, bi15, rfl, rfl, hc18, hc16⟩
    exact st_addNil (hk _ _ hl14 ⟨bi17, bi15, rfl, hc18, hc16⟩)
  · intro ρ' τ pool rs hl hd hout hk
    refine o_loadN (j := 0) (vs := [.int .i64 1, .int .i64 1, .int .u32 0, .int .i64 0, .int .i64 1, v1]) rfl rfl rfl z_agg87 ((hout 1 rfl).trans rfl) rfl rfl ?_
    exact st_addNil (hk _ _ (Sto.Le.refl _) rfl)
  · intro ρ' τ pool rs hl hd hout hk
    obtain ⟨_, e1, rfl⟩ := hd 1 rfl
    refine o_lit (dk := (kP (kP (kI .i64) (kP (kI .i64) (kP (kI .u32) (kP (kI .i64) (kI .i64))))) (kSl (kI .u8)))) (xs := [((1, 1, 0, 0, 1), [7])]) (ps := [(0, [.int .i64 1, .int .i64 1, .int .u32 0, .int .i64 0, .int .i64 1, v1])]) (cs := [.int .i64 1, .int .i64 1, .int .u32 0, .int .i64 0, .int .i64 1, v1]) rfl rfl rfl z_slT80 z_zero87 ⟨rfl, ⟨_, e1, rfl⟩, trivial⟩ rfl rfl rfl rfl (Kd.Many.cons (d := (kP (kP (kI .i64) (kP (kI .i64) (kP (kI .u32) (kP (kI .i64) (kI .i64))))) (kSl (kI .u8)))) (x := ((1, 1, 0, 0, 1), [7])) (a := [.int .i64 1, .int .i64 1, .int .u32 0, .int .i64 0, .int .i64 1, v1]) ⟨[.int .i64 1, .int .i64 1, .int .u32 0, .int .i64 0, .int .i64 1], _, rfl, ⟨[.int .i64 1], _, rfl, rfl, ⟨[.int .i64 1], _, rfl, rfl, ⟨[.int .u32 0], _, rfl, rfl, ⟨[.int .i64 0], _, rfl, rfl, rfl⟩⟩⟩⟩, ⟨_, rfl, (hs8.up hl)⟩⟩ Kd.Many.nil) (fun v19 g20 ho21 => ?_)
    refine st_freeze (fun τ22 hl23 hg24 => ?_)
    have hs25 := ho21.freeze hl23 hg24
    exact st_addNil (hk _ _ hl23 ⟨v19, rfl, hs25⟩)
  · intro ρ' τ pool rs hl hd hout hk
    obtain ⟨_, e0, bi17, bi15, rfl, hc18, hc16⟩ := hd 0 rfl
    obtain ⟨_, e2, v19, rfl, hs25⟩ := hd 2 rfl
    refine st_call (foot := []) rfl rfl rfl rfl (evs_cons e0 (evs_cons e2 rfl)) rfl (callV_fn z_en49 (frame_Codec_Pack_ok hr27 τ hc18 hc16 hs25)) ?_
    rintro vτ28 τ28 gsτ28 hl29 ⟨v30, rfl, rfl, hs31⟩
    exact st_addNil (hk _ _ hl29 ⟨v30, rfl, hs31⟩)
  · intro ρ' τ pool rs hl hd hout hk
    obtain ⟨_, e3, v30, rfl, hs31⟩ := hd 3 rfl
    refine o_move rfl rfl rfl e3 ?_
    exact st_addNil (hk _ _ (Sto.Le.refl _) ⟨v30, rfl, hs31⟩)
  · intro ρ' τ pool rs hl hd hout hk
    obtain ⟨_, e4, v30, rfl, hs31⟩ := hd 4 rfl
    refine o_extract rfl rfl rfl e4 rfl ?_
    exact st_addNil (hk _ _ (Sto.Le.refl _) ⟨v30, rfl, hs31⟩)
  · intro ρ' τ pool rs hl hd hout hk
    obtain ⟨_, e4, v30, rfl, hs31⟩ := hd 4 rfl
    refine o_extract rfl rfl rfl e4 rfl ?_
    exact st_addNil (hk _ _ (Sto.Le.refl _) rfl)
  · intro ρ' τ pool rs hl hd hout hk
    obtain ⟨_, e5, v30, rfl, hs31⟩ := hd 5 rfl
    refine o_assign rfl rfl rfl e5 ?_
    exact st_addNil (hk _ _ (Sto.Le.refl _) ⟨v30, rfl, hs31⟩)
  intro ρ' τ32 vals hl32 hv hout
  have l6 : Eng.look ρ' 13 = some (.int .i64 r26.2) := ((hv 6 (by decide)).1).trans (congrArg some (show vals 6 = .int .i64 r26.2 from Eq.symm (hv 6 (by decide)).2))
  obtain ⟨l7, v30, t7, hs31⟩ := hv 7 (by decide)
  replace l7 : Eng.look ρ' 2 = some (v30) := l7.trans (congrArg some (Eq.symm t7))
  refine st_ord [0] [[(b4, .cells [.int .i64 1, .int .i64 1, .int .u32 0, .int .i64 0, .int .i64 1, v1].toArray 87 (0, 0))]] rfl ?_
  refine st_env (ρ' := [(13, .int .i64 r26.2), (2, v30), (0, .bool false)]) ⟨l6, l7, (hout 0 rfl).trans rfl, trivial⟩ ?_
  refine o_assign rfl rfl rfl rfl ?_
  refine st_end ?_
  refine st_seq ?_
  refine st_cut (fun ρ τ33 gs => ∃ (s33 : Bool), law08_known_j1 s33 r ∧ τ32.Le τ33 ∧ ρ = [(0, .bool s33)] ∧ gs = []) ?_ (fun hk33 => ?_)
  · rintro ρ33 τ33 gs33 ⟨s33, h, hl33, rfl, rfl⟩
    obtain rfl := Eq.symm h
    exact st_ret (gs' := []) Tryd.func50 rfl (List.Sublist.refl _) ((hl6.trans hl32).trans hl33) ⟨rfl, rfl⟩
  refine st_region ?_
  refine o_move rfl rfl rfl rfl ?_
  refine o_ibin (v := .bool (decide (r26.2 = 0))) rfl rfl rfl rfl rfl rfl ?_
  refine o_moveB rfl rfl rfl rfl (fun hc => ?_) (fun hc => ?_)
  · replace h := (if_pos hc).mp h
    refine o_move rfl rfl rfl rfl ?_
    refine o_lenI rfl rfl rfl z_slT67 rfl hs31 ?_
    refine o_ibin (v := .bool (decide ((r26.1.length : Int) = 16))) rfl rfl rfl rfl rfl rfl ?_
    refine o_pick rfl rfl rfl rfl rfl ?_
    refine o_moveB rfl rfl rfl rfl (fun hc => ?_) (fun hc => ?_)
    · replace h := (if_pos hc).mp h
      obtain ⟨r34, hr35, h⟩ := h
      refine st_call (foot := []) rfl rfl rfl rfl rfl rfl (callV_fn z_en97 (frame_Wire_ok hr35 τ32)) ?_
      rintro vτ36 τ36 gsτ36 hl37 ⟨rfl, rfl⟩
      refine o_ibin (v := .bool (decide (r34 = 16))) rfl rfl rfl rfl rfl rfl ?_
      refine o_pick rfl rfl rfl rfl rfl ?_
      refine o_moveB rfl rfl rfl rfl (fun hc => ?_) (fun hc => ?_)
      · replace h := (if_pos hc).mp h
        obtain ⟨r38, hr39, h⟩ := h
        refine st_call (foot := []) rfl rfl rfl rfl rfl rfl (callV_fn z_en98 (frame_Room_ok hr39 τ36)) ?_
        rintro vτ40 τ40 gsτ40 hl41 ⟨rfl, rfl⟩
        refine o_ibin (v := .bool (decide (r38 = 1))) rfl rfl rfl rfl rfl rfl ?_
        refine o_pick rfl rfl rfl rfl rfl ?_
        refine o_moveB rfl rfl rfl rfl (fun hc => ?_) (fun hc => ?_)
        · replace h := (if_pos hc).mp h
          obtain ⟨r42, hr43, h⟩ := h
          refine st_call (foot := []) rfl rfl rfl rfl rfl rfl (callV_fn z_en98 (frame_Room_ok hr43 τ40)) ?_
          rintro vτ44 τ44 gsτ44 hl45 ⟨rfl, rfl⟩
          refine o_ibin (v := .bool (decide (r42 = 242))) rfl rfl rfl rfl rfl rfl ?_
          refine o_pick rfl rfl rfl rfl rfl ?_
          refine o_moveB rfl rfl rfl rfl (fun hc => ?_) (fun hc => ?_)
          · replace h := (if_pos hc).mp h
            obtain ⟨r46, hr47, h⟩ := h
            refine st_call (foot := []) rfl rfl rfl rfl rfl rfl (callV_fn z_en98 (frame_Room_ok hr47 τ44)) ?_
            rintro vτ48 τ48 gsτ48 hl49 ⟨rfl, rfl⟩
            refine o_ibin (v := .bool (decide (r46 = 0))) rfl rfl rfl rfl rfl rfl ?_
            refine o_pick rfl rfl rfl rfl rfl ?_
            refine o_assign rfl rfl rfl rfl ?_
            refine st_end ?_
            refine st_env (ρ' := [(0, .bool (decide (r46 = 0)))]) ⟨rfl, trivial⟩ ?_
            refine st_ord [] [] rfl ?_
            exact hk33 _ _ _ ⟨(decide (r46 = 0)), h, (((hl37.trans hl41).trans hl45).trans hl49), rfl, rfl⟩
          · replace h := (if_neg (ne_t hc)).mp h
            refine st_pass rfl rfl rfl rfl rfl rfl ?_
            refine st_pass rfl rfl rfl rfl rfl rfl ?_
            refine o_pick rfl rfl rfl rfl rfl ?_
            refine o_assign rfl rfl rfl rfl ?_
            refine st_end ?_
            refine st_env (ρ' := [(0, .bool false)]) ⟨rfl, trivial⟩ ?_
            refine st_ord [] [] rfl ?_
            exact hk33 _ _ _ ⟨false, h, ((hl37.trans hl41).trans hl45), rfl, rfl⟩
        · replace h := (if_neg (ne_t hc)).mp h
          refine st_pass rfl rfl rfl rfl rfl rfl ?_
          refine st_pass rfl rfl rfl rfl rfl rfl ?_
          refine o_pick rfl rfl rfl rfl rfl ?_
          refine o_move rfl rfl rfl rfl ?_
          refine st_pass rfl rfl rfl rfl rfl rfl ?_
          refine st_pass rfl rfl rfl rfl rfl rfl ?_
          refine o_pick rfl rfl rfl rfl rfl ?_
          refine o_assign rfl rfl rfl rfl ?_
          refine st_end ?_
          refine st_env (ρ' := [(0, .bool false)]) ⟨rfl, trivial⟩ ?_
          refine st_ord [] [] rfl ?_
          exact hk33 _ _ _ ⟨false, h, (hl37.trans hl41), rfl, rfl⟩
      · replace h := (if_neg (ne_t hc)).mp h
        refine st_pass rfl rfl rfl rfl rfl rfl ?_
        refine st_pass rfl rfl rfl rfl rfl rfl ?_
        refine o_pick rfl rfl rfl rfl rfl ?_
        refine o_move rfl rfl rfl rfl ?_
        refine st_pass rfl rfl rfl rfl rfl rfl ?_
        refine st_pass rfl rfl rfl rfl rfl rfl ?_
        refine o_pick rfl rfl rfl rfl rfl ?_
        refine o_move rfl rfl rfl rfl ?_
        refine st_pass rfl rfl rfl rfl rfl rfl ?_
        refine st_pass rfl rfl rfl rfl rfl rfl ?_
        refine o_pick rfl rfl rfl rfl rfl ?_
        refine o_assign rfl rfl rfl rfl ?_
        refine st_end ?_
        refine st_env (ρ' := [(0, .bool false)]) ⟨rfl, trivial⟩ ?_
        refine st_ord [] [] rfl ?_
        exact hk33 _ _ _ ⟨false, h, hl37, rfl, rfl⟩
    · replace h := (if_neg (ne_t hc)).mp h
      refine st_pass rfl rfl rfl rfl rfl rfl ?_
      refine st_pass rfl rfl rfl rfl rfl rfl ?_
      refine o_pick rfl rfl rfl rfl rfl ?_
      refine o_move rfl rfl rfl rfl ?_
      refine st_pass rfl rfl rfl rfl rfl rfl ?_
      refine st_pass rfl rfl rfl rfl rfl rfl ?_
      refine o_pick rfl rfl rfl rfl rfl ?_
      refine o_move rfl rfl rfl rfl ?_
      refine st_pass rfl rfl rfl rfl rfl rfl ?_
      refine st_pass rfl rfl rfl rfl rfl rfl ?_
      refine o_pick rfl rfl rfl rfl rfl ?_
      refine o_move rfl rfl rfl rfl ?_
      refine st_pass rfl rfl rfl rfl rfl rfl ?_
      refine st_pass rfl rfl rfl rfl rfl rfl ?_
      refine o_pick rfl rfl rfl rfl rfl ?_
      refine o_assign rfl rfl rfl rfl ?_
      refine st_end ?_
      refine st_env (ρ' := [(0, .bool false)]) ⟨rfl, trivial⟩ ?_
      refine st_ord [] [] rfl ?_
      exact hk33 _ _ _ ⟨false, h, (Sto.Le.refl _), rfl, rfl⟩
  · replace h := (if_neg (ne_t hc)).mp h
    refine st_pass rfl rfl rfl rfl rfl rfl ?_
    refine st_pass rfl rfl rfl rfl rfl rfl ?_
    refine st_pass rfl rfl rfl rfl rfl rfl ?_
    refine o_pick rfl rfl rfl rfl rfl ?_
    refine o_move rfl rfl rfl rfl ?_
    refine st_pass rfl rfl rfl rfl rfl rfl ?_
    refine st_pass rfl rfl rfl rfl rfl rfl ?_
    refine o_pick rfl rfl rfl rfl rfl ?_
    refine o_move rfl rfl rfl rfl ?_
    refine st_pass rfl rfl rfl rfl rfl rfl ?_
    refine st_pass rfl rfl rfl rfl rfl rfl ?_
    refine o_pick rfl rfl rfl rfl rfl ?_
    refine o_move rfl rfl rfl rfl ?_
    refine st_pass rfl rfl rfl rfl rfl rfl ?_
    refine st_pass rfl rfl rfl rfl rfl rfl ?_
    refine o_pick rfl rfl rfl rfl rfl ?_
    refine o_move rfl rfl rfl rfl ?_
    refine st_pass rfl rfl rfl rfl rfl rfl ?_
    refine st_pass rfl rfl rfl rfl rfl rfl ?_
    refine o_pick rfl rfl rfl rfl rfl ?_
    refine o_assign rfl rfl rfl rfl ?_
    refine st_end ?_
    refine st_env (ρ' := [(0, .bool false)]) ⟨rfl, trivial⟩ ?_
    refine st_ord [] [] rfl ?_
    exact hk33 _ _ _ ⟨false, h, (Sto.Le.refl _), rfl, rfl⟩
theorem frame_Codec_Frames_1_ok {c0 : List Int} {c1 : List Int} {bc0 : Nat} {bi3 : Nat} {bi1 : Nat} {bc1 : Nat} {v5 : Value} {σ0 : Sto} (hc0_0 : Cel σ0 ⟨bc0, 0, none⟩ (.pointer (some ⟨bi1, 0, none⟩))) (hc4 : CelN σ0 ⟨bi3, 0, none⟩ (cellsN (Value.int .u32) 0 1024 c0)) (hc2 : CelN σ0 ⟨bi1, 0, none⟩ [.pointer (some ⟨bi3, 0, none⟩)]) (hc1_0 : Cel σ0 ⟨bc1, 0, none⟩ (v5)) (hs6 : Sl (kI .u8) σ0 v5 c1) :
    IterV Tryd.prog (fun τ x vx => ∃ (v43 : Value), vx = [.agg [.int .i64 x.1.1.1, .int .i64 x.1.1.2.1, .int .u32 x.1.1.2.2.1, .int .i64 x.1.1.2.2.2.1, .int .i64 x.1.1.2.2.2.2, v43].toArray, .int .i64 x.2] ∧ Sl (kI .u8) τ v43 x.1.2) (.func (.func 99) #[] [.pointer (some ⟨bc0, 0, none⟩), .pointer (some ⟨bc1, 0, none⟩)].toArray) σ0 [] (fun (_ : Unit) _ f => f = []) (frame_Codec_Frames_1 c0 c1) := by
  intro S Y I y hyc hyo hIm hY s s' o hR σ g hle hIg
  obtain ⟨r, hr0⟩ : ∃ r, r = (s', o) := ⟨_, rfl⟩
  rw [← hr0] at hR
  have h := hR
  refine callV_of (caps := [.pointer (some ⟨bc0, 0, none⟩), .pointer (some ⟨bc1, 0, none⟩)]) z_en99 ?_
  refine call_of Tryd.func99 Tryd.ntmps99 rfl rfl (fun cs fs => ?_)
  refine st_ord [0] [g] rfl ?_
  refine st_seq ?_
  refine st_region ?_
  refine o_box (cs := [y]) rfl rfl rfl rfl hyc (fun b7 => ?_)
  refine st_end ?_
  refine st_seq ?_
  refine st_seq ?_
  refine st_region ?_
  refine o_loadI (v := .pointer (some ⟨bi1, 0, none⟩)) rfl rfl rfl z_sc81 rfl (Cel.up hc0_0 hle) ?_
  refine o_ptrNil (b := false) rfl rfl rfl Tryd.underlying81 rfl rfl rfl ?_
  refine st_end ?_
  refine st_condF rfl ?_
  refine st_skip ?_
  refine st_seq ?_
  refine st_region ?_
  refine o_loadI (v := v5) rfl rfl rfl z_sc67 rfl (Cel.up hc1_0 hle) ?_
  obtain ⟨r8, hr9, h⟩ := h
  refine st_call (foot := []) rfl rfl rfl rfl rfl rfl (callV_fn z_en85 (fence_Segments_ok hr9 σ (hs6.up hle))) ?_
  rintro vτ10 τ10 gsτ10 hl11 ⟨f12, q13, rfl, rfl, hit14⟩
  refine st_end ?_
  refine st_block ?_
  obtain ⟨t15, w15, hR15, hA15⟩ := h
  refine st_env (ρ' := [(1, .pointer (some ⟨bc0, 0, none⟩)), (3, .pointer (some ⟨b7, 0, none⟩)), (9, .func (.func f12) #[] q13)]) ⟨rfl, rfl, rfl, trivial⟩ ?_
  refine st_addNil ?_
  refine st_range (B := frame_Codec_Frames_1_l1 S Y c0) (s0 := s) ranges_fctx rfl hit14 (Sto.Le.refl _) hR15 rfl (fun _ _ _ h => by obtain ⟨_, rfl, _⟩ := h; rfl) (fun (s15 : S) τ15 gs => τ10.Le τ15 ∧ ∃ (g16 : Grp), gs = [[(b7, .cells [y].toArray 159 (0, 0))], g16] ∧ I s15 τ15 g16) (fun (p36 : S) cd τ37 gs => cd = .ret ∧ τ10.Le τ37 ∧ ∃ (g39 : Grp), gs = [[(b7, .cells [y].toArray 159 (0, 0))], g39] ∧ I p36 τ37 g39) (fun _ _ _ _ hl ⟨hb, g16, hg, hI17⟩ => ⟨hb.trans hl, g16, hg, hIm _ _ _ _ hl hI17⟩) (fun _ _ _ _ _ hl ⟨hc, hb, g39, hg, hI40⟩ => ⟨hc, hb.trans hl, g39, hg, hIm _ _ _ _ hl hI40⟩) ⟨Sto.Le.refl _, g, rfl, (hIm _ _ _ _ hl11 hIg)⟩ ?_ ?_ ?_
  · rintro x15 s15 o15 τ15 gs15 vx15 hl15 h ⟨v18, rfl, hs19⟩ ⟨hb15, g16, rfl, hI17⟩ l15 rc15 caller15 cs15 fs15
    refine st_region ?_
    refine o_assign rfl rfl rfl rfl ?_
    refine st_end ?_
    refine st_begin ?_
    refine st_block ?_
    refine st_seq ?_
    obtain ⟨r20, hr21, h⟩ := h
    obtain ⟨y26, u27, hy28, h⟩ := h
    refine st_draw41 (gs := [[(b7, .cells [y].toArray 159 (0, 0))]]) (F0 := [g16]) 8 1 (tlP [none, none, none, none, none, none, some (0, 0), none]) (tlP [none, none, none, none, none, none, none, none]) (tlNN [[none, some 18]]) (tl [fun τ v => (y : Value) = v,
    fun τ v => (.pointer (some ⟨bi1, 0, none⟩) : Value) = v,
    fun τ v => (v18 : Value) = v,
    fun τ v => ∃ (v24 : Value), (.tuple [.agg [.int .i64 r20.1.1.1, .int .i64 r20.1.1.2.1, .int .u32 r20.1.1.2.2.1, .int .i64 r20.1.1.2.2.2.1, .int .i64 r20.1.1.2.2.2.2, v24].toArray, .int .i64 r20.2].toArray : Value) = v ∧ Sl (kI .u8) τ v24 r20.1.2,
    fun τ v => ∃ (v24 : Value), (.agg [.int .i64 r20.1.1.1, .int .i64 r20.1.1.2.1, .int .u32 r20.1.1.2.2.1, .int .i64 r20.1.1.2.2.2.1, .int .i64 r20.1.1.2.2.2.2, v24].toArray : Value) = v ∧ Sl (kI .u8) τ v24 r20.1.2,
    fun τ v => (.int .i64 r20.2 : Value) = v,
    fun τ v => (.bool y26 : Value) = v,
    fun τ v => (.bool (!y26) : Value) = v]) (tlII [[fun τ u F => F = [g16],
    fun τ u F => ∃ (g33 : Grp), F = [g33] ∧ I u27 τ g33]]) z_mix ?_ (tl_mono ⟨fun _ _ _ _ h => h, ⟨fun _ _ _ _ h => h, ⟨fun _ _ _ _ h => h, ⟨fun _ _ _ hl ⟨v24, hv, hs25⟩ => ⟨v24, hv, hs25.up hl⟩, ⟨fun _ _ _ hl ⟨v24, hv, hs25⟩ => ⟨v24, hv, hs25.up hl⟩, ⟨fun _ _ _ _ h => h, ⟨fun _ _ _ _ h => h, ⟨fun _ _ _ _ h => h, trivial⟩⟩⟩⟩⟩⟩⟩⟩) (tlII_mono ⟨⟨fun _ _ _ _ hl h => h, ⟨fun _ _ _ _ hl h => (let ⟨g33, hF, hI34⟩ := h; ⟨g33, hF, hIm _ _ _ _ hl hI34⟩), trivial⟩⟩, trivial⟩) ?_ ?_ ?_ (allB_cons (allB_cons (allB_cons (allB_cons (allB_cons (allB_cons (allB_cons (allB_cons allB_nil ?_) ?_) ?_) ?_) ?_) ?_) ?_) ?_) ?_
    · exact rfl
    · exact rfl
    · exact rfl
    · exact rfl
    · intro ρ' τ pool rs hl hd hout hw hk
      refine o_load (j := 0) (v := y) rfl rfl rfl z_sc159 ((hout 3 rfl).trans rfl) rfl rfl ?_
      exact hk _ _ (Sto.Le.refl _) rfl
    · intro ρ' τ pool rs hl hd hout hw hk
      refine o_loadI (v := .pointer (some ⟨bi1, 0, none⟩)) rfl rfl rfl z_sc81 ((hout 1 rfl).trans rfl) (Cel.up hc0_0 (((hle.trans hl11).trans hl15).trans hl)) ?_
      exact hk _ _ (Sto.Le.refl _) rfl
    · intro ρ' τ pool rs hl hd hout hw hk
      refine o_move rfl rfl rfl ((hout 5 rfl).trans rfl) ?_
      exact hk _ _ (Sto.Le.refl _) rfl
    · intro ρ' τ pool rs hl hd hout hw hk
      obtain ⟨_, e1, rfl⟩ := hd 1 rfl _ rfl
      obtain ⟨_, e2, rfl⟩ := hd 2 rfl _ rfl
      refine st_call (foot := []) rfl rfl rfl rfl (evs_cons e1 (evs_cons e2 rfl)) rfl (callV_fn z_en86 (frame_Codec_Unpack_ok hr21 τ (hc4.up (((hle.trans hl11).trans hl15).trans hl)) (hc2.up (((hle.trans hl11).trans hl15).trans hl)) (hs19.up hl))) ?_
      rintro vτ22 τ22 gsτ22 hl23 ⟨v24, rfl, rfl, hs25⟩
      exact hk _ _ hl23 ⟨v24, rfl, hs25⟩
    · intro ρ' τ pool rs hl hd hout hw hk
      obtain ⟨_, e3, v24, rfl, hs25⟩ := hd 3 rfl _ rfl
      refine o_extract rfl rfl rfl e3 rfl ?_
      exact hk _ _ (Sto.Le.refl _) ⟨v24, rfl, hs25⟩
    · intro ρ' τ pool rs hl hd hout hw hk
      obtain ⟨_, e3, v24, rfl, hs25⟩ := hd 3 rfl _ rfl
      refine o_extract rfl rfl rfl e3 rfl ?_
      exact hk _ _ (Sto.Le.refl _) rfl
    · intro ρ' τ u Fv pool rs hl hI hu hd hout hw hk
      obtain ⟨_, e0, rfl⟩ := hd 0 rfl _ rfl
      obtain ⟨_, e4, v24, rfl, hs25⟩ := hd 4 rfl _ rfl
      obtain ⟨_, e5, rfl⟩ := hd 5 rfl _ rfl
      have hI0 := hI
      obtain rfl := hI
      refine st_gs [[(b7, .cells [y].toArray 159 (0, 0))], g16, pool] rfl ?_
      refine st_ord [1, 0, 0] [g16, [(b7, .cells [y].toArray 159 (0, 0))], pool] rfl ?_
      refine st_call (foot := [g16]) rfl rfl rfl e0 (evs_cons e4 (evs_cons e5 rfl)) rfl (hY (r20.1, r20.2) s15 _ _ _ _ _ (hle.trans ((hl11.trans hl15).trans hl)) hy28 ⟨_, rfl, hs25⟩ (hIm _ _ _ _ hl hI17)) ?_
      rintro vτ29 τ29 gsτ29 hl30 ⟨rfl, g31, rfl, hI32⟩
      refine st_ord [1, 0, 0] [[(b7, .cells [y].toArray 159 (0, 0))], g31, pool] rfl ?_
      exact hk _ _ [g31] hl30 rfl (by exact ⟨g31, rfl, hI32⟩)
    · intro ρ' τ pool rs hl hd hout hw hk
      obtain ⟨_, e6, rfl⟩ := hd 6 rfl _ rfl
      refine o_not rfl rfl rfl e6 ?_
      exact hk _ _ (Sto.Le.refl _) rfl
    intro ρ' τ35 vals u Fv hl35 hI hu hv hout
    have l7 : Eng.look ρ' 19 = some (.bool (!y26)) := ((hv 7 (by decide)).1 _ rfl).trans (congrArg some (show vals 7 = .bool (!y26) from Eq.symm (hv 7 (by decide)).2))
    obtain ⟨g33, rfl, hI34⟩ := hI
    refine st_gs [[(b7, .cells [y].toArray 159 (0, 0))], g33] rfl ?_
    refine st_env (ρ' := [(19, .bool (!y26)), (1, .pointer (some ⟨bc0, 0, none⟩)), (3, .pointer (some ⟨b7, 0, none⟩)), (11, v18), (5, v18)]) ⟨l7, (hout 1 rfl).trans rfl, (hout 3 rfl).trans rfl, (hout 11 rfl).trans rfl, (hout 5 rfl).trans rfl, trivial⟩ ?_
    refine st_end ?_
    refine st_cond rfl (fun hc => ?_) (fun hc => ?_)
    · replace h := (if_pos hc).mp h
      exact st_rret (List.Sublist.refl _) hl35 ⟨_, h, rfl, (hl15.trans hl35), g33, rfl, hI34⟩
    · replace h := (if_neg (ne_t hc)).mp h
      refine st_skip ?_
      refine st_inBlock ?_
      exact st_rend (List.Sublist.refl _) hl35 ⟨_, h, (hl15.trans hl35), g33, rfl, hI34⟩
  · rintro p41 τ42 gs15 f15 ht hl43 ⟨hb, g44, rfl, hI45⟩ rfl
    subst ht
    replace h := hA15
    refine st_ord [1, 1] [[(b7, .cells [y].toArray 159 (0, 0))], g44] rfl ?_
    refine st_inBlock ?_
    refine st_ord [1] [g44] rfl ?_
    obtain rfl := Eq.symm h
    cases hr0
    exact st_fin (gs' := [g44, []]) Tryd.func99 rfl (by simp) (hl11.trans hl43) ⟨g44, _, rfl, hI45, rfl⟩
  · rintro p36 cd15 τ37 gs15 f15 ht hl38 ⟨rfl, hb, g39, rfl, hI40⟩ rfl
    subst ht
    replace h := hA15
    refine st_ord [1, 1] [[(b7, .cells [y].toArray 159 (0, 0))], g39] rfl ?_
    refine st_ord [1] [g39] rfl ?_
    obtain rfl := Eq.symm h
    cases hr0
    exact st_ret (gs' := [g39, []]) Tryd.func99 rfl (by simp) (hl11.trans hl38) ⟨g39, _, rfl, hI40, rfl⟩
theorem frame_Codec_Frames_ok {a0 : List Int} {a1 : List Int} {bi3 : Nat} {bi1 : Nat} {v5 : Value} {r : (((S : Type) → ((((Int × Int × Int × Int × Int) × List Int) × Int) → S → Bool × S → Prop) → S → S × Unit → Prop))} (h : frame_Codec_Frames a0 a1 r) (σ : Sto) (hc4 : CelN σ ⟨bi3, 0, none⟩ (cellsN (Value.int .u32) 0 1024 a0)) (hc2 : CelN σ ⟨bi1, 0, none⟩ [.pointer (some ⟨bi3, 0, none⟩)]) (hs6 : Sl (kI .u8) σ v5 a1) :
    Does Tryd.prog 51 [.pointer (some ⟨bi1, 0, none⟩), v5] σ [] (fun v τ gs => ∃ (f15 : Nat) (q16 : Array Value), gs = [] ∧ .func (.func f15) #[] q16 = v ∧ IterV Tryd.prog (fun τ x vx => ∃ (v48 : Value), vx = [.agg [.int .i64 x.1.1.1, .int .i64 x.1.1.2.1, .int .u32 x.1.1.2.2.1, .int .i64 x.1.1.2.2.2.1, .int .i64 x.1.1.2.2.2.2, v48].toArray, .int .i64 x.2] ∧ Sl (kI .u8) τ v48 x.1.2) (.func (.func f15) #[] q16) τ [] (fun (_ : Unit) _ f => f = []) r) := by
  refine call_of Tryd.func51 Tryd.ntmps51 rfl rfl (fun cs fs => ?_)
  refine st_seq ?_
  refine st_region ?_
  refine o_box (cs := [.pointer (some ⟨bi1, 0, none⟩)]) rfl rfl rfl rfl rfl (fun b7 => ?_)
  refine o_box (cs := [v5]) rfl rfl rfl rfl (oneL_sl hs6) (fun b8 => ?_)
  refine o_assign rfl rfl rfl rfl ?_
  refine st_end ?_
  refine st_seq ?_
  refine st_region ?_
  refine st_ord [1, 0] [[(b7, .cells [.pointer (some ⟨bi1, 0, none⟩)].toArray 81 (0, 0))], [(b8, .cells [v5].toArray 67 (0, 0))]] rfl ?_
  refine st_freeze (fun τ9 hl10 hg11 => ?_)
  refine st_freeze (fun τ12 hl13 hg14 => ?_)
  refine o_func rfl rfl rfl rfl rfl ?_
  refine o_assign rfl rfl rfl rfl ?_
  refine st_end ?_
  obtain rfl := Eq.symm h
  exact st_ret (gs' := []) Tryd.func51 rfl (List.Sublist.refl _) (hl10.trans hl13) ⟨_, _, rfl, rfl, (frame_Codec_Frames_1_ok (Cel.up (cel_of hg11 rfl) hl13) (hc4.up (hl10.trans hl13)) (hc2.up (hl10.trans hl13)) (cel_of hg14 rfl) (hs6.up (hl10.trans hl13)))⟩
theorem ref02_Word_ok {a0 : Int} {a1 : Int} {r : List Int} (h : ref02_Word a0 a1 r) (σ : Sto)  :
    Does Tryd.prog 165 [.int .u32 a0, .int .i64 a1] σ [] (fun v τ gs => ∃ (v24 : Value), gs = [] ∧ v24 = v ∧ Sl (kI .u8) τ v24 r) := by
  refine call_of Tryd.func165 Tryd.ntmps165 rfl rfl (fun cs fs => ?_)
  refine st_seq ?_
  refine st_region ?_
  refine o_assign rfl rfl rfl rfl ?_
  refine st_end ?_
  refine st_seq ?_
  refine st_region ?_
  refine o_assign rfl rfl rfl rfl ?_
  refine st_end ?_
  refine st_seq ?_
  refine st_cut (fun ρ τ1 gs => ∃ (s1 : List Int) (v2 : Value) (g3 : Grp), ref02_Word_j1 s1 r ∧ σ.Le τ1 ∧ ρ = [(4, .slice none 0 0), (5, v2)] ∧ gs = [g3] ∧ Ow (kI .u8) 5 τ1 v2 s1 g3) ?_ (fun hk1 => ?_)
  · rintro ρ1 τ1 gs1 ⟨s1, v2, g3, h, hl1, rfl, rfl, ho4⟩
    refine st_seq ?_
    refine st_region ?_
    refine o_move rfl rfl rfl rfl ?_
    refine o_assign rfl rfl rfl rfl ?_
    refine st_end ?_
    refine st_freeze (fun τ5 hl6 hg7 => ?_)
    have hs8 := ho4.freeze hl6 hg7
    obtain rfl := Eq.symm h
    exact st_ret (gs' := []) Tryd.func165 rfl (List.Sublist.refl _) (hl1.trans hl6) ⟨_, rfl, rfl, hs8⟩
  refine st_seq ?_
  refine st_region ?_
  refine o_assign rfl rfl rfl rfl ?_
  refine st_end ?_
  obtain ⟨e11, hL11, hA11⟩ := h
  refine st_env (ρ' := [(0, .int .u32 a0), (1, .int .i64 a1), (4, .slice none 0 0), (5, .slice none 0 0), (6, .int .i64 0)]) ⟨rfl, rfl, rfl, rfl, rfl, trivial⟩ ?_
  refine st_addNil ?_
  refine st_loop hL11 (fun (s11 : Int × List Int × Int) ρ τ11 gs => σ.Le τ11 ∧ ∃ (v12 : Value) (g13 : Grp), ρ = [(0, .int .u32 s11.1), (1, .int .i64 a1), (4, .slice none 0 0), (5, v12), (6, .int .i64 s11.2.2)] ∧ gs = [g13] ∧ Ow (kI .u8) 5 τ11 v12 s11.2.1 g13) ⟨Sto.Le.refl _, _, _, rfl, rfl, Ow.nil⟩ ?_
  rintro s11 o11 h he11 ρ11 τ11 gs11 ⟨hl11, v12, g13, rfl, rfl, ho14⟩ hn11
  refine st_seq ?_
  refine st_seq ?_
  refine st_region ?_
  refine o_move rfl rfl rfl rfl ?_
  refine o_move rfl rfl rfl rfl ?_
  refine o_ibin (v := .bool (decide (s11.2.2 < a1))) rfl rfl rfl rfl rfl rfl ?_
  refine st_end ?_
  refine st_cond rfl (fun hc => ?_) (fun hc => ?_)
  · replace h := (if_pos hc).mp h
    refine st_skip ?_
    refine st_seq ?_
    refine st_block ?_
    refine st_seq ?_
    refine st_region ?_
    refine o_move rfl rfl rfl rfl ?_
    refine o_move rfl rfl rfl rfl ?_
    refine o_rem rfl rfl rfl rfl rfl (by decide) ?_
    refine o_conv rfl rfl rfl Tryd.underlying33 Tryd.underlying5 rfl ?_
    refine o_lit (dk := (kI .u8)) (xs := [(IntKind.u8.wrap (s11.1.tmod 256))]) (ps := [(0, [.int .u8 (IntKind.u8.wrap (s11.1.tmod 256))])]) (cs := [.int .u8 (IntKind.u8.wrap (s11.1.tmod 256))]) rfl rfl rfl z_slT67 z_zero5 ⟨rfl, ⟨_, rfl, rfl⟩, trivial⟩ rfl rfl rfl rfl (Kd.Many.cons (d := (kI .u8)) (x := (IntKind.u8.wrap (s11.1.tmod 256))) (a := [.int .u8 (IntKind.u8.wrap (s11.1.tmod 256))]) rfl Kd.Many.nil) (fun v15 g16 ho17 => ?_)
    obtain ⟨hf21, h⟩ := h
    obtain ⟨hf22, h⟩ := h
    refine st_ord [1, 0] [g13, g16] rfl ?_
    refine o_append (dk := (kI .u8)) (xs := s11.2.1) (ys := [(IntKind.u8.wrap (s11.1.tmod 256))]) rfl rfl rfl rfl z_slT67 rfl ho14 rfl (Ow.src (j := 1) ho17 rfl) hf21 hf22 (fun v18 g19 ho20 => ?_)
    refine o_assign rfl rfl rfl rfl ?_
    refine st_end ?_
    refine st_region ?_
    refine o_move rfl rfl rfl rfl ?_
    refine o_quo rfl rfl rfl rfl rfl (by decide) ?_
    refine o_assign rfl rfl rfl rfl ?_
    refine st_end ?_
    refine st_inBlock ?_
    refine st_region ?_
    refine o_move rfl rfl rfl rfl ?_
    refine o_ibin (v := .int .i64 (IntKind.i64.wrap (s11.2.2 + 1))) rfl rfl rfl rfl rfl rfl ?_
    refine o_assign rfl rfl rfl rfl ?_
    refine st_end ?_
    refine st_env (ρ' := [(0, .int .u32 (IntKind.u32.wrap (s11.1.tdiv 256))), (1, .int .i64 a1), (4, .slice none 0 0), (5, v18), (6, .int .i64 (IntKind.i64.wrap (s11.2.2 + 1)))]) ⟨rfl, rfl, rfl, rfl, rfl, trivial⟩ ?_
    refine st_ord [0] [g19] rfl ?_
    exact hn11 _ _ _ _ h ⟨hl11, _, _, rfl, rfl, ho20⟩
  · replace h := (if_neg (ne_t hc)).mp h
    refine st_exit rfl ?_
    obtain rfl := he11 _ h
    replace h := hA11
    refine st_env (ρ' := [(4, .slice none 0 0), (5, v12)]) ⟨rfl, rfl, trivial⟩ ?_
    exact hk1 _ _ _ ⟨s11.2.1, _, _, h, hl11, rfl, rfl, ho14⟩
theorem ref07_Bytes_ok {a0 : Int × Int × Int × Int × Int} {r : List Int} (h : ref07_Bytes a0 r) (σ : Sto)  :
    Does Tryd.prog 137 [.agg [.int .i64 a0.1, .int .i64 a0.2.1, .int .u32 a0.2.2.1, .int .i64 a0.2.2.2.1, .int .i64 a0.2.2.2.2].toArray] σ [] (fun v τ gs => ∃ (v36 : Value), gs = [] ∧ v36 = v ∧ Sl (kI .u8) τ v36 r) := by
  refine call_of Tryd.func137 Tryd.ntmps137 rfl rfl (fun cs fs => ?_)
  refine st_seq ?_
  refine st_region ?_
  refine o_box (cs := [.int .i64 a0.1, .int .i64 a0.2.1, .int .u32 a0.2.2.1, .int .i64 a0.2.2.2.1, .int .i64 a0.2.2.2.2]) rfl rfl rfl rfl rfl (fun b1 => ?_)
  refine o_assign rfl rfl rfl rfl ?_
  refine st_end ?_
  refine st_seq ?_
  obtain ⟨r8, hr9, h⟩ := h
  obtain ⟨hf17, h⟩ := h
  obtain ⟨hf18, h⟩ := h
  refine st_draw41 (gs := [[(b1, .cells [.int .i64 a0.1, .int .i64 a0.2.1, .int .u32 a0.2.2.1, .int .i64 a0.2.2.2.1, .int .i64 a0.2.2.2.2].toArray 89 (0, 0))]]) (F0 := []) 11 2 (tlP [none, none, none, none, none, none, some (0, 0), none, none, none, some (0, 1)]) (tlP [none, none, none, none, none, none, none, none, none, none, none]) (tlNN [[none, some 10, some 14]]) (tl [fun τ v => (.pointer (some ⟨b1, 0, none⟩) : Value) = v,
    fun τ v => (.int .i64 a0.1 : Value) = v,
    fun τ v => (.int .u8 (IntKind.u8.wrap a0.1) : Value) = v,
    fun τ v => (.pointer (some ⟨b1, 1, none⟩) : Value) = v,
    fun τ v => (.int .i64 a0.2.1 : Value) = v,
    fun τ v => (.int .u8 (IntKind.u8.wrap a0.2.1) : Value) = v,
    fun _ _ => True,
    fun τ v => (.pointer (some ⟨b1, 2, none⟩) : Value) = v,
    fun τ v => (.int .u32 a0.2.2.1 : Value) = v,
    fun τ v => ∃ (v12 : Value), (v12 : Value) = v ∧ Sl (kI .u8) τ v12 r8,
    fun _ _ => True]) (tlII [[fun τ u F => F = [],
    fun τ u F => ∃ (v5 : Value) (g6 : Grp), F = [g6] ∧ v5 = u ∧ Ow (kI .u8) 5 τ v5 [(IntKind.u8.wrap a0.1), (IntKind.u8.wrap a0.2.1)] g6,
    fun τ u F => ∃ (v19 : Value) (g20 : Grp), F = [g20] ∧ v19 = u ∧ Ow (kI .u8) 5 τ v19 ([(IntKind.u8.wrap a0.1), (IntKind.u8.wrap a0.2.1)] ++ r8) g20]]) z_mix ?_ (tl_mono ⟨fun _ _ _ _ h => h, ⟨fun _ _ _ _ h => h, ⟨fun _ _ _ _ h => h, ⟨fun _ _ _ _ h => h, ⟨fun _ _ _ _ h => h, ⟨fun _ _ _ _ h => h, ⟨fun _ _ _ _ _ => trivial, ⟨fun _ _ _ _ h => h, ⟨fun _ _ _ _ h => h, ⟨fun _ _ _ hl ⟨v12, hv, hs13⟩ => ⟨v12, hv, hs13.up hl⟩, ⟨fun _ _ _ _ _ => trivial, trivial⟩⟩⟩⟩⟩⟩⟩⟩⟩⟩⟩) (tlII_mono ⟨⟨fun _ _ _ _ hl h => h, ⟨fun _ _ _ _ hl h => (let ⟨v5, g6, hF, hU, ho7⟩ := h; ⟨v5, g6, hF, hU, ho7.up hl⟩), ⟨fun _ _ _ _ hl h => (let ⟨v19, g20, hF, hU, ho21⟩ := h; ⟨v19, g20, hF, hU, ho21.up hl⟩), trivial⟩⟩⟩, trivial⟩) ?_ ?_ ?_ (allB_cons (allB_cons (allB_cons (allB_cons (allB_cons (allB_cons (allB_cons (allB_cons (allB_cons (allB_cons (allB_cons allB_nil ?_) ?_) ?_) ?_) ?_) ?_) ?_) ?_) ?_) ?_) ?_) ?_
  · exact rfl
  · exact rfl
  · exact rfl
  · exact rfl
  · intro ρ' τ pool rs hl hd hout hw hk
    refine o_fieldAddr rfl rfl rfl z_field89_0 ((hout 1 rfl).trans rfl) ?_
    exact hk _ _ (Sto.Le.refl _) rfl
  · intro ρ' τ pool rs hl hd hout hw hk
    obtain ⟨_, e0, rfl⟩ := hd 0 rfl _ rfl
    refine o_load (j := 0) (v := .int .i64 a0.1) rfl rfl rfl z_sc3 e0 rfl rfl ?_
    exact hk _ _ (Sto.Le.refl _) rfl
  · intro ρ' τ pool rs hl hd hout hw hk
    obtain ⟨_, e1, rfl⟩ := hd 1 rfl _ rfl
    refine o_conv rfl rfl rfl Tryd.underlying3 Tryd.underlying5 e1 ?_
    exact hk _ _ (Sto.Le.refl _) rfl
  · intro ρ' τ pool rs hl hd hout hw hk
    refine o_fieldAddr rfl rfl rfl z_field89_1 ((hout 1 rfl).trans rfl) ?_
    exact hk _ _ (Sto.Le.refl _) rfl
  · intro ρ' τ pool rs hl hd hout hw hk
    obtain ⟨_, e3, rfl⟩ := hd 3 rfl _ rfl
    refine o_load (j := 0) (v := .int .i64 a0.2.1) rfl rfl rfl z_sc3 e3 rfl rfl ?_
    exact hk _ _ (Sto.Le.refl _) rfl
  · intro ρ' τ pool rs hl hd hout hw hk
    obtain ⟨_, e4, rfl⟩ := hd 4 rfl _ rfl
    refine o_conv rfl rfl rfl Tryd.underlying3 Tryd.underlying5 e4 ?_
    exact hk _ _ (Sto.Le.refl _) rfl
  · intro ρ' τ u Fv pool rs hl hI hu hd hout hw hk
    obtain ⟨_, e2, rfl⟩ := hd 2 rfl _ rfl
    obtain ⟨_, e5, rfl⟩ := hd 5 rfl _ rfl
    have hI0 := hI
    obtain rfl := hI
    refine st_gs [[(b1, .cells [.int .i64 a0.1, .int .i64 a0.2.1, .int .u32 a0.2.2.1, .int .i64 a0.2.2.2.1, .int .i64 a0.2.2.2.2].toArray 89 (0, 0))], pool] rfl ?_
    refine o_lit (dk := (kI .u8)) (xs := [(IntKind.u8.wrap a0.1), (IntKind.u8.wrap a0.2.1)]) (ps := [(0, [.int .u8 (IntKind.u8.wrap a0.1)]), (1, [.int .u8 (IntKind.u8.wrap a0.2.1)])]) (cs := [.int .u8 (IntKind.u8.wrap a0.1), .int .u8 (IntKind.u8.wrap a0.2.1)]) rfl rfl rfl z_slT67 z_zero5 ⟨rfl, ⟨_, e2, rfl⟩, ⟨rfl, ⟨_, e5, rfl⟩, trivial⟩⟩ rfl rfl rfl rfl (Kd.Many.cons (d := (kI .u8)) (x := (IntKind.u8.wrap a0.1)) (a := [.int .u8 (IntKind.u8.wrap a0.1)]) rfl (Kd.Many.cons (d := (kI .u8)) (x := (IntKind.u8.wrap a0.2.1)) (a := [.int .u8 (IntKind.u8.wrap a0.2.1)]) rfl Kd.Many.nil)) (fun v2 g3 ho4 => ?_)
    refine st_ord [1, 0, 0] [[(b1, .cells [.int .i64 a0.1, .int .i64 a0.2.1, .int .u32 a0.2.2.1, .int .i64 a0.2.2.2.1, .int .i64 a0.2.2.2.2].toArray 89 (0, 0))], g3, pool] rfl ?_
    exact hk _ _ [g3] (Sto.Le.refl _) trivial (by exact ⟨v2, g3, rfl, rfl, ho4⟩)
  · intro ρ' τ pool rs hl hd hout hw hk
    refine o_fieldAddr rfl rfl rfl z_field89_2 ((hout 1 rfl).trans rfl) ?_
    exact hk _ _ (Sto.Le.refl _) rfl
  · intro ρ' τ pool rs hl hd hout hw hk
    obtain ⟨_, e7, rfl⟩ := hd 7 rfl _ rfl
    refine o_load (j := 0) (v := .int .u32 a0.2.2.1) rfl rfl rfl z_sc33 e7 rfl rfl ?_
    exact hk _ _ (Sto.Le.refl _) rfl
  · intro ρ' τ pool rs hl hd hout hw hk
    obtain ⟨_, e8, rfl⟩ := hd 8 rfl _ rfl
    refine st_call (foot := []) rfl rfl rfl rfl (evs_cons e8 (evs_cons rfl rfl)) rfl (callV_fn z_en165 (ref02_Word_ok hr9 τ)) ?_
    rintro vτ10 τ10 gsτ10 hl11 ⟨v12, rfl, rfl, hs13⟩
    exact hk _ _ hl11 ⟨v12, rfl, hs13⟩
  · intro ρ' τ u Fv pool rs hl hI hu hd hout hw hk
    obtain ⟨_, e9, v12, rfl, hs13⟩ := hd 9 rfl _ rfl
    obtain ⟨v5, g6, rfl, rfl, ho7⟩ := hI
    refine st_gs [[(b1, .cells [.int .i64 a0.1, .int .i64 a0.2.1, .int .u32 a0.2.2.1, .int .i64 a0.2.2.2.1, .int .i64 a0.2.2.2.2].toArray 89 (0, 0))], g6, pool] rfl ?_
    refine st_ord [1, 0, 0] [g6, [(b1, .cells [.int .i64 a0.1, .int .i64 a0.2.1, .int .u32 a0.2.2.1, .int .i64 a0.2.2.2.1, .int .i64 a0.2.2.2.2].toArray 89 (0, 0))], pool] rfl ?_
    refine o_append (dk := (kI .u8)) (xs := [(IntKind.u8.wrap a0.1), (IntKind.u8.wrap a0.2.1)]) (ys := r8) rfl rfl rfl rfl z_slT67 (hu (by decide) _ rfl) ho7 e9 (Sl.src hs13) hf17 hf18 (fun v14 g15 ho16 => ?_)
    refine st_ord [1, 0, 0] [[(b1, .cells [.int .i64 a0.1, .int .i64 a0.2.1, .int .u32 a0.2.2.1, .int .i64 a0.2.2.2.1, .int .i64 a0.2.2.2.2].toArray 89 (0, 0))], g15, pool] rfl ?_
    exact hk _ _ [g15] (Sto.Le.refl _) trivial (by exact ⟨v14, g15, rfl, rfl, ho16⟩)
  intro ρ' τ22 vals u Fv hl22 hI hu hv hout
  obtain ⟨v19, g20, rfl, rfl, ho21⟩ := hI
  refine st_gs [[(b1, .cells [.int .i64 a0.1, .int .i64 a0.2.1, .int .u32 a0.2.2.1, .int .i64 a0.2.2.2.1, .int .i64 a0.2.2.2.2].toArray 89 (0, 0))], g20] rfl ?_
  refine st_env (ρ' := [(1, .pointer (some ⟨b1, 0, none⟩)), (2, .slice none 0 0), (14, v19)]) ⟨(hout 1 rfl).trans rfl, (hout 2 rfl).trans rfl, (by exact hu _ rfl), trivial⟩ ?_
  refine o_assign rfl rfl rfl rfl ?_
  refine st_end ?_
  refine st_seq ?_
  refine st_region ?_
  refine o_move rfl rfl rfl rfl ?_
  refine o_fieldAddr rfl rfl rfl z_field89_3 rfl ?_
  refine o_load (j := 0) (v := .int .i64 a0.2.2.2.1) rfl rfl rfl z_sc3 rfl rfl rfl ?_
  refine o_conv rfl rfl rfl Tryd.underlying3 Tryd.underlying5 rfl ?_
  refine o_fieldAddr rfl rfl rfl z_field89_4 rfl ?_
  refine o_load (j := 0) (v := .int .i64 a0.2.2.2.2) rfl rfl rfl z_sc3 rfl rfl rfl ?_
  refine o_conv rfl rfl rfl Tryd.underlying3 Tryd.underlying5 rfl ?_
  refine o_lit (dk := (kI .u8)) (xs := [(IntKind.u8.wrap a0.2.2.2.1), (IntKind.u8.wrap a0.2.2.2.2)]) (ps := [(0, [.int .u8 (IntKind.u8.wrap a0.2.2.2.1)]), (1, [.int .u8 (IntKind.u8.wrap a0.2.2.2.2)])]) (cs := [.int .u8 (IntKind.u8.wrap a0.2.2.2.1), .int .u8 (IntKind.u8.wrap a0.2.2.2.2)]) rfl rfl rfl z_slT67 z_zero5 ⟨rfl, ⟨_, rfl, rfl⟩, ⟨rfl, ⟨_, rfl, rfl⟩, trivial⟩⟩ rfl rfl rfl rfl (Kd.Many.cons (d := (kI .u8)) (x := (IntKind.u8.wrap a0.2.2.2.1)) (a := [.int .u8 (IntKind.u8.wrap a0.2.2.2.1)]) rfl (Kd.Many.cons (d := (kI .u8)) (x := (IntKind.u8.wrap a0.2.2.2.2)) (a := [.int .u8 (IntKind.u8.wrap a0.2.2.2.2)]) rfl Kd.Many.nil)) (fun v23 g24 ho25 => ?_)
  obtain ⟨hf29, h⟩ := h
  obtain ⟨hf30, h⟩ := h
  refine st_ord [2, 0, 0] [g20, g24, [(b1, .cells [.int .i64 a0.1, .int .i64 a0.2.1, .int .u32 a0.2.2.1, .int .i64 a0.2.2.2.1, .int .i64 a0.2.2.2.2].toArray 89 (0, 0))]] rfl ?_
  refine o_append (dk := (kI .u8)) (xs := ([(IntKind.u8.wrap a0.1), (IntKind.u8.wrap a0.2.1)] ++ r8)) (ys := [(IntKind.u8.wrap a0.2.2.2.1), (IntKind.u8.wrap a0.2.2.2.2)]) rfl rfl rfl rfl z_slT67 rfl ho21 rfl (Ow.src (j := 1) ho25 rfl) hf29 hf30 (fun v26 g27 ho28 => ?_)
  refine o_assign rfl rfl rfl rfl ?_
  refine st_end ?_
  refine st_freeze (fun τ31 hl32 hg33 => ?_)
  have hs34 := ho28.freeze hl32 hg33
  refine st_ord [] [] rfl ?_
  obtain rfl := Eq.symm h
  exact st_ret (gs' := []) Tryd.func137 rfl (List.Sublist.refl _) (hl22.trans hl32) ⟨_, rfl, rfl, hs34⟩
theorem ref07_Bytes_own_ok {a0 : Int × Int × Int × Int × Int} {r : List Int} (h : ref07_Bytes a0 r) (σ : Sto)  :
    Does Tryd.prog 137 [.agg [.int .i64 a0.1, .int .i64 a0.2.1, .int .u32 a0.2.2.1, .int .i64 a0.2.2.2.1, .int .i64 a0.2.2.2.2].toArray] σ [] (fun v τ gs => ∃ (v31 : Value) (g32 : Grp), gs = [g32] ∧ v31 = v ∧ Ow (kI .u8) 5 τ v31 r g32) := by
  refine call_of Tryd.func137 Tryd.ntmps137 rfl rfl (fun cs fs => ?_)
  refine st_seq ?_
  refine st_region ?_
  refine o_box (cs := [.int .i64 a0.1, .int .i64 a0.2.1, .int .u32 a0.2.2.1, .int .i64 a0.2.2.2.1, .int .i64 a0.2.2.2.2]) rfl rfl rfl rfl rfl (fun b1 => ?_)
  refine o_assign rfl rfl rfl rfl ?_
  refine st_end ?_
  refine st_seq ?_
  obtain ⟨r8, hr9, h⟩ := h
  obtain ⟨hf17, h⟩ := h
  obtain ⟨hf18, h⟩ := h
  refine st_draw41 (gs := [[(b1, .cells [.int .i64 a0.1, .int .i64 a0.2.1, .int .u32 a0.2.2.1, .int .i64 a0.2.2.2.1, .int .i64 a0.2.2.2.2].toArray 89 (0, 0))]]) (F0 := []) 11 2 (tlP [none, none, none, none, none, none, some (0, 0), none, none, none, some (0, 1)]) (tlP [none, none, none, none, none, none, none, none, none, none, none]) (tlNN [[none, some 10, some 14]]) (tl [fun τ v => (.pointer (some ⟨b1, 0, none⟩) : Value) = v,
    fun τ v => (.int .i64 a0.1 : Value) = v,
    fun τ v => (.int .u8 (IntKind.u8.wrap a0.1) : Value) = v,
    fun τ v => (.pointer (some ⟨b1, 1, none⟩) : Value) = v,
    fun τ v => (.int .i64 a0.2.1 : Value) = v,
    fun τ v => (.int .u8 (IntKind.u8.wrap a0.2.1) : Value) = v,
    fun _ _ => True,
    fun τ v => (.pointer (some ⟨b1, 2, none⟩) : Value) = v,
    fun τ v => (.int .u32 a0.2.2.1 : Value) = v,
    fun τ v => ∃ (v12 : Value), (v12 : Value) = v ∧ Sl (kI .u8) τ v12 r8,
    fun _ _ => True]) (tlII [[fun τ u F => F = [],
    fun τ u F => ∃ (v5 : Value) (g6 : Grp), F = [g6] ∧ v5 = u ∧ Ow (kI .u8) 5 τ v5 [(IntKind.u8.wrap a0.1), (IntKind.u8.wrap a0.2.1)] g6,
    fun τ u F => ∃ (v19 : Value) (g20 : Grp), F = [g20] ∧ v19 = u ∧ Ow (kI .u8) 5 τ v19 ([(IntKind.u8.wrap a0.1), (IntKind.u8.wrap a0.2.1)] ++ r8) g20]]) z_mix ?_ (tl_mono ⟨fun _ _ _ _ h => h, ⟨fun _ _ _ _ h => h, ⟨fun _ _ _ _ h => h, ⟨fun _ _ _ _ h => h, ⟨fun _ _ _ _ h => h, ⟨fun _ _ _ _ h => h, ⟨fun _ _ _ _ _ => trivial, ⟨fun _ _ _ _ h => h, ⟨fun _ _ _ _ h => h, ⟨fun _ _ _ hl ⟨v12, hv, hs13⟩ => ⟨v12, hv, hs13.up hl⟩, ⟨fun _ _ _ _ _ => trivial, trivial⟩⟩⟩⟩⟩⟩⟩⟩⟩⟩⟩) (tlII_mono ⟨⟨fun _ _ _ _ hl h => h, ⟨fun _ _ _ _ hl h => (let ⟨v5, g6, hF, hU, ho7⟩ := h; ⟨v5, g6, hF, hU, ho7.up hl⟩), ⟨fun _ _ _ _ hl h => (let ⟨v19, g20, hF, hU, ho21⟩ := h; ⟨v19, g20, hF, hU, ho21.up hl⟩), trivial⟩⟩⟩, trivial⟩) ?_ ?_ ?_ (allB_cons (allB_cons (allB_cons (allB_cons (allB_cons (allB_cons (allB_cons (allB_cons (allB_cons (allB_cons (allB_cons allB_nil ?_) ?_) ?_) ?_) ?_) ?_) ?_) ?_) ?_) ?_) ?_) ?_
  · exact rfl
  · exact rfl
  · exact rfl
  · exact rfl
  · intro ρ' τ pool rs hl hd hout hw hk
    refine o_fieldAddr rfl rfl rfl z_field89_0 ((hout 1 rfl).trans rfl) ?_
    exact hk _ _ (Sto.Le.refl _) rfl
  · intro ρ' τ pool rs hl hd hout hw hk
    obtain ⟨_, e0, rfl⟩ := hd 0 rfl _ rfl
    refine o_load (j := 0) (v := .int .i64 a0.1) rfl rfl rfl z_sc3 e0 rfl rfl ?_
    exact hk _ _ (Sto.Le.refl _) rfl
  · intro ρ' τ pool rs hl hd hout hw hk
    obtain ⟨_, e1, rfl⟩ := hd 1 rfl _ rfl
    refine o_conv rfl rfl rfl Tryd.underlying3 Tryd.underlying5 e1 ?_
    exact hk _ _ (Sto.Le.refl _) rfl
  · intro ρ' τ pool rs hl hd hout hw hk
    refine o_fieldAddr rfl rfl rfl z_field89_1 ((hout 1 rfl).trans rfl) ?_
    exact hk _ _ (Sto.Le.refl _) rfl
  · intro ρ' τ pool rs hl hd hout hw hk
    obtain ⟨_, e3, rfl⟩ := hd 3 rfl _ rfl
    refine o_load (j := 0) (v := .int .i64 a0.2.1) rfl rfl rfl z_sc3 e3 rfl rfl ?_
    exact hk _ _ (Sto.Le.refl _) rfl
  · intro ρ' τ pool rs hl hd hout hw hk
    obtain ⟨_, e4, rfl⟩ := hd 4 rfl _ rfl
    refine o_conv rfl rfl rfl Tryd.underlying3 Tryd.underlying5 e4 ?_
    exact hk _ _ (Sto.Le.refl _) rfl
  · intro ρ' τ u Fv pool rs hl hI hu hd hout hw hk
    obtain ⟨_, e2, rfl⟩ := hd 2 rfl _ rfl
    obtain ⟨_, e5, rfl⟩ := hd 5 rfl _ rfl
    have hI0 := hI
    obtain rfl := hI
    refine st_gs [[(b1, .cells [.int .i64 a0.1, .int .i64 a0.2.1, .int .u32 a0.2.2.1, .int .i64 a0.2.2.2.1, .int .i64 a0.2.2.2.2].toArray 89 (0, 0))], pool] rfl ?_
    refine o_lit (dk := (kI .u8)) (xs := [(IntKind.u8.wrap a0.1), (IntKind.u8.wrap a0.2.1)]) (ps := [(0, [.int .u8 (IntKind.u8.wrap a0.1)]), (1, [.int .u8 (IntKind.u8.wrap a0.2.1)])]) (cs := [.int .u8 (IntKind.u8.wrap a0.1), .int .u8 (IntKind.u8.wrap a0.2.1)]) rfl rfl rfl z_slT67 z_zero5 ⟨rfl, ⟨_, e2, rfl⟩, ⟨rfl, ⟨_, e5, rfl⟩, trivial⟩⟩ rfl rfl rfl rfl (Kd.Many.cons (d := (kI .u8)) (x := (IntKind.u8.wrap a0.1)) (a := [.int .u8 (IntKind.u8.wrap a0.1)]) rfl (Kd.Many.cons (d := (kI .u8)) (x := (IntKind.u8.wrap a0.2.1)) (a := [.int .u8 (IntKind.u8.wrap a0.2.1)]) rfl Kd.Many.nil)) (fun v2 g3 ho4 => ?_)
    refine st_ord [1, 0, 0] [[(b1, .cells [.int .i64 a0.1, .int .i64 a0.2.1, .int .u32 a0.2.2.1, .int .i64 a0.2.2.2.1, .int .i64 a0.2.2.2.2].toArray 89 (0, 0))], g3, pool] rfl ?_
    exact hk _ _ [g3] (Sto.Le.refl _) trivial (by exact ⟨v2, g3, rfl, rfl, ho4⟩)
  · intro ρ' τ pool rs hl hd hout hw hk
    refine o_fieldAddr rfl rfl rfl z_field89_2 ((hout 1 rfl).trans rfl) ?_
    exact hk _ _ (Sto.Le.refl _) rfl
  · intro ρ' τ pool rs hl hd hout hw hk
    obtain ⟨_, e7, rfl⟩ := hd 7 rfl _ rfl
    refine o_load (j := 0) (v := .int .u32 a0.2.2.1) rfl rfl rfl z_sc33 e7 rfl rfl ?_
    exact hk _ _ (Sto.Le.refl _) rfl
  · intro ρ' τ pool rs hl hd hout hw hk
    obtain ⟨_, e8, rfl⟩ := hd 8 rfl _ rfl
    refine st_call (foot := []) rfl rfl rfl rfl (evs_cons e8 (evs_cons rfl rfl)) rfl (callV_fn z_en165 (ref02_Word_ok hr9 τ)) ?_
    rintro vτ10 τ10 gsτ10 hl11 ⟨v12, rfl, rfl, hs13⟩
    exact hk _ _ hl11 ⟨v12, rfl, hs13⟩
  · intro ρ' τ u Fv pool rs hl hI hu hd hout hw hk
    obtain ⟨_, e9, v12, rfl, hs13⟩ := hd 9 rfl _ rfl
    obtain ⟨v5, g6, rfl, rfl, ho7⟩ := hI
    refine st_gs [[(b1, .cells [.int .i64 a0.1, .int .i64 a0.2.1, .int .u32 a0.2.2.1, .int .i64 a0.2.2.2.1, .int .i64 a0.2.2.2.2].toArray 89 (0, 0))], g6, pool] rfl ?_
    refine st_ord [1, 0, 0] [g6, [(b1, .cells [.int .i64 a0.1, .int .i64 a0.2.1, .int .u32 a0.2.2.1, .int .i64 a0.2.2.2.1, .int .i64 a0.2.2.2.2].toArray 89 (0, 0))], pool] rfl ?_
    refine o_append (dk := (kI .u8)) (xs := [(IntKind.u8.wrap a0.1), (IntKind.u8.wrap a0.2.1)]) (ys := r8) rfl rfl rfl rfl z_slT67 (hu (by decide) _ rfl) ho7 e9 (Sl.src hs13) hf17 hf18 (fun v14 g15 ho16 => ?_)
    refine st_ord [1, 0, 0] [[(b1, .cells [.int .i64 a0.1, .int .i64 a0.2.1, .int .u32 a0.2.2.1, .int .i64 a0.2.2.2.1, .int .i64 a0.2.2.2.2].toArray 89 (0, 0))], g15, pool] rfl ?_
    exact hk _ _ [g15] (Sto.Le.refl _) trivial (by exact ⟨v14, g15, rfl, rfl, ho16⟩)
  intro ρ' τ22 vals u Fv hl22 hI hu hv hout
  obtain ⟨v19, g20, rfl, rfl, ho21⟩ := hI
  refine st_gs [[(b1, .cells [.int .i64 a0.1, .int .i64 a0.2.1, .int .u32 a0.2.2.1, .int .i64 a0.2.2.2.1, .int .i64 a0.2.2.2.2].toArray 89 (0, 0))], g20] rfl ?_
  refine st_env (ρ' := [(1, .pointer (some ⟨b1, 0, none⟩)), (2, .slice none 0 0), (14, v19)]) ⟨(hout 1 rfl).trans rfl, (hout 2 rfl).trans rfl, (by exact hu _ rfl), trivial⟩ ?_
  refine o_assign rfl rfl rfl rfl ?_
  refine st_end ?_
  refine st_seq ?_
  refine st_region ?_
  refine o_move rfl rfl rfl rfl ?_
  refine o_fieldAddr rfl rfl rfl z_field89_3 rfl ?_
  refine o_load (j := 0) (v := .int .i64 a0.2.2.2.1) rfl rfl rfl z_sc3 rfl rfl rfl ?_
  refine o_conv rfl rfl rfl Tryd.underlying3 Tryd.underlying5 rfl ?_
  refine o_fieldAddr rfl rfl rfl z_field89_4 rfl ?_
  refine o_load (j := 0) (v := .int .i64 a0.2.2.2.2) rfl rfl rfl z_sc3 rfl rfl rfl ?_
  refine o_conv rfl rfl rfl Tryd.underlying3 Tryd.underlying5 rfl ?_
  refine o_lit (dk := (kI .u8)) (xs := [(IntKind.u8.wrap a0.2.2.2.1), (IntKind.u8.wrap a0.2.2.2.2)]) (ps := [(0, [.int .u8 (IntKind.u8.wrap a0.2.2.2.1)]), (1, [.int .u8 (IntKind.u8.wrap a0.2.2.2.2)])]) (cs := [.int .u8 (IntKind.u8.wrap a0.2.2.2.1), .int .u8 (IntKind.u8.wrap a0.2.2.2.2)]) rfl rfl rfl z_slT67 z_zero5 ⟨rfl, ⟨_, rfl, rfl⟩, ⟨rfl, ⟨_, rfl, rfl⟩, trivial⟩⟩ rfl rfl rfl rfl (Kd.Many.cons (d := (kI .u8)) (x := (IntKind.u8.wrap a0.2.2.2.1)) (a := [.int .u8 (IntKind.u8.wrap a0.2.2.2.1)]) rfl (Kd.Many.cons (d := (kI .u8)) (x := (IntKind.u8.wrap a0.2.2.2.2)) (a := [.int .u8 (IntKind.u8.wrap a0.2.2.2.2)]) rfl Kd.Many.nil)) (fun v23 g24 ho25 => ?_)
  obtain ⟨hf29, h⟩ := h
  obtain ⟨hf30, h⟩ := h
  refine st_ord [2, 0, 0] [g20, g24, [(b1, .cells [.int .i64 a0.1, .int .i64 a0.2.1, .int .u32 a0.2.2.1, .int .i64 a0.2.2.2.1, .int .i64 a0.2.2.2.2].toArray 89 (0, 0))]] rfl ?_
  refine o_append (dk := (kI .u8)) (xs := ([(IntKind.u8.wrap a0.1), (IntKind.u8.wrap a0.2.1)] ++ r8)) (ys := [(IntKind.u8.wrap a0.2.2.2.1), (IntKind.u8.wrap a0.2.2.2.2)]) rfl rfl rfl rfl z_slT67 rfl ho21 rfl (Ow.src (j := 1) ho25 rfl) hf29 hf30 (fun v26 g27 ho28 => ?_)
  refine o_assign rfl rfl rfl rfl ?_
  refine st_end ?_
  refine st_ord [0] [g27] rfl ?_
  obtain rfl := Eq.symm h
  exact st_ret (gs' := [g27]) Tryd.func137 rfl (List.Sublist.refl _) hl22 ⟨_, _, rfl, rfl, ho28⟩
theorem ref08_Segment_ok {a0 : (Int × Int × Int × Int × Int) × List Int} {v1 : Value} {r : List Int} (h : ref08_Segment a0 r) (σ : Sto) (hs2 : Sl (kI .u8) σ v1 a0.2) :
    Does Tryd.prog 100 [.agg [.int .i64 a0.1.1, .int .i64 a0.1.2.1, .int .u32 a0.1.2.2.1, .int .i64 a0.1.2.2.2.1, .int .i64 a0.1.2.2.2.2, v1].toArray] σ [] (fun v τ gs => ∃ (v63 : Value), gs = [] ∧ v63 = v ∧ Sl (kI .u8) τ v63 r) := by
  refine call_of Tryd.func100 Tryd.ntmps100 rfl rfl (fun cs fs => ?_)
  refine st_seq ?_
  refine st_region ?_
  refine o_box (cs := [.int .i64 a0.1.1, .int .i64 a0.1.2.1, .int .u32 a0.1.2.2.1, .int .i64 a0.1.2.2.2.1, .int .i64 a0.1.2.2.2.2, v1]) rfl rfl rfl rfl rfl (fun b3 => ?_)
  refine o_assign rfl rfl rfl rfl ?_
  refine st_end ?_
  refine st_seq ?_
  obtain ⟨r4, hr5, h⟩ := h
  obtain ⟨hf17, h⟩ := h
  obtain ⟨hf18, h⟩ := h
  refine st_draw41 (gs := [[(b3, .cells [.int .i64 a0.1.1, .int .i64 a0.1.2.1, .int .u32 a0.1.2.2.1, .int .i64 a0.1.2.2.2.1, .int .i64 a0.1.2.2.2.2, v1].toArray 91 (0, 0))]]) (F0 := []) 6 2 (tlP [none, none, some (0, 0), none, none, some (0, 1)]) (tlP [none, none, none, none, none, none]) (tlNN [[none, some 6, some 9]]) (tl [fun τ v => (.pointer (some ⟨b3, 0, none⟩) : Value) = v,
    fun τ v => (.agg [.int .i64 a0.1.1, .int .i64 a0.1.2.1, .int .u32 a0.1.2.2.1, .int .i64 a0.1.2.2.2.1, .int .i64 a0.1.2.2.2.2].toArray : Value) = v,
    fun _ _ => True,
    fun τ v => (.pointer (some ⟨b3, 5, none⟩) : Value) = v,
    fun τ v => (v1 : Value) = v,
    fun _ _ => True]) (tlII [[fun τ u F => F = [],
    fun τ u F => ∃ (v11 : Value) (g12 : Grp), F = [g12] ∧ v11 = u ∧ Ow (kI .u8) 5 τ v11 r4 g12,
    fun τ u F => ∃ (v19 : Value) (g20 : Grp), F = [g20] ∧ v19 = u ∧ Ow (kI .u8) 5 τ v19 (r4 ++ a0.2) g20]]) z_mix ?_ (tl_mono ⟨fun _ _ _ _ h => h, ⟨fun _ _ _ _ h => h, ⟨fun _ _ _ _ _ => trivial, ⟨fun _ _ _ _ h => h, ⟨fun _ _ _ _ h => h, ⟨fun _ _ _ _ _ => trivial, trivial⟩⟩⟩⟩⟩⟩) (tlII_mono ⟨⟨fun _ _ _ _ hl h => h, ⟨fun _ _ _ _ hl h => (let ⟨v11, g12, hF, hU, ho13⟩ := h; ⟨v11, g12, hF, hU, ho13.up hl⟩), ⟨fun _ _ _ _ hl h => (let ⟨v19, g20, hF, hU, ho21⟩ := h; ⟨v19, g20, hF, hU, ho21.up hl⟩), trivial⟩⟩⟩, trivial⟩) ?_ ?_ ?_ (allB_cons (allB_cons (allB_cons (allB_cons (allB_cons (allB_cons allB_nil ?_) ?_) ?_) ?_) ?_) ?_) ?_
  · exact rfl
  · exact rfl
  · exact rfl
  · exact rfl
  · intro ρ' τ pool rs hl hd hout hw hk
    refine o_fieldAddr rfl rfl rfl z_field91_0 ((hout 1 rfl).trans rfl) ?_
    exact hk _ _ (Sto.Le.refl _) rfl
  · intro ρ' τ pool rs hl hd hout hw hk
    obtain ⟨_, e0, rfl⟩ := hd 0 rfl _ rfl
    refine o_loadN (j := 0) (vs := [.int .i64 a0.1.1, .int .i64 a0.1.2.1, .int .u32 a0.1.2.2.1, .int .i64 a0.1.2.2.2.1, .int .i64 a0.1.2.2.2.2]) rfl rfl rfl z_agg89 e0 rfl rfl ?_
    exact hk _ _ (Sto.Le.refl _) rfl
  · intro ρ' τ u Fv pool rs hl hI hu hd hout hw hk
    obtain ⟨_, e1, rfl⟩ := hd 1 rfl _ rfl
    have hI0 := hI
    obtain rfl := hI
    refine st_gs [[(b3, .cells [.int .i64 a0.1.1, .int .i64 a0.1.2.1, .int .u32 a0.1.2.2.1, .int .i64 a0.1.2.2.2.1, .int .i64 a0.1.2.2.2.2, v1].toArray 91 (0, 0))], pool] rfl ?_
    refine st_call (foot := []) rfl rfl rfl rfl (evs_cons e1 rfl) rfl (callV_fn z_en137 (ref07_Bytes_own_ok hr5 τ)) ?_
    rintro vτ6 τ6 gsτ6 hl7 ⟨v8, g9, rfl, rfl, ho10⟩
    refine st_ord [1, 0, 0] [[(b3, .cells [.int .i64 a0.1.1, .int .i64 a0.1.2.1, .int .u32 a0.1.2.2.1, .int .i64 a0.1.2.2.2.1, .int .i64 a0.1.2.2.2.2, v1].toArray 91 (0, 0))], g9, pool] rfl ?_
    exact hk _ _ [g9] hl7 trivial (by exact ⟨v8, g9, rfl, rfl, ho10⟩)
  · intro ρ' τ pool rs hl hd hout hw hk
    refine o_fieldAddr rfl rfl rfl z_field91_1 ((hout 1 rfl).trans rfl) ?_
    exact hk _ _ (Sto.Le.refl _) rfl
  · intro ρ' τ pool rs hl hd hout hw hk
    obtain ⟨_, e3, rfl⟩ := hd 3 rfl _ rfl
    refine o_load (j := 0) (v := v1) rfl rfl rfl z_sc67 e3 rfl rfl ?_
    exact hk _ _ (Sto.Le.refl _) rfl
  · intro ρ' τ u Fv pool rs hl hI hu hd hout hw hk
    obtain ⟨_, e4, rfl⟩ := hd 4 rfl _ rfl
    obtain ⟨v11, g12, rfl, rfl, ho13⟩ := hI
    refine st_gs [[(b3, .cells [.int .i64 a0.1.1, .int .i64 a0.1.2.1, .int .u32 a0.1.2.2.1, .int .i64 a0.1.2.2.2.1, .int .i64 a0.1.2.2.2.2, v1].toArray 91 (0, 0))], g12, pool] rfl ?_
    refine st_ord [1, 0, 0] [g12, [(b3, .cells [.int .i64 a0.1.1, .int .i64 a0.1.2.1, .int .u32 a0.1.2.2.1, .int .i64 a0.1.2.2.2.1, .int .i64 a0.1.2.2.2.2, v1].toArray 91 (0, 0))], pool] rfl ?_
    refine o_append (dk := (kI .u8)) (xs := r4) (ys := a0.2) rfl rfl rfl rfl z_slT67 (hu (by decide) _ rfl) ho13 e4 (Sl.src (hs2.up hl)) hf17 hf18 (fun v14 g15 ho16 => ?_)
    refine st_ord [1, 0, 0] [[(b3, .cells [.int .i64 a0.1.1, .int .i64 a0.1.2.1, .int .u32 a0.1.2.2.1, .int .i64 a0.1.2.2.2.1, .int .i64 a0.1.2.2.2.2, v1].toArray 91 (0, 0))], g15, pool] rfl ?_
    exact hk _ _ [g15] (Sto.Le.refl _) trivial (by exact ⟨v14, g15, rfl, rfl, ho16⟩)
  intro ρ' τ22 vals u Fv hl22 hI hu hv hout
  obtain ⟨v19, g20, rfl, rfl, ho21⟩ := hI
  refine st_gs [[(b3, .cells [.int .i64 a0.1.1, .int .i64 a0.1.2.1, .int .u32 a0.1.2.2.1, .int .i64 a0.1.2.2.2.1, .int .i64 a0.1.2.2.2.2, v1].toArray 91 (0, 0))], g20] rfl ?_
  refine st_env (ρ' := [(2, .slice none 0 0), (9, v19)]) ⟨(hout 2 rfl).trans rfl, (by exact hu _ rfl), trivial⟩ ?_
  refine o_assign rfl rfl rfl rfl ?_
  refine st_end ?_
  refine st_seq ?_
  refine st_region ?_
  refine o_lit (dk := (kI .u8)) (xs := ([] : List Int)) (ps := []) (cs := []) rfl rfl rfl z_slT67 z_zero5 trivial rfl rfl rfl rfl Kd.Many.nil (fun v23 g24 ho25 => ?_)
  refine o_move rfl rfl rfl rfl ?_
  obtain ⟨hf29, h⟩ := h
  obtain ⟨hf30, h⟩ := h
  refine o_append (dk := (kI .u8)) (xs := ([] : List Int)) (ys := (r4 ++ a0.2)) rfl rfl rfl rfl z_slT67 rfl ho25 rfl (Ow.src (j := 2) ho21 rfl) hf29 hf30 (fun v26 g27 ho28 => ?_)
  refine o_move rfl rfl rfl rfl ?_
  obtain ⟨r38, hr39, h⟩ := h
  refine st_ord [2, 0, 0] [g20, g27, [(b3, .cells [.int .i64 a0.1.1, .int .i64 a0.1.2.1, .int .u32 a0.1.2.2.1, .int .i64 a0.1.2.2.2.1, .int .i64 a0.1.2.2.2.2, v1].toArray 91 (0, 0))]] rfl ?_
  refine st_freeze (fun τ31 hl32 hg33 => ?_)
  have hs34 := ho21.freeze hl32 hg33
  refine st_call (foot := []) rfl rfl rfl rfl rfl rfl (callV_fn z_en140 (ref04_Sum_ok hr39 τ31 hs34)) ?_
  rintro vτ40 τ40 gsτ40 hl41 ⟨rfl, rfl⟩
  obtain ⟨r42, hr43, h⟩ := h
  refine st_call (foot := []) rfl rfl rfl rfl rfl rfl (callV_fn z_en139 (ref04_Bytes_ok hr43 τ40)) ?_
  rintro vτ44 τ44 gsτ44 hl45 ⟨v46, rfl, rfl, hs47⟩
  obtain ⟨hf51, h⟩ := h
  obtain ⟨hf52, h⟩ := h
  refine o_append (dk := (kI .u8)) (xs := (([] : List Int) ++ (r4 ++ a0.2))) (ys := r42) rfl rfl rfl rfl z_slT67 rfl (ho28.up ((hl32.trans hl41).trans hl45)) rfl (Sl.src hs47) hf51 hf52 (fun v48 g49 ho50 => ?_)
  obtain ⟨r57, hr58, h⟩ := h
  refine st_freeze (fun τ53 hl54 hg55 => ?_)
  have hs56 := ho50.freeze hl54 hg55
  refine st_call (foot := []) rfl rfl rfl rfl rfl rfl (callV_fn z_en138 (ref05_Encode_ok hr58 τ53 hs56)) ?_
  rintro vτ59 τ59 gsτ59 hl60 ⟨v61, rfl, rfl, hs62⟩
  refine o_assign rfl rfl rfl rfl ?_
  refine st_end ?_
  refine st_ord [] [] rfl ?_
  obtain rfl := Eq.symm h
  exact st_ret (gs' := []) Tryd.func100 rfl (List.Sublist.refl _) (((((hl22.trans hl32).trans hl41).trans hl45).trans hl54).trans hl60) ⟨_, rfl, rfl, hs62⟩
theorem ref08_Wire_ok {a0 : List ((Int × Int × Int × Int × Int) × List Int)} {v1 : Value} {r : List Int} (h : ref08_Wire a0 r) (σ : Sto) (hs2 : Sl (kP (kP (kI .i64) (kP (kI .i64) (kP (kI .u32) (kP (kI .i64) (kI .i64))))) (kSl (kI .u8))) σ v1 a0) :
    Does Tryd.prog 52 [v1] σ [] (fun v τ gs => ∃ (v52 : Value), gs = [] ∧ v52 = v ∧ Sl (kI .u8) τ v52 r) := by
  refine call_of Tryd.func52 Tryd.ntmps52 rfl rfl (fun cs fs => ?_)
  refine st_seq ?_
  refine st_region ?_
  refine o_assign rfl rfl rfl rfl ?_
  refine st_end ?_
  refine st_seq ?_
  refine st_region ?_
  refine o_assign rfl rfl rfl rfl ?_
  refine st_end ?_
  refine st_seq ?_
  refine st_cut (fun ρ τ3 gs => ∃ (s3 : List Int) (v4 : Value) (g5 : Grp), ref08_Wire_j1 s3 r ∧ σ.Le τ3 ∧ ρ = [(2, .slice none 0 0), (3, v4)] ∧ gs = [g5] ∧ Ow (kI .u8) 5 τ3 v4 s3 g5) ?_ (fun hk3 => ?_)
  · rintro ρ3 τ3 gs3 ⟨s3, v4, g5, h, hl3, rfl, rfl, ho6⟩
    refine st_seq ?_
    refine st_region ?_
    refine o_move rfl rfl rfl rfl ?_
    refine o_assign rfl rfl rfl rfl ?_
    refine st_end ?_
    refine st_freeze (fun τ7 hl8 hg9 => ?_)
    have hs10 := ho6.freeze hl8 hg9
    obtain rfl := Eq.symm h
    exact st_ret (gs' := []) Tryd.func52 rfl (List.Sublist.refl _) (hl3.trans hl8) ⟨_, rfl, rfl, hs10⟩
  refine st_seq ?_
  refine st_region ?_
  refine o_assign rfl rfl rfl rfl ?_
  refine st_end ?_
  obtain ⟨e13, hL13, hA13⟩ := h
  refine st_env (ρ' := [(0, v1), (2, .slice none 0 0), (3, .slice none 0 0), (4, .int .i64 0)]) ⟨rfl, rfl, rfl, rfl, trivial⟩ ?_
  refine st_addNil ?_
  refine st_loop hL13 (fun (s13 : List Int × Int) ρ τ13 gs => σ.Le τ13 ∧ ∃ (v14 : Value) (g15 : Grp), ρ = [(0, v1), (2, .slice none 0 0), (3, v14), (4, .int .i64 s13.2)] ∧ gs = [g15] ∧ Ow (kI .u8) 5 τ13 v14 s13.1 g15) ⟨Sto.Le.refl _, _, _, rfl, rfl, Ow.nil⟩ ?_
  rintro s13 o13 h he13 ρ13 τ13 gs13 ⟨hl13, v14, g15, rfl, rfl, ho16⟩ hn13
  refine st_seq ?_
  refine st_seq ?_
  refine st_region ?_
  refine o_move rfl rfl rfl rfl ?_
  refine o_move rfl rfl rfl rfl ?_
  refine o_lenI rfl rfl rfl z_slT83 rfl (hs2.up hl13) ?_
  refine o_ibin (v := .bool (decide (s13.2 < (a0.length : Int)))) rfl rfl rfl rfl rfl rfl ?_
  refine st_end ?_
  refine st_cond rfl (fun hc => ?_) (fun hc => ?_)
  · replace h := (if_pos hc).mp h
    refine st_skip ?_
    refine st_seq ?_
    refine st_block ?_
    refine st_seq ?_
    refine st_region ?_
    refine o_move rfl rfl rfl rfl ?_
    refine o_lit (dk := (kI .u8)) (xs := [0]) (ps := [(0, [.int .u8 0])]) (cs := [.int .u8 0]) rfl rfl rfl z_slT67 z_zero5 ⟨rfl, ⟨_, rfl, rfl⟩, trivial⟩ rfl rfl rfl rfl (Kd.Many.cons (d := (kI .u8)) (x := 0) (a := [.int .u8 0]) rfl Kd.Many.nil) (fun v17 g18 ho19 => ?_)
    obtain ⟨hf23, h⟩ := h
    obtain ⟨hf24, h⟩ := h
    refine st_ord [1, 0] [g15, g18] rfl ?_
    refine o_append (dk := (kI .u8)) (xs := s13.1) (ys := [0]) rfl rfl rfl rfl z_slT67 rfl ho16 rfl (Ow.src (j := 1) ho19 rfl) hf23 hf24 (fun v20 g21 ho22 => ?_)
    refine o_assign rfl rfl rfl rfl ?_
    refine st_end ?_
    refine st_seq ?_
    refine st_region ?_
    refine o_move rfl rfl rfl rfl ?_
    refine o_move rfl rfl rfl rfl ?_
    refine o_move rfl rfl rfl rfl ?_
    obtain ⟨q25, hf26, h⟩ := h
    refine o_index rfl rfl rfl z_slT83 rfl rfl (hs2.up hl13) rfl hf26 (fun b27 of28 vs hc30 hrep => ?_)
    obtain ⟨_, _, rfl, ⟨_, _, rfl, rfl, ⟨_, _, rfl, rfl, ⟨_, _, rfl, rfl, ⟨_, _, rfl, rfl, rfl⟩⟩⟩⟩, ⟨v29, rfl, hs31⟩⟩ := hrep
    refine o_loadIN (vs := [.int .i64 q25.1.1, .int .i64 q25.1.2.1, .int .u32 q25.1.2.2.1, .int .i64 q25.1.2.2.2.1, .int .i64 q25.1.2.2.2.2, v29]) rfl rfl rfl z_agg91 rfl rfl (celn_part 0 rfl hc30) ?_
    obtain ⟨r32, hr33, h⟩ := h
    refine st_call (foot := []) rfl rfl rfl rfl rfl rfl (callV_fn z_en100 (ref08_Segment_ok hr33 τ13 hs31)) ?_
    rintro vτ34 τ34 gsτ34 hl35 ⟨v36, rfl, rfl, hs37⟩
    obtain ⟨hf41, h⟩ := h
    obtain ⟨hf42, h⟩ := h
    refine o_append (dk := (kI .u8)) (xs := (s13.1 ++ [0])) (ys := r32) rfl rfl rfl rfl z_slT67 rfl (ho22.up hl35) rfl (Sl.src hs37) hf41 hf42 (fun v38 g39 ho40 => ?_)
    refine o_assign rfl rfl rfl rfl ?_
    refine st_end ?_
    refine st_region ?_
    refine o_move rfl rfl rfl rfl ?_
    refine o_lit (dk := (kI .u8)) (xs := [0]) (ps := [(0, [.int .u8 0])]) (cs := [.int .u8 0]) rfl rfl rfl z_slT67 z_zero5 ⟨rfl, ⟨_, rfl, rfl⟩, trivial⟩ rfl rfl rfl rfl (Kd.Many.cons (d := (kI .u8)) (x := 0) (a := [.int .u8 0]) rfl Kd.Many.nil) (fun v43 g44 ho45 => ?_)
    obtain ⟨hf49, h⟩ := h
    obtain ⟨hf50, h⟩ := h
    refine st_ord [1, 0, 0] [g39, g44, g18] rfl ?_
    refine o_append (dk := (kI .u8)) (xs := ((s13.1 ++ [0]) ++ r32)) (ys := [0]) rfl rfl rfl rfl z_slT67 rfl ho40 rfl (Ow.src (j := 1) ho45 rfl) hf49 hf50 (fun v46 g47 ho48 => ?_)
    refine o_assign rfl rfl rfl rfl ?_
    refine st_end ?_
    refine st_inBlock ?_
    refine st_region ?_
    refine o_move rfl rfl rfl rfl ?_
    refine o_ibin (v := .int .i64 (IntKind.i64.wrap (s13.2 + 1))) rfl rfl rfl rfl rfl rfl ?_
    refine o_assign rfl rfl rfl rfl ?_
    refine st_end ?_
    refine st_env (ρ' := [(0, v1), (2, .slice none 0 0), (3, v46), (4, .int .i64 (IntKind.i64.wrap (s13.2 + 1)))]) ⟨rfl, rfl, rfl, rfl, trivial⟩ ?_
    refine st_ord [0] [g47] rfl ?_
    exact hn13 _ _ _ _ h ⟨(hl13.trans hl35), _, _, rfl, rfl, ho48⟩
  · replace h := (if_neg (ne_t hc)).mp h
    refine st_exit rfl ?_
    obtain rfl := he13 _ h
    replace h := hA13
    refine st_env (ρ' := [(2, .slice none 0 0), (3, v14)]) ⟨rfl, rfl, trivial⟩ ?_
    exact hk3 _ _ _ ⟨s13.1, _, _, h, hl13, rfl, rfl, ho16⟩
end Go.Rel
