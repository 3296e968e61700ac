import Derived.Test.YtlamkclnkbnedaaURel
import Derived.Test.YtlamkclnkbnedaaUFacts
/-! The walks. -/
set_option linter.unusedVariables false
set_option linter.unusedSimpArgs false
set_option maxRecDepth 4000
namespace Go.Rel
open Go Go.Eng Go.Proofs
theorem crc_shift_ok {a0 : Int} {r : Int} (h : crc_shift a0 r) (σ : Sto)  :
    Does Try.prog 74 [.int .u32 a0] σ [] (fun v τ gs => gs = [] ∧ .int .u32 r = v) := by
  refine call_of Try.func74 Try.ntmps74 rfl rfl (fun cs fs => ?_)
  refine st_seq ?_
  refine st_region ?_
  refine o_assign rfl rfl rfl rfl ?_
  refine st_end ?_
  refine st_seq ?_
  refine st_cut (fun ρ τ1 gs => ∃ (s1 : Int), crc_shift_j1 s1 r ∧ σ.Le τ1 ∧ ρ = [(0, .int .u32 s1), (2, .int .u32 0)] ∧ gs = []) ?_ (fun hk1 => ?_)
  · rintro ρ1 τ1 gs1 ⟨s1, h, hl1, rfl, rfl⟩
    refine st_seq ?_
    refine st_region ?_
    refine o_move rfl rfl rfl rfl ?_
    refine o_assign rfl rfl rfl rfl ?_
    refine st_end ?_
    obtain rfl := Eq.symm h
    exact st_ret (gs' := []) Try.func74 rfl (List.Sublist.refl _) hl1 ⟨rfl, rfl⟩
  refine st_seq ?_
  refine st_region ?_
  refine o_move rfl rfl rfl rfl ?_
  refine st_end ?_
  obtain ⟨e2, hL2, hA2⟩ := h
  refine st_env (ρ' := [(0, .int .u32 a0), (2, .int .u32 0), (3, .int .i64 0)]) ⟨rfl, rfl, rfl, trivial⟩ ?_
  refine st_loop hL2 (fun (s2 : Int × Int) ρ τ2 gs => σ.Le τ2 ∧ ρ = [(0, .int .u32 s2.1), (2, .int .u32 0), (3, .int .i64 s2.2)] ∧ gs = []) ⟨Sto.Le.refl _, rfl, rfl⟩ ?_
  rintro s2 o2 h he2 ρ2 τ2 gs2 ⟨hl2, rfl, rfl⟩ hn2
  refine st_seq ?_
  refine st_region ?_
  refine o_ibin (v := .bool (decide (s2.2 < 8))) rfl rfl rfl rfl rfl rfl ?_
  refine st_end ?_
  refine st_seq ?_
  refine st_cond rfl (fun hc => ?_) (fun hc => ?_)
  · replace h := (if_pos hc).mp h
    refine st_skip ?_
    refine st_seq ?_
    refine st_block ?_
    refine st_region ?_
    refine o_move rfl rfl rfl rfl ?_
    refine o_shr rfl rfl rfl rfl rfl (by decide) ?_
    refine o_move rfl rfl rfl rfl ?_
    refine o_ibin (v := .int .u32 (iand .u32 s2.1 1)) rfl rfl rfl rfl rfl rfl ?_
    refine o_neg rfl rfl rfl rfl ?_
    refine o_ibin (v := .int .u32 (iand .u32 3988292384 (IntKind.u32.wrap (0 - (iand .u32 s2.1 1))))) rfl rfl rfl rfl rfl rfl ?_
    refine o_ibin (v := .int .u32 (ixor .u32 (ishr .u32 s2.1 1) (iand .u32 3988292384 (IntKind.u32.wrap (0 - (iand .u32 s2.1 1)))))) rfl rfl rfl rfl rfl rfl ?_
    refine o_assign rfl rfl rfl rfl ?_
    refine st_end ?_
    refine st_inBlock ?_
    refine st_region ?_
    refine o_ibin (v := .int .i64 (IntKind.i64.wrap (s2.2 + 1))) rfl rfl rfl rfl rfl rfl ?_
    refine o_move rfl rfl rfl rfl ?_
    refine st_end ?_
    refine st_env (ρ' := [(0, .int .u32 (ixor .u32 (ishr .u32 s2.1 1) (iand .u32 3988292384 (IntKind.u32.wrap (0 - (iand .u32 s2.1 1)))))), (2, .int .u32 0), (3, .int .i64 (IntKind.i64.wrap (s2.2 + 1)))]) ⟨rfl, rfl, rfl, trivial⟩ ?_
    exact hn2 _ _ _ _ h ⟨hl2, rfl, rfl⟩
  · replace h := (if_neg (ne_t hc)).mp h
    refine st_exit rfl ?_
    obtain rfl := he2 _ h
    replace h := hA2
    refine st_env (ρ' := [(0, .int .u32 s2.1), (2, .int .u32 0)]) ⟨rfl, rfl, trivial⟩ ?_
    exact hk1 _ _ _ ⟨s2.1, h, hl2, rfl, rfl⟩
theorem crc_New_ok  {r : List Int} (h : crc_New r) (σ : Sto)  :
    Does Try.prog 49 [] σ [] (fun v τ gs => ∃ (bi19 : Nat), gs = [] ∧ .pointer (some ⟨bi19, 0, none⟩) = v ∧ CelN τ ⟨bi19, 0, none⟩ (cellsN (Value.int .u32) 0 1024 r)) := by
  refine call_of Try.func49 Try.ntmps49 rfl rfl (fun cs fs => ?_)
  refine st_seq ?_
  refine st_region ?_
  refine o_assign rfl rfl rfl rfl ?_
  refine st_end ?_
  refine st_seq ?_
  refine st_region ?_
  refine o_build (ps := []) (cs := (cellsN (Value.int .u32) 0 1024 (List.replicate 1024 0))) rfl rfl rfl z_struct131 trivial rfl ?_
  refine o_box (cs := (cellsN (Value.int .u32) 0 1024 (List.replicate 1024 0))) rfl rfl rfl rfl rfl (fun b1 => ?_)
  refine o_assign rfl rfl rfl rfl ?_
  refine st_end ?_
  refine st_seq ?_
  refine st_cut (fun ρ τ2 gs => ∃ (s2 : List Int), crc_New_j1 s2 r ∧ σ.Le τ2 ∧ ρ = [(0, .pointer none), (1, .pointer (some ⟨b1, 0, none⟩))] ∧ gs = [[(b1, .cells (cellsN (Value.int .u32) 0 1024 s2).toArray 131 (0, 0))]]) ?_ (fun hk2 => ?_)
  · rintro ρ2 τ2 gs2 ⟨s2, h, hl2, rfl, rfl⟩
    refine st_seq ?_
    refine st_region ?_
    refine o_move rfl rfl rfl rfl ?_
    refine o_assign rfl rfl rfl rfl ?_
    refine st_end ?_
    refine st_freeze (fun τ3 hl4 hg5 => ?_)
    obtain rfl := Eq.symm h
    exact st_ret (gs' := []) Try.func49 rfl (List.Sublist.refl _) (hl2.trans hl4) ⟨_, rfl, rfl, (celn_box hg5)⟩
  refine st_seq ?_
  refine st_region ?_
  refine o_move rfl rfl rfl rfl ?_
  refine st_end ?_
  obtain ⟨e6, hL6, hA6⟩ := h
  refine st_env (ρ' := [(0, .pointer none), (1, .pointer (some ⟨b1, 0, none⟩)), (7, .int .i64 0)]) ⟨rfl, rfl, rfl, trivial⟩ ?_
  refine st_loop hL6 (fun (s6 : Int × List Int) ρ τ6 gs => σ.Le τ6 ∧ ρ = [(0, .pointer none), (1, .pointer (some ⟨b1, 0, none⟩)), (7, .int .i64 s6.1)] ∧ gs = [[(b1, .cells (cellsN (Value.int .u32) 0 1024 s6.2).toArray 131 (0, 0))]]) ⟨Sto.Le.refl _, rfl, rfl⟩ ?_
  rintro s6 o6 h he6 ρ6 τ6 gs6 ⟨hl6, rfl, rfl⟩ hn6
  refine st_seq ?_
  refine st_region ?_
  refine o_ibin (v := .bool (decide (s6.1 < 256))) rfl rfl rfl rfl rfl rfl ?_
  refine st_end ?_
  refine st_seq ?_
  refine st_cond rfl (fun hc => ?_) (fun hc => ?_)
  · replace h := (if_pos hc).mp h
    refine st_skip ?_
    refine st_seq ?_
    refine st_cut (fun ρ τ7 gs => ∃ (s7 : List Int), crc_New_j3 s6 s7 o6 ∧ τ6.Le τ7 ∧ ρ = [(0, .pointer none), (1, .pointer (some ⟨b1, 0, none⟩)), (7, .int .i64 s6.1)] ∧ gs = [[(b1, .cells (cellsN (Value.int .u32) 0 1024 s7).toArray 131 (0, 0))]]) ?_ (fun hk7 => ?_)
    · rintro ρ7 τ7 gs7 ⟨s7, h, hl7, rfl, rfl⟩
      refine st_region ?_
      refine o_ibin (v := .int .i64 (IntKind.i64.wrap (s6.1 + 1))) rfl rfl rfl rfl rfl rfl ?_
      refine o_move rfl rfl rfl rfl ?_
      refine st_end ?_
      refine st_env (ρ' := [(0, .pointer none), (1, .pointer (some ⟨b1, 0, none⟩)), (7, .int .i64 (IntKind.i64.wrap (s6.1 + 1)))]) ⟨rfl, rfl, rfl, trivial⟩ ?_
      exact hn6 _ _ _ _ h ⟨(hl6.trans hl7), rfl, rfl⟩
    refine st_block ?_
    refine st_seq ?_
    refine st_region ?_
    refine o_move rfl rfl rfl rfl ?_
    refine o_assign rfl rfl rfl rfl ?_
    refine st_end ?_
    refine st_seq ?_
    refine st_region ?_
    refine o_move rfl rfl rfl rfl ?_
    refine o_conv rfl rfl rfl Try.underlying3 Try.underlying22 rfl ?_
    refine o_assign rfl rfl rfl rfl ?_
    refine st_end ?_
    refine st_seq ?_
    refine st_region ?_
    refine o_move rfl rfl rfl rfl ?_
    refine st_end ?_
    obtain ⟨e8, hL8, hA8⟩ := h
    refine st_env (ρ' := [(0, .pointer none), (1, .pointer (some ⟨b1, 0, none⟩)), (7, .int .i64 s6.1), (2, .int .i64 s6.1), (3, .int .u32 (IntKind.u32.wrap s6.1)), (12, .int .i64 0)]) ⟨rfl, rfl, rfl, rfl, rfl, rfl, trivial⟩ ?_
    refine st_loop hL8 (fun (s8 : Int × Int × List Int) ρ τ8 gs => τ6.Le τ8 ∧ ρ = [(0, .pointer none), (1, .pointer (some ⟨b1, 0, none⟩)), (7, .int .i64 s6.1), (2, .int .i64 s6.1), (3, .int .u32 s8.1), (12, .int .i64 s8.2.1)] ∧ gs = [[(b1, .cells (cellsN (Value.int .u32) 0 1024 s8.2.2).toArray 131 (0, 0))]]) ⟨Sto.Le.refl _, rfl, rfl⟩ ?_
    rintro s8 o8 h he8 ρ8 τ8 gs8 ⟨hl8, rfl, rfl⟩ hn8
    refine st_seq ?_
    refine st_region ?_
    refine o_ibin (v := .bool (decide (s8.2.1 < 4))) rfl rfl rfl rfl rfl rfl ?_
    refine st_end ?_
    refine st_seq ?_
    refine st_cond rfl (fun hc => ?_) (fun hc => ?_)
    · replace h := (if_pos hc).mp h
      refine st_skip ?_
      refine st_seq ?_
      refine st_block ?_
      refine st_seq ?_
      refine st_region ?_
      refine o_move rfl rfl rfl rfl ?_
      refine o_assign rfl rfl rfl rfl ?_
      refine st_end ?_
      refine st_seq ?_
      refine st_region ?_
      refine o_move rfl rfl rfl rfl ?_
      obtain ⟨r9, hr10, h⟩ := h
      refine st_call (foot := []) rfl rfl rfl rfl rfl rfl (callV_fn z_en74 (crc_shift_ok hr10 τ8)) ?_
      rintro vτ11 τ11 gsτ11 hl12 ⟨rfl, rfl⟩
      refine o_assign rfl rfl rfl rfl ?_
      refine st_end ?_
      refine st_region ?_
      refine o_move rfl rfl rfl rfl ?_
      refine o_move rfl rfl rfl rfl ?_
      refine o_move rfl rfl rfl rfl ?_
      refine o_move rfl rfl rfl rfl ?_
      refine o_nilCheck rfl rfl rfl rfl ?_
      refine o_fieldAddr rfl rfl rfl z_field131_0 rfl ?_
      obtain ⟨hf13, h⟩ := h
      obtain ⟨hf14, h⟩ := h
      refine o_indexA rfl rfl rfl z_arr129 rfl rfl hf13 hf14 ?_
      obtain ⟨hf15, h⟩ := h
      obtain ⟨hf16, h⟩ := h
      refine o_indexA rfl rfl rfl z_arr128 rfl rfl hf15 hf16 ?_
      refine o_storeB (j := 0) (q := (s8.2.1.toNat * 256 + s6.1.toNat)) (f := (Value.int .u32)) (zz := 0) (a := r9) (l := 1024) (xs := s8.2.2) rfl rfl rfl z_size22 rfl rfl rfl rfl rfl (by omega) (by omega) ?_
      refine st_gs [[(b1, .cells (cellsN (Value.int .u32) 0 1024 (putN 1024 0 s8.2.2 (s8.2.1.toNat * 256 + s6.1.toNat) r9)).toArray 131 (0, 0))]] rfl ?_
      refine st_end ?_
      refine st_inBlock ?_
      refine st_region ?_
      refine o_ibin (v := .int .i64 (IntKind.i64.wrap (s8.2.1 + 1))) rfl rfl rfl rfl rfl rfl ?_
      refine o_move rfl rfl rfl rfl ?_
      refine st_end ?_
      refine st_env (ρ' := [(0, .pointer none), (1, .pointer (some ⟨b1, 0, none⟩)), (7, .int .i64 s6.1), (2, .int .i64 s6.1), (3, .int .u32 r9), (12, .int .i64 (IntKind.i64.wrap (s8.2.1 + 1)))]) ⟨rfl, rfl, rfl, rfl, rfl, rfl, trivial⟩ ?_
      exact hn8 _ _ _ _ h ⟨(hl8.trans hl12), rfl, rfl⟩
    · replace h := (if_neg (ne_t hc)).mp h
      refine st_exit rfl ?_
      refine st_inBlock ?_
      obtain rfl := he8 _ h
      replace h := hA8
      refine st_env (ρ' := [(0, .pointer none), (1, .pointer (some ⟨b1, 0, none⟩)), (7, .int .i64 s6.1)]) ⟨rfl, rfl, rfl, trivial⟩ ?_
      exact hk7 _ _ _ ⟨s8.2.2, h, hl8, rfl, rfl⟩
  · replace h := (if_neg (ne_t hc)).mp h
    refine st_exit rfl ?_
    obtain rfl := he6 _ h
    replace h := hA6
    refine st_env (ρ' := [(0, .pointer none), (1, .pointer (some ⟨b1, 0, none⟩))]) ⟨rfl, rfl, trivial⟩ ?_
    exact hk2 _ _ _ ⟨s6.2, h, hl6, rfl, rfl⟩
theorem frame_New_ok  {r : List Int} (h : frame_New r) (σ : Sto)  :
    Does Try.prog 20 [] σ [] (fun v τ gs => ∃ (bi13 : Nat) (bi11 : Nat), gs = [] ∧ .pointer (some ⟨bi11, 0, none⟩) = v ∧ CelN τ ⟨bi13, 0, none⟩ (cellsN (Value.int .u32) 0 1024 r) ∧ CelN τ ⟨bi11, 0, none⟩ [.pointer (some ⟨bi13, 0, none⟩)]) := by
  refine call_of Try.func20 Try.ntmps20 rfl rfl (fun cs fs => ?_)
  refine st_seq ?_
  refine st_region ?_
  refine o_assign rfl rfl rfl rfl ?_
  refine st_end ?_
  refine st_seq ?_
  refine st_region ?_
  obtain ⟨r1, hr2, h⟩ := h
  refine st_call (foot := []) rfl rfl rfl rfl rfl rfl (callV_fn z_en49 (crc_New_ok hr2 σ)) ?_
  rintro vτ3 τ3 gsτ3 hl4 ⟨bi5, rfl, rfl, hc6⟩
  refine o_build (ps := [(0, [.pointer (some ⟨bi5, 0, none⟩)])]) (cs := [.pointer (some ⟨bi5, 0, none⟩)]) rfl rfl rfl z_struct97 ⟨rfl, ⟨_, rfl, rfl⟩, trivial⟩ rfl ?_
  refine o_box (cs := [.pointer (some ⟨bi5, 0, none⟩)]) rfl rfl rfl rfl rfl (fun b7 => ?_)
  refine o_assign rfl rfl rfl rfl ?_
  refine st_end ?_
  refine st_freeze (fun τ8 hl9 hg10 => ?_)
  obtain rfl := Eq.symm h
  exact st_ret (gs' := []) Try.func20 rfl (List.Sublist.refl _) (hl4.trans hl9) ⟨_, _, rfl, rfl, (hc6.up hl9), (celn_box hg10)⟩
theorem head_wrong_1_ok {c0 : Int × Int × Int × Int × Int} {bc0 : Nat} {σ0 : Sto} (hc0_0 : Cel σ0 ⟨bc0, 0, none⟩ (.int .i64 c0.1)) (hc0_1 : Cel σ0 ⟨bc0, 1, none⟩ (.int .i64 c0.2.1)) (hc0_2 : Cel σ0 ⟨bc0, 2, none⟩ (.int .u32 c0.2.2.1)) (hc0_3 : Cel σ0 ⟨bc0, 3, none⟩ (.int .i64 c0.2.2.2.1)) (hc0_4 : Cel σ0 ⟨bc0, 4, none⟩ (.int .i64 c0.2.2.2.2)) :
    IterV Try.prog (fun _ x vx => vx = [.int .i64 x.1, .bool x.2]) (.func (.func 92) #[] [.pointer (some ⟨bc0, 0, none⟩)].toArray) σ0 [] (fun (_ : Unit) _ f => f = []) (head_wrong_1 c0) := by
  intro S Y I y hyc hyo hIm hY s s' o hR σ g hle hIg
  obtain ⟨r, hr0⟩ : ∃ r, r = (s', o) := ⟨_, rfl⟩
  rw [← hr0] at hR
  have h := hR
  refine callV_of (caps := [.pointer (some ⟨bc0, 0, none⟩)]) z_en92 ?_
  refine call_of Try.func92 Try.ntmps92 rfl rfl (fun cs fs => ?_)
  refine st_ord [0] [g] rfl ?_
  refine st_region ?_
  refine o_move rfl rfl rfl rfl ?_
  refine o_fieldAddr rfl rfl rfl z_field44_0 rfl ?_
  refine o_loadI (v := .int .i64 c0.1) rfl rfl rfl z_sc3 rfl (Cel.up hc0_0 hle) ?_
  refine o_ibin (v := .bool (decide (c0.1 < 1))) rfl rfl rfl rfl rfl rfl ?_
  refine o_moveB rfl rfl rfl rfl (fun hc => ?_) (fun hc => ?_)
  · replace h := (if_pos hc).mp h
    refine st_pass rfl rfl rfl rfl rfl rfl ?_
    refine st_pass rfl rfl rfl rfl rfl rfl ?_
    refine st_pass rfl rfl rfl rfl rfl rfl ?_
    refine o_pick rfl rfl rfl rfl rfl ?_
    obtain ⟨y1, u2, hy3, h⟩ := h
    refine st_call (foot := [g]) rfl rfl rfl rfl rfl rfl (hY (10, true) s _ _ _ _ _ (hle.trans (Sto.Le.refl _)) hy3 rfl hIg) ?_
    rintro vτ4 τ4 gsτ4 hl5 ⟨rfl, g6, rfl, hI7⟩
    refine o_moveB rfl rfl rfl rfl (fun hc => ?_) (fun hc => ?_)
    · replace h := (if_pos hc).mp h
      refine o_move rfl rfl rfl rfl ?_
      refine o_fieldAddr rfl rfl rfl z_field44_1 rfl ?_
      refine o_loadI (v := .int .i64 c0.2.1) rfl rfl rfl z_sc3 rfl (Cel.up hc0_1 (hle.trans hl5)) ?_
      refine o_ibin (v := .bool (decide (c0.2.1 < 1))) rfl rfl rfl rfl rfl rfl ?_
      refine o_moveB rfl rfl rfl rfl (fun hc => ?_) (fun hc => ?_)
      · replace h := (if_pos hc).mp h
        refine st_pass rfl rfl rfl rfl rfl rfl ?_
        refine st_pass rfl rfl rfl rfl rfl rfl ?_
        refine st_pass rfl rfl rfl rfl rfl rfl ?_
        refine o_pick rfl rfl rfl rfl rfl ?_
        obtain ⟨y8, u9, hy10, h⟩ := h
        refine st_call (foot := [g6]) rfl rfl rfl rfl rfl rfl (hY (9, true) u2 _ _ _ _ _ (hle.trans hl5) hy10 rfl hI7) ?_
        rintro vτ11 τ11 gsτ11 hl12 ⟨rfl, g13, rfl, hI14⟩
        refine o_pick rfl rfl rfl rfl rfl ?_
        refine o_moveB rfl rfl rfl rfl (fun hc => ?_) (fun hc => ?_)
        · replace h := (if_pos hc).mp h
          refine o_move rfl rfl rfl rfl ?_
          refine o_fieldAddr rfl rfl rfl z_field44_4 rfl ?_
          refine o_loadI (v := .int .i64 c0.2.2.2.2) rfl rfl rfl z_sc3 rfl (Cel.up hc0_4 ((hle.trans hl5).trans hl12)) ?_
          refine o_ibin (v := .bool (decide (c0.2.2.2.2 < 1))) rfl rfl rfl rfl rfl rfl ?_
          refine o_moveB rfl rfl rfl rfl (fun hc => ?_) (fun hc => ?_)
          · replace h := (if_pos hc).mp h
            refine st_pass rfl rfl rfl rfl rfl rfl ?_
            refine st_pass rfl rfl rfl rfl rfl rfl ?_
            refine st_pass rfl rfl rfl rfl rfl rfl ?_
            refine o_pick rfl rfl rfl rfl rfl ?_
            refine o_move rfl rfl rfl rfl ?_
            refine st_pass rfl rfl rfl rfl rfl rfl ?_
            refine st_pass rfl rfl rfl rfl rfl rfl ?_
            refine st_pass rfl rfl rfl rfl rfl rfl ?_
            refine o_pick rfl rfl rfl rfl rfl ?_
            refine o_move rfl rfl rfl rfl ?_
            refine st_pass rfl rfl rfl rfl rfl rfl ?_
            refine st_pass rfl rfl rfl rfl rfl rfl ?_
            refine st_pass rfl rfl rfl rfl rfl rfl ?_
            refine st_pass rfl rfl rfl rfl rfl rfl ?_
            refine st_pass rfl rfl rfl rfl rfl rfl ?_
            refine o_pick rfl rfl rfl rfl rfl ?_
            obtain ⟨y15, u16, hy17, h⟩ := h
            refine st_call (foot := [g13]) rfl rfl rfl rfl rfl rfl (hY (3, true) u9 _ _ _ _ _ (hle.trans (hl5.trans hl12)) hy17 rfl hI14) ?_
            rintro vτ18 τ18 gsτ18 hl19 ⟨rfl, g20, rfl, hI21⟩
            refine o_pick rfl rfl rfl rfl rfl ?_
            refine st_end ?_
            obtain rfl := Eq.symm h
            cases hr0
            exact st_fin (gs' := [g20, []]) Try.func92 rfl (by simp) ((hl5.trans hl12).trans hl19) ⟨g20, _, rfl, hI21, rfl⟩
          · replace h := (if_neg (ne_t hc)).mp h
            refine o_fieldAddr rfl rfl rfl z_field44_4 rfl ?_
            refine o_loadI (v := .int .i64 c0.2.2.2.2) rfl rfl rfl z_sc3 rfl (Cel.up hc0_4 ((hle.trans hl5).trans hl12)) ?_
            refine o_ibin (v := .bool (decide (255 < c0.2.2.2.2))) rfl rfl rfl rfl rfl rfl ?_
            refine o_pick rfl rfl rfl rfl rfl ?_
            refine o_moveB rfl rfl rfl rfl (fun hc => ?_) (fun hc => ?_)
            · replace h := (if_pos hc).mp h
              refine st_pass rfl rfl rfl rfl rfl rfl ?_
              refine st_pass rfl rfl rfl rfl rfl rfl ?_
              refine st_pass rfl rfl rfl rfl rfl rfl ?_
              refine o_pick rfl rfl rfl rfl rfl ?_
              refine o_move rfl rfl rfl rfl ?_
              refine st_pass rfl rfl rfl rfl rfl rfl ?_
              refine st_pass rfl rfl rfl rfl rfl rfl ?_
              refine st_pass rfl rfl rfl rfl rfl rfl ?_
              refine st_pass rfl rfl rfl rfl rfl rfl ?_
              refine st_pass rfl rfl rfl rfl rfl rfl ?_
              refine o_pick rfl rfl rfl rfl rfl ?_
              obtain ⟨y22, u23, hy24, h⟩ := h
              refine st_call (foot := [g13]) rfl rfl rfl rfl rfl rfl (hY (3, true) u9 _ _ _ _ _ (hle.trans (hl5.trans hl12)) hy24 rfl hI14) ?_
              rintro vτ25 τ25 gsτ25 hl26 ⟨rfl, g27, rfl, hI28⟩
              refine o_pick rfl rfl rfl rfl rfl ?_
              refine st_end ?_
              obtain rfl := Eq.symm h
              cases hr0
              exact st_fin (gs' := [g27, []]) Try.func92 rfl (by simp) ((hl5.trans hl12).trans hl26) ⟨g27, _, rfl, hI28, rfl⟩
            · replace h := (if_neg (ne_t hc)).mp h
              refine o_fieldAddr rfl rfl rfl z_field44_3 rfl ?_
              refine o_loadI (v := .int .i64 c0.2.2.2.1) rfl rfl rfl z_sc3 rfl (Cel.up hc0_3 ((hle.trans hl5).trans hl12)) ?_
              refine o_ibin (v := .bool (decide (c0.2.2.2.1 < 0))) rfl rfl rfl rfl rfl rfl ?_
              refine o_pick rfl rfl rfl rfl rfl ?_
              refine o_moveB rfl rfl rfl rfl (fun hc => ?_) (fun hc => ?_)
              · replace h := (if_pos hc).mp h
                refine st_pass rfl rfl rfl rfl rfl rfl ?_
                refine st_pass rfl rfl rfl rfl rfl rfl ?_
                refine st_pass rfl rfl rfl rfl rfl rfl ?_
                refine st_pass rfl rfl rfl rfl rfl rfl ?_
                refine st_pass rfl rfl rfl rfl rfl rfl ?_
                refine o_pick rfl rfl rfl rfl rfl ?_
                obtain ⟨y29, u30, hy31, h⟩ := h
                refine st_call (foot := [g13]) rfl rfl rfl rfl rfl rfl (hY (3, true) u9 _ _ _ _ _ (hle.trans (hl5.trans hl12)) hy31 rfl hI14) ?_
                rintro vτ32 τ32 gsτ32 hl33 ⟨rfl, g34, rfl, hI35⟩
                refine o_pick rfl rfl rfl rfl rfl ?_
                refine st_end ?_
                obtain rfl := Eq.symm h
                cases hr0
                exact st_fin (gs' := [g34, []]) Try.func92 rfl (by simp) ((hl5.trans hl12).trans hl33) ⟨g34, _, rfl, hI35, rfl⟩
              · replace h := (if_neg (ne_t hc)).mp h
                refine o_fieldAddr rfl rfl rfl z_field44_3 rfl ?_
                refine o_loadI (v := .int .i64 c0.2.2.2.1) rfl rfl rfl z_sc3 rfl (Cel.up hc0_3 ((hle.trans hl5).trans hl12)) ?_
                refine o_fieldAddr rfl rfl rfl z_field44_4 rfl ?_
                refine o_loadI (v := .int .i64 c0.2.2.2.2) rfl rfl rfl z_sc3 rfl (Cel.up hc0_4 ((hle.trans hl5).trans hl12)) ?_
                refine o_ibin (v := .bool (decide (c0.2.2.2.2 ≤ c0.2.2.2.1))) rfl rfl rfl rfl rfl rfl ?_
                refine o_pick rfl rfl rfl rfl rfl ?_
                obtain ⟨y36, u37, hy38, h⟩ := h
                refine st_call (foot := [g13]) rfl rfl rfl rfl rfl rfl (hY (3, (decide (c0.2.2.2.2 ≤ c0.2.2.2.1))) u9 _ _ _ _ _ (hle.trans (hl5.trans hl12)) hy38 rfl hI14) ?_
                rintro vτ39 τ39 gsτ39 hl40 ⟨rfl, g41, rfl, hI42⟩
                refine o_pick rfl rfl rfl rfl rfl ?_
                refine st_end ?_
                obtain rfl := Eq.symm h
                cases hr0
                exact st_fin (gs' := [g41, []]) Try.func92 rfl (by simp) ((hl5.trans hl12).trans hl40) ⟨g41, _, rfl, hI42, rfl⟩
        · replace h := (if_neg (ne_t hc)).mp h
          refine st_pass rfl rfl rfl rfl rfl rfl ?_
          refine st_pass rfl rfl rfl rfl rfl rfl ?_
          refine st_pass rfl rfl rfl rfl rfl rfl ?_
          refine st_pass rfl rfl rfl rfl rfl rfl ?_
          refine st_pass rfl rfl rfl rfl rfl rfl ?_
          refine st_passU rfl rfl rfl rfl rfl ?_
          refine st_passU rfl rfl rfl rfl rfl ?_
          refine st_passU rfl rfl rfl rfl rfl ?_
          refine st_pass rfl rfl rfl rfl rfl rfl ?_
          refine st_pass rfl rfl rfl rfl rfl rfl ?_
          refine st_passU rfl rfl rfl rfl rfl ?_
          refine st_passU rfl rfl rfl rfl rfl ?_
          refine st_passU rfl rfl rfl rfl rfl ?_
          refine st_pass rfl rfl rfl rfl rfl rfl ?_
          refine st_pass rfl rfl rfl rfl rfl rfl ?_
          refine st_passU rfl rfl rfl rfl rfl ?_
          refine st_passU rfl rfl rfl rfl rfl ?_
          refine st_passU rfl rfl rfl rfl rfl ?_
          refine st_passU rfl rfl rfl rfl rfl ?_
          refine st_passU rfl rfl rfl rfl rfl ?_
          refine st_pass rfl rfl rfl rfl rfl rfl ?_
          refine st_pass rfl rfl rfl rfl rfl rfl ?_
          refine o_pick rfl rfl rfl rfl rfl ?_
          refine st_end ?_
          obtain rfl := Eq.symm h
          cases hr0
          exact st_fin (gs' := [g13, []]) Try.func92 rfl (by simp) (hl5.trans hl12) ⟨g13, _, rfl, hI14, rfl⟩
      · replace h := (if_neg (ne_t hc)).mp h
        refine o_fieldAddr rfl rfl rfl z_field44_1 rfl ?_
        refine o_loadI (v := .int .i64 c0.2.1) rfl rfl rfl z_sc3 rfl (Cel.up hc0_1 (hle.trans hl5)) ?_
        refine o_ibin (v := .bool (decide (5 < c0.2.1))) rfl rfl rfl rfl rfl rfl ?_
        refine o_pick rfl rfl rfl rfl rfl ?_
        obtain ⟨y43, u44, hy45, h⟩ := h
        refine st_call (foot := [g6]) rfl rfl rfl rfl rfl rfl (hY (9, (decide (5 < c0.2.1))) u2 _ _ _ _ _ (hle.trans hl5) hy45 rfl hI7) ?_
        rintro vτ46 τ46 gsτ46 hl47 ⟨rfl, g48, rfl, hI49⟩
        refine o_pick rfl rfl rfl rfl rfl ?_
        refine o_moveB rfl rfl rfl rfl (fun hc => ?_) (fun hc => ?_)
        · replace h := (if_pos hc).mp h
          refine o_move rfl rfl rfl rfl ?_
          refine o_fieldAddr rfl rfl rfl z_field44_4 rfl ?_
          refine o_loadI (v := .int .i64 c0.2.2.2.2) rfl rfl rfl z_sc3 rfl (Cel.up hc0_4 ((hle.trans hl5).trans hl47)) ?_
          refine o_ibin (v := .bool (decide (c0.2.2.2.2 < 1))) rfl rfl rfl rfl rfl rfl ?_
          refine o_moveB rfl rfl rfl rfl (fun hc => ?_) (fun hc => ?_)
          · replace h := (if_pos hc).mp h
            refine st_pass rfl rfl rfl rfl rfl rfl ?_
            refine st_pass rfl rfl rfl rfl rfl rfl ?_
            refine st_pass rfl rfl rfl rfl rfl rfl ?_
            refine o_pick rfl rfl rfl rfl rfl ?_
            refine o_move rfl rfl rfl rfl ?_
            refine st_pass rfl rfl rfl rfl rfl rfl ?_
            refine st_pass rfl rfl rfl rfl rfl rfl ?_
            refine st_pass rfl rfl rfl rfl rfl rfl ?_
            refine o_pick rfl rfl rfl rfl rfl ?_
            refine o_move rfl rfl rfl rfl ?_
            refine st_pass rfl rfl rfl rfl rfl rfl ?_
            refine st_pass rfl rfl rfl rfl rfl rfl ?_
            refine st_pass rfl rfl rfl rfl rfl rfl ?_
            refine st_pass rfl rfl rfl rfl rfl rfl ?_
            refine st_pass rfl rfl rfl rfl rfl rfl ?_
            refine o_pick rfl rfl rfl rfl rfl ?_
            obtain ⟨y50, u51, hy52, h⟩ := h
            refine st_call (foot := [g48]) rfl rfl rfl rfl rfl rfl (hY (3, true) u44 _ _ _ _ _ (hle.trans (hl5.trans hl47)) hy52 rfl hI49) ?_
            rintro vτ53 τ53 gsτ53 hl54 ⟨rfl, g55, rfl, hI56⟩
            refine o_pick rfl rfl rfl rfl rfl ?_
            refine st_end ?_
            obtain rfl := Eq.symm h
            cases hr0
            exact st_fin (gs' := [g55, []]) Try.func92 rfl (by simp) ((hl5.trans hl47).trans hl54) ⟨g55, _, rfl, hI56, rfl⟩
          · replace h := (if_neg (ne_t hc)).mp h
            refine o_fieldAddr rfl rfl rfl z_field44_4 rfl ?_
            refine o_loadI (v := .int .i64 c0.2.2.2.2) rfl rfl rfl z_sc3 rfl (Cel.up hc0_4 ((hle.trans hl5).trans hl47)) ?_
            refine o_ibin (v := .bool (decide (255 < c0.2.2.2.2))) rfl rfl rfl rfl rfl rfl ?_
            refine o_pick rfl rfl rfl rfl rfl ?_
            refine o_moveB rfl rfl rfl rfl (fun hc => ?_) (fun hc => ?_)
            · replace h := (if_pos hc).mp h
              refine st_pass rfl rfl rfl rfl rfl rfl ?_
              refine st_pass rfl rfl rfl rfl rfl rfl ?_
              refine st_pass rfl rfl rfl rfl rfl rfl ?_
              refine o_pick rfl rfl rfl rfl rfl ?_
              refine o_move rfl rfl rfl rfl ?_
              refine st_pass rfl rfl rfl rfl rfl rfl ?_
              refine st_pass rfl rfl rfl rfl rfl rfl ?_
              refine st_pass rfl rfl rfl rfl rfl rfl ?_
              refine st_pass rfl rfl rfl rfl rfl rfl ?_
              refine st_pass rfl rfl rfl rfl rfl rfl ?_
              refine o_pick rfl rfl rfl rfl rfl ?_
              obtain ⟨y57, u58, hy59, h⟩ := h
              refine st_call (foot := [g48]) rfl rfl rfl rfl rfl rfl (hY (3, true) u44 _ _ _ _ _ (hle.trans (hl5.trans hl47)) hy59 rfl hI49) ?_
              rintro vτ60 τ60 gsτ60 hl61 ⟨rfl, g62, rfl, hI63⟩
              refine o_pick rfl rfl rfl rfl rfl ?_
              refine st_end ?_
              obtain rfl := Eq.symm h
              cases hr0
              exact st_fin (gs' := [g62, []]) Try.func92 rfl (by simp) ((hl5.trans hl47).trans hl61) ⟨g62, _, rfl, hI63, rfl⟩
            · replace h := (if_neg (ne_t hc)).mp h
              refine o_fieldAddr rfl rfl rfl z_field44_3 rfl ?_
              refine o_loadI (v := .int .i64 c0.2.2.2.1) rfl rfl rfl z_sc3 rfl (Cel.up hc0_3 ((hle.trans hl5).trans hl47)) ?_
              refine o_ibin (v := .bool (decide (c0.2.2.2.1 < 0))) rfl rfl rfl rfl rfl rfl ?_
              refine o_pick rfl rfl rfl rfl rfl ?_
              refine o_moveB rfl rfl rfl rfl (fun hc => ?_) (fun hc => ?_)
              · replace h := (if_pos hc).mp h
                refine st_pass rfl rfl rfl rfl rfl rfl ?_
                refine st_pass rfl rfl rfl rfl rfl rfl ?_
                refine st_pass rfl rfl rfl rfl rfl rfl ?_
                refine st_pass rfl rfl rfl rfl rfl rfl ?_
                refine st_pass rfl rfl rfl rfl rfl rfl ?_
                refine o_pick rfl rfl rfl rfl rfl ?_
                obtain ⟨y64, u65, hy66, h⟩ := h
                refine st_call (foot := [g48]) rfl rfl rfl rfl rfl rfl (hY (3, true) u44 _ _ _ _ _ (hle.trans (hl5.trans hl47)) hy66 rfl hI49) ?_
                rintro vτ67 τ67 gsτ67 hl68 ⟨rfl, g69, rfl, hI70⟩
                refine o_pick rfl rfl rfl rfl rfl ?_
                refine st_end ?_
                obtain rfl := Eq.symm h
                cases hr0
                exact st_fin (gs' := [g69, []]) Try.func92 rfl (by simp) ((hl5.trans hl47).trans hl68) ⟨g69, _, rfl, hI70, rfl⟩
              · replace h := (if_neg (ne_t hc)).mp h
                refine o_fieldAddr rfl rfl rfl z_field44_3 rfl ?_
                refine o_loadI (v := .int .i64 c0.2.2.2.1) rfl rfl rfl z_sc3 rfl (Cel.up hc0_3 ((hle.trans hl5).trans hl47)) ?_
                refine o_fieldAddr rfl rfl rfl z_field44_4 rfl ?_
                refine o_loadI (v := .int .i64 c0.2.2.2.2) rfl rfl rfl z_sc3 rfl (Cel.up hc0_4 ((hle.trans hl5).trans hl47)) ?_
                refine o_ibin (v := .bool (decide (c0.2.2.2.2 ≤ c0.2.2.2.1))) rfl rfl rfl rfl rfl rfl ?_
                refine o_pick rfl rfl rfl rfl rfl ?_
                obtain ⟨y71, u72, hy73, h⟩ := h
                refine st_call (foot := [g48]) rfl rfl rfl rfl rfl rfl (hY (3, (decide (c0.2.2.2.2 ≤ c0.2.2.2.1))) u44 _ _ _ _ _ (hle.trans (hl5.trans hl47)) hy73 rfl hI49) ?_
                rintro vτ74 τ74 gsτ74 hl75 ⟨rfl, g76, rfl, hI77⟩
                refine o_pick rfl rfl rfl rfl rfl ?_
                refine st_end ?_
                obtain rfl := Eq.symm h
                cases hr0
                exact st_fin (gs' := [g76, []]) Try.func92 rfl (by simp) ((hl5.trans hl47).trans hl75) ⟨g76, _, rfl, hI77, rfl⟩
        · replace h := (if_neg (ne_t hc)).mp h
          refine st_pass rfl rfl rfl rfl rfl rfl ?_
          refine st_pass rfl rfl rfl rfl rfl rfl ?_
          refine st_pass rfl rfl rfl rfl rfl rfl ?_
          refine st_pass rfl rfl rfl rfl rfl rfl ?_
          refine st_pass rfl rfl rfl rfl rfl rfl ?_
          refine st_passU rfl rfl rfl rfl rfl ?_
          refine st_passU rfl rfl rfl rfl rfl ?_
          refine st_passU rfl rfl rfl rfl rfl ?_
          refine st_pass rfl rfl rfl rfl rfl rfl ?_
          refine st_pass rfl rfl rfl rfl rfl rfl ?_
          refine st_passU rfl rfl rfl rfl rfl ?_
          refine st_passU rfl rfl rfl rfl rfl ?_
          refine st_passU rfl rfl rfl rfl rfl ?_
          refine st_pass rfl rfl rfl rfl rfl rfl ?_
          refine st_pass rfl rfl rfl rfl rfl rfl ?_
          refine st_passU rfl rfl rfl rfl rfl ?_
          refine st_passU rfl rfl rfl rfl rfl ?_
          refine st_passU rfl rfl rfl rfl rfl ?_
          refine st_passU rfl rfl rfl rfl rfl ?_
          refine st_passU rfl rfl rfl rfl rfl ?_
          refine st_pass rfl rfl rfl rfl rfl rfl ?_
          refine st_pass rfl rfl rfl rfl rfl rfl ?_
          refine o_pick rfl rfl rfl rfl rfl ?_
          refine st_end ?_
          obtain rfl := Eq.symm h
          cases hr0
          exact st_fin (gs' := [g48, []]) Try.func92 rfl (by simp) (hl5.trans hl47) ⟨g48, _, rfl, hI49, rfl⟩
    · replace h := (if_neg (ne_t hc)).mp h
      refine st_pass rfl rfl rfl rfl rfl rfl ?_
      refine st_pass rfl rfl rfl rfl rfl rfl ?_
      refine st_pass rfl rfl rfl rfl rfl rfl ?_
      refine st_pass rfl rfl rfl rfl rfl rfl ?_
      refine st_pass rfl rfl rfl rfl rfl rfl ?_
      refine st_passU rfl rfl rfl rfl rfl ?_
      refine st_passU rfl rfl rfl rfl rfl ?_
      refine st_passU rfl rfl rfl rfl rfl ?_
      refine st_pass rfl rfl rfl rfl rfl rfl ?_
      refine st_pass rfl rfl rfl rfl rfl rfl ?_
      refine o_pick rfl rfl rfl rfl rfl ?_
      refine o_move rfl rfl rfl rfl ?_
      refine st_pass rfl rfl rfl rfl rfl rfl ?_
      refine st_pass rfl rfl rfl rfl rfl rfl ?_
      refine st_pass rfl rfl rfl rfl rfl rfl ?_
      refine st_pass rfl rfl rfl rfl rfl rfl ?_
      refine st_pass rfl rfl rfl rfl rfl rfl ?_
      refine st_passU rfl rfl rfl rfl rfl ?_
      refine st_passU rfl rfl rfl rfl rfl ?_
      refine st_passU rfl rfl rfl rfl rfl ?_
      refine st_pass rfl rfl rfl rfl rfl rfl ?_
      refine st_pass rfl rfl rfl rfl rfl rfl ?_
      refine st_passU rfl rfl rfl rfl rfl ?_
      refine st_passU rfl rfl rfl rfl rfl ?_
      refine st_passU rfl rfl rfl rfl rfl ?_
      refine st_pass rfl rfl rfl rfl rfl rfl ?_
      refine st_pass rfl rfl rfl rfl rfl rfl ?_
      refine st_passU rfl rfl rfl rfl rfl ?_
      refine st_passU rfl rfl rfl rfl rfl ?_
      refine st_passU rfl rfl rfl rfl rfl ?_
      refine st_passU rfl rfl rfl rfl rfl ?_
      refine st_passU rfl rfl rfl rfl rfl ?_
      refine st_pass rfl rfl rfl rfl rfl rfl ?_
      refine st_pass rfl rfl rfl rfl rfl rfl ?_
      refine o_pick rfl rfl rfl rfl rfl ?_
      refine st_end ?_
      obtain rfl := Eq.symm h
      cases hr0
      exact st_fin (gs' := [g6, []]) Try.func92 rfl (by simp) hl5 ⟨g6, _, rfl, hI7, rfl⟩
  · replace h := (if_neg (ne_t hc)).mp h
    refine o_fieldAddr rfl rfl rfl z_field44_0 rfl ?_
    refine o_loadI (v := .int .i64 c0.1) rfl rfl rfl z_sc3 rfl (Cel.up hc0_0 hle) ?_
    refine o_ibin (v := .bool (decide (2 < c0.1))) rfl rfl rfl rfl rfl rfl ?_
    refine o_pick rfl rfl rfl rfl rfl ?_
    obtain ⟨y78, u79, hy80, h⟩ := h
    refine st_call (foot := [g]) rfl rfl rfl rfl rfl rfl (hY (10, (decide (2 < c0.1))) s _ _ _ _ _ (hle.trans (Sto.Le.refl _)) hy80 rfl hIg) ?_
    rintro vτ81 τ81 gsτ81 hl82 ⟨rfl, g83, rfl, hI84⟩
    refine o_moveB rfl rfl rfl rfl (fun hc => ?_) (fun hc => ?_)
    · replace h := (if_pos hc).mp h
      refine o_move rfl rfl rfl rfl ?_
      refine o_fieldAddr rfl rfl rfl z_field44_1 rfl ?_
      refine o_loadI (v := .int .i64 c0.2.1) rfl rfl rfl z_sc3 rfl (Cel.up hc0_1 (hle.trans hl82)) ?_
      refine o_ibin (v := .bool (decide (c0.2.1 < 1))) rfl rfl rfl rfl rfl rfl ?_
      refine o_moveB rfl rfl rfl rfl (fun hc => ?_) (fun hc => ?_)
      · replace h := (if_pos hc).mp h
        refine st_pass rfl rfl rfl rfl rfl rfl ?_
        refine st_pass rfl rfl rfl rfl rfl rfl ?_
        refine st_pass rfl rfl rfl rfl rfl rfl ?_
        refine o_pick rfl rfl rfl rfl rfl ?_
        obtain ⟨y85, u86, hy87, h⟩ := h
        refine st_call (foot := [g83]) rfl rfl rfl rfl rfl rfl (hY (9, true) u79 _ _ _ _ _ (hle.trans hl82) hy87 rfl hI84) ?_
        rintro vτ88 τ88 gsτ88 hl89 ⟨rfl, g90, rfl, hI91⟩
        refine o_pick rfl rfl rfl rfl rfl ?_
        refine o_moveB rfl rfl rfl rfl (fun hc => ?_) (fun hc => ?_)
        · replace h := (if_pos hc).mp h
          refine o_move rfl rfl rfl rfl ?_
          refine o_fieldAddr rfl rfl rfl z_field44_4 rfl ?_
          refine o_loadI (v := .int .i64 c0.2.2.2.2) rfl rfl rfl z_sc3 rfl (Cel.up hc0_4 ((hle.trans hl82).trans hl89)) ?_
          refine o_ibin (v := .bool (decide (c0.2.2.2.2 < 1))) rfl rfl rfl rfl rfl rfl ?_
          refine o_moveB rfl rfl rfl rfl (fun hc => ?_) (fun hc => ?_)
          · replace h := (if_pos hc).mp h
            refine st_pass rfl rfl rfl rfl rfl rfl ?_
            refine st_pass rfl rfl rfl rfl rfl rfl ?_
            refine st_pass rfl rfl rfl rfl rfl rfl ?_
            refine o_pick rfl rfl rfl rfl rfl ?_
            refine o_move rfl rfl rfl rfl ?_
            refine st_pass rfl rfl rfl rfl rfl rfl ?_
            refine st_pass rfl rfl rfl rfl rfl rfl ?_
            refine st_pass rfl rfl rfl rfl rfl rfl ?_
            refine o_pick rfl rfl rfl rfl rfl ?_
            refine o_move rfl rfl rfl rfl ?_
            refine st_pass rfl rfl rfl rfl rfl rfl ?_
            refine st_pass rfl rfl rfl rfl rfl rfl ?_
            refine st_pass rfl rfl rfl rfl rfl rfl ?_
            refine st_pass rfl rfl rfl rfl rfl rfl ?_
            refine st_pass rfl rfl rfl rfl rfl rfl ?_
            refine o_pick rfl rfl rfl rfl rfl ?_
            obtain ⟨y92, u93, hy94, h⟩ := h
            refine st_call (foot := [g90]) rfl rfl rfl rfl rfl rfl (hY (3, true) u86 _ _ _ _ _ (hle.trans (hl82.trans hl89)) hy94 rfl hI91) ?_
            rintro vτ95 τ95 gsτ95 hl96 ⟨rfl, g97, rfl, hI98⟩
            refine o_pick rfl rfl rfl rfl rfl ?_
            refine st_end ?_
            obtain rfl := Eq.symm h
            cases hr0
            exact st_fin (gs' := [g97, []]) Try.func92 rfl (by simp) ((hl82.trans hl89).trans hl96) ⟨g97, _, rfl, hI98, rfl⟩
          · replace h := (if_neg (ne_t hc)).mp h
            refine o_fieldAddr rfl rfl rfl z_field44_4 rfl ?_
            refine o_loadI (v := .int .i64 c0.2.2.2.2) rfl rfl rfl z_sc3 rfl (Cel.up hc0_4 ((hle.trans hl82).trans hl89)) ?_
            refine o_ibin (v := .bool (decide (255 < c0.2.2.2.2))) rfl rfl rfl rfl rfl rfl ?_
            refine o_pick rfl rfl rfl rfl rfl ?_
            refine o_moveB rfl rfl rfl rfl (fun hc => ?_) (fun hc => ?_)
            · replace h := (if_pos hc).mp h
              refine st_pass rfl rfl rfl rfl rfl rfl ?_
              refine st_pass rfl rfl rfl rfl rfl rfl ?_
              refine st_pass rfl rfl rfl rfl rfl rfl ?_
              refine o_pick rfl rfl rfl rfl rfl ?_
              refine o_move rfl rfl rfl rfl ?_
              refine st_pass rfl rfl rfl rfl rfl rfl ?_
              refine st_pass rfl rfl rfl rfl rfl rfl ?_
              refine st_pass rfl rfl rfl rfl rfl rfl ?_
              refine st_pass rfl rfl rfl rfl rfl rfl ?_
              refine st_pass rfl rfl rfl rfl rfl rfl ?_
              refine o_pick rfl rfl rfl rfl rfl ?_
              obtain ⟨y99, u100, hy101, h⟩ := h
              refine st_call (foot := [g90]) rfl rfl rfl rfl rfl rfl (hY (3, true) u86 _ _ _ _ _ (hle.trans (hl82.trans hl89)) hy101 rfl hI91) ?_
              rintro vτ102 τ102 gsτ102 hl103 ⟨rfl, g104, rfl, hI105⟩
              refine o_pick rfl rfl rfl rfl rfl ?_
              refine st_end ?_
              obtain rfl := Eq.symm h
              cases hr0
              exact st_fin (gs' := [g104, []]) Try.func92 rfl (by simp) ((hl82.trans hl89).trans hl103) ⟨g104, _, rfl, hI105, rfl⟩
            · replace h := (if_neg (ne_t hc)).mp h
              refine o_fieldAddr rfl rfl rfl z_field44_3 rfl ?_
              refine o_loadI (v := .int .i64 c0.2.2.2.1) rfl rfl rfl z_sc3 rfl (Cel.up hc0_3 ((hle.trans hl82).trans hl89)) ?_
              refine o_ibin (v := .bool (decide (c0.2.2.2.1 < 0))) rfl rfl rfl rfl rfl rfl ?_
              refine o_pick rfl rfl rfl rfl rfl ?_
              refine o_moveB rfl rfl rfl rfl (fun hc => ?_) (fun hc => ?_)
              · replace h := (if_pos hc).mp h
                refine st_pass rfl rfl rfl rfl rfl rfl ?_
                refine st_pass rfl rfl rfl rfl rfl rfl ?_
                refine st_pass rfl rfl rfl rfl rfl rfl ?_
                refine st_pass rfl rfl rfl rfl rfl rfl ?_
                refine st_pass rfl rfl rfl rfl rfl rfl ?_
                refine o_pick rfl rfl rfl rfl rfl ?_
                obtain ⟨y106, u107, hy108, h⟩ := h
                refine st_call (foot := [g90]) rfl rfl rfl rfl rfl rfl (hY (3, true) u86 _ _ _ _ _ (hle.trans (hl82.trans hl89)) hy108 rfl hI91) ?_
                rintro vτ109 τ109 gsτ109 hl110 ⟨rfl, g111, rfl, hI112⟩
                refine o_pick rfl rfl rfl rfl rfl ?_
                refine st_end ?_
                obtain rfl := Eq.symm h
                cases hr0
                exact st_fin (gs' := [g111, []]) Try.func92 rfl (by simp) ((hl82.trans hl89).trans hl110) ⟨g111, _, rfl, hI112, rfl⟩
              · replace h := (if_neg (ne_t hc)).mp h
                refine o_fieldAddr rfl rfl rfl z_field44_3 rfl ?_
                refine o_loadI (v := .int .i64 c0.2.2.2.1) rfl rfl rfl z_sc3 rfl (Cel.up hc0_3 ((hle.trans hl82).trans hl89)) ?_
                refine o_fieldAddr rfl rfl rfl z_field44_4 rfl ?_
                refine o_loadI (v := .int .i64 c0.2.2.2.2) rfl rfl rfl z_sc3 rfl (Cel.up hc0_4 ((hle.trans hl82).trans hl89)) ?_
                refine o_ibin (v := .bool (decide (c0.2.2.2.2 ≤ c0.2.2.2.1))) rfl rfl rfl rfl rfl rfl ?_
                refine o_pick rfl rfl rfl rfl rfl ?_
                obtain ⟨y113, u114, hy115, h⟩ := h
                refine st_call (foot := [g90]) rfl rfl rfl rfl rfl rfl (hY (3, (decide (c0.2.2.2.2 ≤ c0.2.2.2.1))) u86 _ _ _ _ _ (hle.trans (hl82.trans hl89)) hy115 rfl hI91) ?_
                rintro vτ116 τ116 gsτ116 hl117 ⟨rfl, g118, rfl, hI119⟩
                refine o_pick rfl rfl rfl rfl rfl ?_
                refine st_end ?_
                obtain rfl := Eq.symm h
                cases hr0
                exact st_fin (gs' := [g118, []]) Try.func92 rfl (by simp) ((hl82.trans hl89).trans hl117) ⟨g118, _, rfl, hI119, rfl⟩
        · replace h := (if_neg (ne_t hc)).mp h
          refine st_pass rfl rfl rfl rfl rfl rfl ?_
          refine st_pass rfl rfl rfl rfl rfl rfl ?_
          refine st_pass rfl rfl rfl rfl rfl rfl ?_
          refine st_pass rfl rfl rfl rfl rfl rfl ?_
          refine st_pass rfl rfl rfl rfl rfl rfl ?_
          refine st_passU rfl rfl rfl rfl rfl ?_
          refine st_passU rfl rfl rfl rfl rfl ?_
          refine st_passU rfl rfl rfl rfl rfl ?_
          refine st_pass rfl rfl rfl rfl rfl rfl ?_
          refine st_pass rfl rfl rfl rfl rfl rfl ?_
          refine st_passU rfl rfl rfl rfl rfl ?_
          refine st_passU rfl rfl rfl rfl rfl ?_
          refine st_passU rfl rfl rfl rfl rfl ?_
          refine st_pass rfl rfl rfl rfl rfl rfl ?_
          refine st_pass rfl rfl rfl rfl rfl rfl ?_
          refine st_passU rfl rfl rfl rfl rfl ?_
          refine st_passU rfl rfl rfl rfl rfl ?_
          refine st_passU rfl rfl rfl rfl rfl ?_
          refine st_passU rfl rfl rfl rfl rfl ?_
          refine st_passU rfl rfl rfl rfl rfl ?_
          refine st_pass rfl rfl rfl rfl rfl rfl ?_
          refine st_pass rfl rfl rfl rfl rfl rfl ?_
          refine o_pick rfl rfl rfl rfl rfl ?_
          refine st_end ?_
          obtain rfl := Eq.symm h
          cases hr0
          exact st_fin (gs' := [g90, []]) Try.func92 rfl (by simp) (hl82.trans hl89) ⟨g90, _, rfl, hI91, rfl⟩
      · replace h := (if_neg (ne_t hc)).mp h
        refine o_fieldAddr rfl rfl rfl z_field44_1 rfl ?_
        refine o_loadI (v := .int .i64 c0.2.1) rfl rfl rfl z_sc3 rfl (Cel.up hc0_1 (hle.trans hl82)) ?_
        refine o_ibin (v := .bool (decide (5 < c0.2.1))) rfl rfl rfl rfl rfl rfl ?_
        refine o_pick rfl rfl rfl rfl rfl ?_
        obtain ⟨y120, u121, hy122, h⟩ := h
        refine st_call (foot := [g83]) rfl rfl rfl rfl rfl rfl (hY (9, (decide (5 < c0.2.1))) u79 _ _ _ _ _ (hle.trans hl82) hy122 rfl hI84) ?_
        rintro vτ123 τ123 gsτ123 hl124 ⟨rfl, g125, rfl, hI126⟩
        refine o_pick rfl rfl rfl rfl rfl ?_
        refine o_moveB rfl rfl rfl rfl (fun hc => ?_) (fun hc => ?_)
        · replace h := (if_pos hc).mp h
          refine o_move rfl rfl rfl rfl ?_
          refine o_fieldAddr rfl rfl rfl z_field44_4 rfl ?_
          refine o_loadI (v := .int .i64 c0.2.2.2.2) rfl rfl rfl z_sc3 rfl (Cel.up hc0_4 ((hle.trans hl82).trans hl124)) ?_
          refine o_ibin (v := .bool (decide (c0.2.2.2.2 < 1))) rfl rfl rfl rfl rfl rfl ?_
          refine o_moveB rfl rfl rfl rfl (fun hc => ?_) (fun hc => ?_)
          · replace h := (if_pos hc).mp h
            refine st_pass rfl rfl rfl rfl rfl rfl ?_
            refine st_pass rfl rfl rfl rfl rfl rfl ?_
            refine st_pass rfl rfl rfl rfl rfl rfl ?_
            refine o_pick rfl rfl rfl rfl rfl ?_
            refine o_move rfl rfl rfl rfl ?_
            refine st_pass rfl rfl rfl rfl rfl rfl ?_
            refine st_pass rfl rfl rfl rfl rfl rfl ?_
            refine st_pass rfl rfl rfl rfl rfl rfl ?_
            refine o_pick rfl rfl rfl rfl rfl ?_
            refine o_move rfl rfl rfl rfl ?_
            refine st_pass rfl rfl rfl rfl rfl rfl ?_
            refine st_pass rfl rfl rfl rfl rfl rfl ?_
            refine st_pass rfl rfl rfl rfl rfl rfl ?_
            refine st_pass rfl rfl rfl rfl rfl rfl ?_
            refine st_pass rfl rfl rfl rfl rfl rfl ?_
            refine o_pick rfl rfl rfl rfl rfl ?_
            obtain ⟨y127, u128, hy129, h⟩ := h
            refine st_call (foot := [g125]) rfl rfl rfl rfl rfl rfl (hY (3, true) u121 _ _ _ _ _ (hle.trans (hl82.trans hl124)) hy129 rfl hI126) ?_
            rintro vτ130 τ130 gsτ130 hl131 ⟨rfl, g132, rfl, hI133⟩
            refine o_pick rfl rfl rfl rfl rfl ?_
            refine st_end ?_
            obtain rfl := Eq.symm h
            cases hr0
            exact st_fin (gs' := [g132, []]) Try.func92 rfl (by simp) ((hl82.trans hl124).trans hl131) ⟨g132, _, rfl, hI133, rfl⟩
          · replace h := (if_neg (ne_t hc)).mp h
            refine o_fieldAddr rfl rfl rfl z_field44_4 rfl ?_
            refine o_loadI (v := .int .i64 c0.2.2.2.2) rfl rfl rfl z_sc3 rfl (Cel.up hc0_4 ((hle.trans hl82).trans hl124)) ?_
            refine o_ibin (v := .bool (decide (255 < c0.2.2.2.2))) rfl rfl rfl rfl rfl rfl ?_
            refine o_pick rfl rfl rfl rfl rfl ?_
            refine o_moveB rfl rfl rfl rfl (fun hc => ?_) (fun hc => ?_)
            · replace h := (if_pos hc).mp h
              refine st_pass rfl rfl rfl rfl rfl rfl ?_
              refine st_pass rfl rfl rfl rfl rfl rfl ?_
              refine st_pass rfl rfl rfl rfl rfl rfl ?_
              refine o_pick rfl rfl rfl rfl rfl ?_
              refine o_move rfl rfl rfl rfl ?_
              refine st_pass rfl rfl rfl rfl rfl rfl ?_
              refine st_pass rfl rfl rfl rfl rfl rfl ?_
              refine st_pass rfl rfl rfl rfl rfl rfl ?_
              refine st_pass rfl rfl rfl rfl rfl rfl ?_
              refine st_pass rfl rfl rfl rfl rfl rfl ?_
              refine o_pick rfl rfl rfl rfl rfl ?_
              obtain ⟨y134, u135, hy136, h⟩ := h
              refine st_call (foot := [g125]) rfl rfl rfl rfl rfl rfl (hY (3, true) u121 _ _ _ _ _ (hle.trans (hl82.trans hl124)) hy136 rfl hI126) ?_
              rintro vτ137 τ137 gsτ137 hl138 ⟨rfl, g139, rfl, hI140⟩
              refine o_pick rfl rfl rfl rfl rfl ?_
              refine st_end ?_
              obtain rfl := Eq.symm h
              cases hr0
              exact st_fin (gs' := [g139, []]) Try.func92 rfl (by simp) ((hl82.trans hl124).trans hl138) ⟨g139, _, rfl, hI140, rfl⟩
            · replace h := (if_neg (ne_t hc)).mp h
              refine o_fieldAddr rfl rfl rfl z_field44_3 rfl ?_
              refine o_loadI (v := .int .i64 c0.2.2.2.1) rfl rfl rfl z_sc3 rfl (Cel.up hc0_3 ((hle.trans hl82).trans hl124)) ?_
              refine o_ibin (v := .bool (decide (c0.2.2.2.1 < 0))) rfl rfl rfl rfl rfl rfl ?_
              refine o_pick rfl rfl rfl rfl rfl ?_
              refine o_moveB rfl rfl rfl rfl (fun hc => ?_) (fun hc => ?_)
              · replace h := (if_pos hc).mp h
                refine st_pass rfl rfl rfl rfl rfl rfl ?_
                refine st_pass rfl rfl rfl rfl rfl rfl ?_
                refine st_pass rfl rfl rfl rfl rfl rfl ?_
                refine st_pass rfl rfl rfl rfl rfl rfl ?_
                refine st_pass rfl rfl rfl rfl rfl rfl ?_
                refine o_pick rfl rfl rfl rfl rfl ?_
                obtain ⟨y141, u142, hy143, h⟩ := h
                refine st_call (foot := [g125]) rfl rfl rfl rfl rfl rfl (hY (3, true) u121 _ _ _ _ _ (hle.trans (hl82.trans hl124)) hy143 rfl hI126) ?_
                rintro vτ144 τ144 gsτ144 hl145 ⟨rfl, g146, rfl, hI147⟩
                refine o_pick rfl rfl rfl rfl rfl ?_
                refine st_end ?_
                obtain rfl := Eq.symm h
                cases hr0
                exact st_fin (gs' := [g146, []]) Try.func92 rfl (by simp) ((hl82.trans hl124).trans hl145) ⟨g146, _, rfl, hI147, rfl⟩
              · replace h := (if_neg (ne_t hc)).mp h
                refine o_fieldAddr rfl rfl rfl z_field44_3 rfl ?_
                refine o_loadI (v := .int .i64 c0.2.2.2.1) rfl rfl rfl z_sc3 rfl (Cel.up hc0_3 ((hle.trans hl82).trans hl124)) ?_
                refine o_fieldAddr rfl rfl rfl z_field44_4 rfl ?_
                refine o_loadI (v := .int .i64 c0.2.2.2.2) rfl rfl rfl z_sc3 rfl (Cel.up hc0_4 ((hle.trans hl82).trans hl124)) ?_
                refine o_ibin (v := .bool (decide (c0.2.2.2.2 ≤ c0.2.2.2.1))) rfl rfl rfl rfl rfl rfl ?_
                refine o_pick rfl rfl rfl rfl rfl ?_
                obtain ⟨y148, u149, hy150, h⟩ := h
                refine st_call (foot := [g125]) rfl rfl rfl rfl rfl rfl (hY (3, (decide (c0.2.2.2.2 ≤ c0.2.2.2.1))) u121 _ _ _ _ _ (hle.trans (hl82.trans hl124)) hy150 rfl hI126) ?_
                rintro vτ151 τ151 gsτ151 hl152 ⟨rfl, g153, rfl, hI154⟩
                refine o_pick rfl rfl rfl rfl rfl ?_
                refine st_end ?_
                obtain rfl := Eq.symm h
                cases hr0
                exact st_fin (gs' := [g153, []]) Try.func92 rfl (by simp) ((hl82.trans hl124).trans hl152) ⟨g153, _, rfl, hI154, rfl⟩
        · replace h := (if_neg (ne_t hc)).mp h
          refine st_pass rfl rfl rfl rfl rfl rfl ?_
          refine st_pass rfl rfl rfl rfl rfl rfl ?_
          refine st_pass rfl rfl rfl rfl rfl rfl ?_
          refine st_pass rfl rfl rfl rfl rfl rfl ?_
          refine st_pass rfl rfl rfl rfl rfl rfl ?_
          refine st_passU rfl rfl rfl rfl rfl ?_
          refine st_passU rfl rfl rfl rfl rfl ?_
          refine st_passU rfl rfl rfl rfl rfl ?_
          refine st_pass rfl rfl rfl rfl rfl rfl ?_
          refine st_pass rfl rfl rfl rfl rfl rfl ?_
          refine st_passU rfl rfl rfl rfl rfl ?_
          refine st_passU rfl rfl rfl rfl rfl ?_
          refine st_passU rfl rfl rfl rfl rfl ?_
          refine st_pass rfl rfl rfl rfl rfl rfl ?_
          refine st_pass rfl rfl rfl rfl rfl rfl ?_
          refine st_passU rfl rfl rfl rfl rfl ?_
          refine st_passU rfl rfl rfl rfl rfl ?_
          refine st_passU rfl rfl rfl rfl rfl ?_
          refine st_passU rfl rfl rfl rfl rfl ?_
          refine st_passU rfl rfl rfl rfl rfl ?_
          refine st_pass rfl rfl rfl rfl rfl rfl ?_
          refine st_pass rfl rfl rfl rfl rfl rfl ?_
          refine o_pick rfl rfl rfl rfl rfl ?_
          refine st_end ?_
          obtain rfl := Eq.symm h
          cases hr0
          exact st_fin (gs' := [g125, []]) Try.func92 rfl (by simp) (hl82.trans hl124) ⟨g125, _, rfl, hI126, rfl⟩
    · replace h := (if_neg (ne_t hc)).mp h
      refine st_pass rfl rfl rfl rfl rfl rfl ?_
      refine st_pass rfl rfl rfl rfl rfl rfl ?_
      refine st_pass rfl rfl rfl rfl rfl rfl ?_
      refine st_pass rfl rfl rfl rfl rfl rfl ?_
      refine st_pass rfl rfl rfl rfl rfl rfl ?_
      refine st_passU rfl rfl rfl rfl rfl ?_
      refine st_passU rfl rfl rfl rfl rfl ?_
      refine st_passU rfl rfl rfl rfl rfl ?_
      refine st_pass rfl rfl rfl rfl rfl rfl ?_
      refine st_pass rfl rfl rfl rfl rfl rfl ?_
      refine o_pick rfl rfl rfl rfl rfl ?_
      refine o_move rfl rfl rfl rfl ?_
      refine st_pass rfl rfl rfl rfl rfl rfl ?_
      refine st_pass rfl rfl rfl rfl rfl rfl ?_
      refine st_pass rfl rfl rfl rfl rfl rfl ?_
      refine st_pass rfl rfl rfl rfl rfl rfl ?_
      refine st_pass rfl rfl rfl rfl rfl rfl ?_
      refine st_passU rfl rfl rfl rfl rfl ?_
      refine st_passU rfl rfl rfl rfl rfl ?_
      refine st_passU rfl rfl rfl rfl rfl ?_
      refine st_pass rfl rfl rfl rfl rfl rfl ?_
      refine st_pass rfl rfl rfl rfl rfl rfl ?_
      refine st_passU rfl rfl rfl rfl rfl ?_
      refine st_passU rfl rfl rfl rfl rfl ?_
      refine st_passU rfl rfl rfl rfl rfl ?_
      refine st_pass rfl rfl rfl rfl rfl rfl ?_
      refine st_pass rfl rfl rfl rfl rfl rfl ?_
      refine st_passU rfl rfl rfl rfl rfl ?_
      refine st_passU rfl rfl rfl rfl rfl ?_
      refine st_passU rfl rfl rfl rfl rfl ?_
      refine st_passU rfl rfl rfl rfl rfl ?_
      refine st_passU rfl rfl rfl rfl rfl ?_
      refine st_pass rfl rfl rfl rfl rfl rfl ?_
      refine st_pass rfl rfl rfl rfl rfl rfl ?_
      refine o_pick rfl rfl rfl rfl rfl ?_
      refine st_end ?_
      obtain rfl := Eq.symm h
      cases hr0
      exact st_fin (gs' := [g83, []]) Try.func92 rfl (by simp) hl82 ⟨g83, _, rfl, hI84, rfl⟩
theorem head_wrong_ok {a0 : Int × Int × Int × Int × Int} {r : (((S : Type) → ((Int × Bool) → S → Bool × S → Prop) → S → S × Unit → Prop))} (h : head_wrong a0 r) (σ : Sto)  :
    Does Try.prog 75 [.agg [.int .i64 a0.1, .int .i64 a0.2.1, .int .u32 a0.2.2.1, .int .i64 a0.2.2.2.1, .int .i64 a0.2.2.2.2].toArray] σ [] (fun v τ gs => ∃ (f5 : Nat) (q6 : Array Value), gs = [] ∧ .func (.func f5) #[] q6 = v ∧ IterV Try.prog (fun _ x vx => vx = [.int .i64 x.1, .bool x.2]) (.func (.func f5) #[] q6) τ [] (fun (_ : Unit) _ f => f = []) r) := by
  refine call_of Try.func75 Try.ntmps75 rfl rfl (fun cs fs => ?_)
  refine st_seq ?_
  refine st_region ?_
  refine o_box (cs := [.int .i64 a0.1, .int .i64 a0.2.1, .int .u32 a0.2.2.1, .int .i64 a0.2.2.2.1, .int .i64 a0.2.2.2.2]) rfl rfl rfl rfl rfl (fun b1 => ?_)
  refine o_assign rfl rfl rfl rfl ?_
  refine st_end ?_
  refine st_seq ?_
  refine st_region ?_
  refine st_freeze (fun τ2 hl3 hg4 => ?_)
  refine o_func rfl rfl rfl rfl rfl ?_
  refine o_assign rfl rfl rfl rfl ?_
  refine st_end ?_
  obtain rfl := Eq.symm h
  exact st_ret (gs' := []) Try.func75 rfl (List.Sublist.refl _) hl3 ⟨_, _, rfl, rfl, (head_wrong_1_ok (cel_of hg4 rfl) (cel_of hg4 rfl) (cel_of hg4 rfl) (cel_of hg4 rfl) (cel_of hg4 rfl))⟩
theorem head_Check_ok {a0 : Int × Int × Int × Int × Int} {r : Int} (h : head_Check a0 r) (σ : Sto)  :
    Does Try.prog 50 [.agg [.int .i64 a0.1, .int .i64 a0.2.1, .int .u32 a0.2.2.1, .int .i64 a0.2.2.2.1, .int .i64 a0.2.2.2.2].toArray] σ [] (fun v τ gs => gs = [] ∧ .int .i64 r = v) := by
  refine call_of Try.func50 Try.ntmps50 rfl rfl (fun cs fs => ?_)
  refine st_seq ?_
  refine st_region ?_
  refine o_box (cs := [.int .i64 a0.1, .int .i64 a0.2.1, .int .u32 a0.2.2.1, .int .i64 a0.2.2.2.1, .int .i64 a0.2.2.2.2]) rfl rfl rfl rfl rfl (fun b1 => ?_)
  refine o_assign rfl rfl rfl rfl ?_
  refine st_end ?_
  refine st_scope ?_
  refine st_seq ?_
  refine st_region ?_
  refine o_alloc rfl rfl rfl z_zero39 (fun b2 => ?_)
  refine o_store (j := 0) (vs := [.int .i64 0]) (cs' := [.int .i64 0]) rfl rfl rfl z_size39 rfl rfl rfl (ones_cons rfl ones_nil) rfl rfl rfl ?_
  refine st_gs [[(b2, .cells [.int .i64 0].toArray 39 (0, 0))], [(b1, .cells [.int .i64 a0.1, .int .i64 a0.2.1, .int .u32 a0.2.2.1, .int .i64 a0.2.2.2.1, .int .i64 a0.2.2.2.2].toArray 44 (0, 0))]] rfl ?_
  refine st_end ?_
  refine st_seq ?_
  refine st_label ?_
  refine st_seq ?_
  refine st_cut (fun ρ τ3 gs => ∃ (s3 : Int), head_Check_j1 s3 r ∧ σ.Le τ3 ∧ ρ = [(2, .int .i64 0), (3, .pointer (some ⟨b2, 0, none⟩))] ∧ gs = [[(b2, .cells [.int .i64 s3].toArray 39 (0, 0))]]) ?_ (fun hk3 => ?_)
  · rintro ρ3 τ3 gs3 ⟨s3, h, hl3, rfl, rfl⟩
    refine st_seq ?_
    refine st_region ?_
    refine o_load (j := 0) (v := .int .i64 s3) rfl rfl rfl z_sc39 rfl rfl rfl ?_
    refine o_assign rfl rfl rfl rfl ?_
    refine st_end ?_
    refine st_ord [] [] rfl ?_
    obtain rfl := Eq.symm h
    exact st_ret (gs' := []) Try.func50 rfl (List.Sublist.refl _) hl3 ⟨rfl, rfl⟩
  refine st_seq ?_
  refine st_region ?_
  refine o_loadN (j := 1) (vs := [.int .i64 a0.1, .int .i64 a0.2.1, .int .u32 a0.2.2.1, .int .i64 a0.2.2.2.1, .int .i64 a0.2.2.2.2]) rfl rfl rfl z_agg44 rfl rfl rfl ?_
  obtain ⟨r4, hr5, h⟩ := h
  refine st_call (foot := []) rfl rfl rfl rfl rfl rfl (callV_fn z_en75 (head_wrong_ok hr5 σ)) ?_
  rintro vτ6 τ6 gsτ6 hl7 ⟨f8, q9, rfl, rfl, hit10⟩
  refine st_end ?_
  refine st_block ?_
  obtain ⟨t11, w11, hR11, hA11⟩ := h
  refine st_env (ρ' := [(2, .int .i64 0), (3, .pointer (some ⟨b2, 0, none⟩)), (7, .func (.func f8) #[] q9)]) ⟨rfl, rfl, rfl, trivial⟩ ?_
  refine st_ord [0] [[(b2, .cells [.int .i64 0].toArray 39 (0, 0))]] rfl ?_
  refine st_addNil ?_
  refine st_range (B := head_Check_l2) (s0 := ()) ranges_fctx rfl hit10 (Sto.Le.refl _) hR11 rfl (fun _ _ _ h => by cases h; rfl) (fun (s11 : Unit) τ11 gs => τ6.Le τ11 ∧ gs = [[(b2, .cells [.int .i64 0].toArray 39 (0, 0))]]) (fun (p12 : Int) cd τ13 gs => cd = .exit 0 ∧ τ6.Le τ13 ∧ gs = [[(b2, .cells [.int .i64 p12].toArray 39 (0, 0))]]) (fun _ _ _ _ hl ⟨hb, hg⟩ => ⟨hb.trans hl, hg⟩) (fun _ _ _ _ _ hl ⟨hc, hb, hg⟩ => ⟨hc, hb.trans hl, hg⟩) ⟨Sto.Le.refl _, rfl⟩ ?_ ?_ ?_
  · rintro x11 s11 o11 τ11 gs11 vx11 hl11 h rfl ⟨hb11, rfl⟩ l11 rc11 caller11 cs11 fs11
    refine st_seq ?_
    refine st_region ?_
    refine o_assign rfl rfl rfl rfl ?_
    refine st_end ?_
    refine st_region ?_
    refine o_assign rfl rfl rfl rfl ?_
    refine st_end ?_
    refine st_begin ?_
    refine st_block ?_
    refine st_seq ?_
    refine st_region ?_
    refine o_move rfl rfl rfl rfl ?_
    refine st_end ?_
    refine st_cond rfl (fun hc => ?_) (fun hc => ?_)
    · replace h := (if_pos hc).mp h
      refine st_seq ?_
      refine st_region ?_
      refine o_move rfl rfl rfl rfl ?_
      refine o_store (j := 0) (vs := [.int .i64 x11.1]) (cs' := [.int .i64 x11.1]) rfl rfl rfl z_size39 rfl rfl rfl (ones_cons rfl ones_nil) rfl rfl rfl ?_
      refine st_gs [[(b2, .cells [.int .i64 x11.1].toArray 39 (0, 0))]] rfl ?_
      refine st_end ?_
      exact st_rexit rfl (List.Sublist.refl _) (Sto.Le.refl _) ⟨_, h, rfl, hl11, rfl⟩
    · replace h := (if_neg (ne_t hc)).mp h
      refine st_skip ?_
      refine st_inBlock ?_
      exact st_rend (List.Sublist.refl _) (Sto.Le.refl _) ⟨_, h, hl11, rfl⟩
  · rintro p15 τ16 gs11 f11 ht hl17 ⟨hb, rfl⟩ rfl
    subst ht
    replace h := hA11
    refine st_ord [1] [[(b2, .cells [.int .i64 0].toArray 39 (0, 0))]] rfl ?_
    refine st_inBlock ?_
    refine st_env (ρ' := [(2, .int .i64 0), (3, .pointer (some ⟨b2, 0, none⟩))]) ⟨rfl, rfl, trivial⟩ ?_
    exact hk3 _ _ _ ⟨0, h, (hl7.trans hl17), rfl, rfl⟩
  · rintro p12 cd11 τ13 gs11 f11 ht hl14 ⟨rfl, hb, rfl⟩ rfl
    subst ht
    replace h := hA11
    refine st_ord [1] [[(b2, .cells [.int .i64 p12].toArray 39 (0, 0))]] rfl ?_
    refine st_exit rfl ?_
    refine st_env (ρ' := [(2, .int .i64 0), (3, .pointer (some ⟨b2, 0, none⟩))]) ⟨rfl, rfl, trivial⟩ ?_
    exact hk3 _ _ _ ⟨p12, h, (hl7.trans hl14), rfl, rfl⟩
theorem frame_Codec_Check_ok {a0 : List Int} {a1 : (Int × Int × Int × Int × Int) × List Int} {bi3 : Nat} {bi1 : Nat} {v5 : Value} {r : Int} (h : frame_Codec_Check a0 a1 r) (σ : Sto) (hc4 : CelN σ ⟨bi3, 0, none⟩ (cellsN (Value.int .u32) 0 1024 a0)) (hc2 : CelN σ ⟨bi1, 0, none⟩ [.pointer (some ⟨bi3, 0, none⟩)]) (hs6 : Sl (kI .u8) σ v5 a1.2) :
    Does Try.prog 21 [.pointer (some ⟨bi1, 0, none⟩), .agg [.int .i64 a1.1.1, .int .i64 a1.1.2.1, .int .u32 a1.1.2.2.1, .int .i64 a1.1.2.2.2.1, .int .i64 a1.1.2.2.2.2, v5].toArray] σ [] (fun v τ gs => gs = [] ∧ .int .i64 r = v) := by
  refine call_of Try.func21 Try.ntmps21 rfl rfl (fun cs fs => ?_)
  refine st_seq ?_
  refine st_region ?_
  refine o_box (cs := [.int .i64 a1.1.1, .int .i64 a1.1.2.1, .int .u32 a1.1.2.2.1, .int .i64 a1.1.2.2.2.1, .int .i64 a1.1.2.2.2.2, v5]) rfl rfl rfl rfl rfl (fun b7 => ?_)
  refine o_assign rfl rfl rfl rfl ?_
  refine st_end ?_
  refine st_seq ?_
  refine st_seq ?_
  refine st_region ?_
  refine o_move rfl rfl rfl rfl ?_
  refine o_ptrNil (b := false) rfl rfl rfl Try.underlying48 rfl rfl rfl ?_
  refine st_end ?_
  refine st_condF rfl ?_
  refine st_skip ?_
  refine st_seq ?_
  refine st_region ?_
  refine o_fieldAddr rfl rfl rfl z_field47_0 rfl ?_
  refine o_loadN (j := 0) (vs := [.int .i64 a1.1.1, .int .i64 a1.1.2.1, .int .u32 a1.1.2.2.1, .int .i64 a1.1.2.2.2.1, .int .i64 a1.1.2.2.2.2]) rfl rfl rfl z_agg44 rfl rfl rfl ?_
  obtain ⟨r8, hr9, h⟩ := h
  refine st_call (foot := []) rfl rfl rfl rfl rfl rfl (callV_fn z_en50 (head_Check_ok hr9 σ)) ?_
  rintro vτ10 τ10 gsτ10 hl11 ⟨rfl, rfl⟩
  refine o_assign rfl rfl rfl rfl ?_
  refine st_end ?_
  refine st_seq ?_
  refine st_block ?_
  refine st_seq ?_
  refine st_region ?_
  refine o_move rfl rfl rfl rfl ?_
  refine o_ibin (v := .bool (!(decide (r8 = 0)))) rfl rfl rfl rfl rfl rfl ?_
  refine o_assign rfl rfl rfl rfl ?_
  refine st_end ?_
  refine st_cond rfl (fun hc => ?_) (fun hc => ?_)
  · replace h := (if_pos hc).mp h
    refine st_seq ?_
    refine st_region ?_
    refine o_move rfl rfl rfl rfl ?_
    refine o_assign rfl rfl rfl rfl ?_
    refine st_end ?_
    refine st_ord [] [] rfl ?_
    obtain rfl := Eq.symm h
    exact st_ret (gs' := []) Try.func21 rfl (List.Sublist.refl _) hl11 ⟨rfl, rfl⟩
  · replace h := (if_neg (ne_t hc)).mp h
    refine st_seq ?_
    refine st_region ?_
    refine o_fieldAddr rfl rfl rfl z_field47_1 rfl ?_
    refine o_load (j := 0) (v := v5) rfl rfl rfl z_sc45 rfl rfl rfl ?_
    refine o_lenI rfl rfl rfl z_slT45 rfl (hs6.up hl11) ?_
    refine o_ibin (v := .bool (decide ((a1.2.length : Int) = 0))) rfl rfl rfl rfl rfl rfl ?_
    refine o_assign rfl rfl rfl rfl ?_
    refine st_end ?_
    refine st_cond rfl (fun hc => ?_) (fun hc => ?_)
    · replace h := (if_pos hc).mp h
      refine st_seq ?_
      refine st_region ?_
      refine o_assign rfl rfl rfl rfl ?_
      refine st_end ?_
      refine st_ord [] [] rfl ?_
      obtain rfl := Eq.symm h
      exact st_ret (gs' := []) Try.func21 rfl (List.Sublist.refl _) hl11 ⟨rfl, rfl⟩
    · replace h := (if_neg (ne_t hc)).mp h
      refine st_seq ?_
      refine st_region ?_
      refine o_fieldAddr rfl rfl rfl z_field47_1 rfl ?_
      refine o_load (j := 0) (v := v5) rfl rfl rfl z_sc45 rfl rfl rfl ?_
      refine o_lenI rfl rfl rfl z_slT45 rfl (hs6.up hl11) ?_
      refine o_ibin (v := .bool (decide (242 < (a1.2.length : Int)))) rfl rfl rfl rfl rfl rfl ?_
      refine o_assign rfl rfl rfl rfl ?_
      refine st_end ?_
      refine st_cond rfl (fun hc => ?_) (fun hc => ?_)
      · replace h := (if_pos hc).mp h
        refine st_seq ?_
        refine st_region ?_
        refine o_assign rfl rfl rfl rfl ?_
        refine st_end ?_
        refine st_ord [] [] rfl ?_
        obtain rfl := Eq.symm h
        exact st_ret (gs' := []) Try.func21 rfl (List.Sublist.refl _) hl11 ⟨rfl, rfl⟩
      · replace h := (if_neg (ne_t hc)).mp h
        refine st_skip ?_
        refine st_inBlock ?_
        refine st_seq ?_
        refine st_region ?_
        refine o_assign rfl rfl rfl rfl ?_
        refine st_end ?_
        refine st_ord [] [] rfl ?_
        obtain rfl := Eq.symm h
        exact st_ret (gs' := []) Try.func21 rfl (List.Sublist.refl _) hl11 ⟨rfl, rfl⟩
theorem head_Bytes_ok {a0 : Int × Int × Int × Int × Int} {r : List Int × Int} (h : head_Bytes a0 r) (σ : Sto)  :
    Does Try.prog 65 [.agg [.int .i64 a0.1, .int .i64 a0.2.1, .int .u32 a0.2.2.1, .int .i64 a0.2.2.2.1, .int .i64 a0.2.2.2.2].toArray] σ [] (fun v τ gs => ∃ (v13 : Value), gs = [] ∧ .tuple [v13, .int .i64 r.2].toArray = v ∧ Sl (kI .u8) τ v13 r.1 ∧ Full v13) := by
  refine call_of Try.func65 Try.ntmps65 rfl rfl (fun cs fs => ?_)
  refine st_seq ?_
  refine st_region ?_
  refine o_box (cs := [.int .i64 a0.1, .int .i64 a0.2.1, .int .u32 a0.2.2.1, .int .i64 a0.2.2.2.1, .int .i64 a0.2.2.2.2]) rfl rfl rfl rfl rfl (fun b1 => ?_)
  refine o_assign rfl rfl rfl rfl ?_
  refine o_assign rfl rfl rfl rfl ?_
  refine st_end ?_
  refine st_seq ?_
  refine st_seq ?_
  refine st_region ?_
  refine o_loadN (j := 0) (vs := [.int .i64 a0.1, .int .i64 a0.2.1, .int .u32 a0.2.2.1, .int .i64 a0.2.2.2.1, .int .i64 a0.2.2.2.2]) rfl rfl rfl z_agg44 rfl rfl rfl ?_
  obtain ⟨r2, hr3, h⟩ := h
  refine st_call (foot := []) rfl rfl rfl rfl rfl rfl (callV_fn z_en50 (head_Check_ok hr3 σ)) ?_
  rintro vτ4 τ4 gsτ4 hl5 ⟨rfl, rfl⟩
  refine o_assign rfl rfl rfl rfl ?_
  refine st_end ?_
  refine st_seq ?_
  refine st_region ?_
  refine o_move rfl rfl rfl rfl ?_
  refine o_ibin (v := .bool (!(decide (r2 = 0)))) rfl rfl rfl rfl rfl rfl ?_
  refine st_end ?_
  refine st_cond rfl (fun hc => ?_) (fun hc => ?_)
  · replace h := (if_pos hc).mp h
    refine st_seq ?_
    refine st_region ?_
    refine o_move rfl rfl rfl rfl ?_
    refine o_assign rfl rfl rfl rfl ?_
    refine o_assign rfl rfl rfl rfl ?_
    refine st_end ?_
    refine st_ord [] [] rfl ?_
    obtain rfl := Eq.symm h
    exact st_ret (gs' := []) Try.func65 rfl (List.Sublist.refl _) hl5 ⟨_, rfl, rfl, Sl.nil, full_nil⟩
  · replace h := (if_neg (ne_t hc)).mp h
    refine st_skip ?_
    refine st_seq ?_
    refine st_region ?_
    refine o_fieldAddr rfl rfl rfl z_field44_0 rfl ?_
    refine o_load (j := 0) (v := .int .i64 a0.1) rfl rfl rfl z_sc3 rfl rfl rfl ?_
    refine o_conv rfl rfl rfl Try.underlying3 Try.underlying5 rfl ?_
    refine o_fieldAddr rfl rfl rfl z_field44_1 rfl ?_
    refine o_load (j := 0) (v := .int .i64 a0.2.1) rfl rfl rfl z_sc3 rfl rfl rfl ?_
    refine o_conv rfl rfl rfl Try.underlying3 Try.underlying5 rfl ?_
    refine o_fieldAddr rfl rfl rfl z_field44_2 rfl ?_
    refine o_load (j := 0) (v := .int .u32 a0.2.2.1) rfl rfl rfl z_sc22 rfl rfl rfl ?_
    refine o_conv rfl rfl rfl Try.underlying22 Try.underlying5 rfl ?_
    refine o_fieldAddr rfl rfl rfl z_field44_2 rfl ?_
    refine o_load (j := 0) (v := .int .u32 a0.2.2.1) rfl rfl rfl z_sc22 rfl rfl rfl ?_
    refine o_shr rfl rfl rfl rfl rfl (by decide) ?_
    refine o_conv rfl rfl rfl Try.underlying22 Try.underlying5 rfl ?_
    refine o_fieldAddr rfl rfl rfl z_field44_2 rfl ?_
    refine o_load (j := 0) (v := .int .u32 a0.2.2.1) rfl rfl rfl z_sc22 rfl rfl rfl ?_
    refine o_shr rfl rfl rfl rfl rfl (by decide) ?_
    refine o_conv rfl rfl rfl Try.underlying22 Try.underlying5 rfl ?_
    refine o_fieldAddr rfl rfl rfl z_field44_2 rfl ?_
    refine o_load (j := 0) (v := .int .u32 a0.2.2.1) rfl rfl rfl z_sc22 rfl rfl rfl ?_
    refine o_shr rfl rfl rfl rfl rfl (by decide) ?_
    refine o_conv rfl rfl rfl Try.underlying22 Try.underlying5 rfl ?_
    refine o_fieldAddr rfl rfl rfl z_field44_3 rfl ?_
    refine o_load (j := 0) (v := .int .i64 a0.2.2.2.1) rfl rfl rfl z_sc3 rfl rfl rfl ?_
    refine o_conv rfl rfl rfl Try.underlying3 Try.underlying5 rfl ?_
    refine o_fieldAddr rfl rfl rfl z_field44_4 rfl ?_
    refine o_load (j := 0) (v := .int .i64 a0.2.2.2.2) rfl rfl rfl z_sc3 rfl rfl rfl ?_
    refine o_conv rfl rfl rfl Try.underlying3 Try.underlying5 rfl ?_
    refine o_buildA (ps := [(0, [.int .u8 (IntKind.u8.wrap a0.1)]), (1, [.int .u8 (IntKind.u8.wrap a0.2.1)]), (2, [.int .u8 (IntKind.u8.wrap a0.2.2.1)]), (3, [.int .u8 (IntKind.u8.wrap (ishr .u32 a0.2.2.1 8))]), (4, [.int .u8 (IntKind.u8.wrap (ishr .u32 a0.2.2.1 16))]), (5, [.int .u8 (IntKind.u8.wrap (ishr .u32 a0.2.2.1 24))]), (6, [.int .u8 (IntKind.u8.wrap a0.2.2.2.1)]), (7, [.int .u8 (IntKind.u8.wrap a0.2.2.2.2)])]) (cs := [.int .u8 (IntKind.u8.wrap a0.1), .int .u8 (IntKind.u8.wrap a0.2.1), .int .u8 (IntKind.u8.wrap a0.2.2.1), .int .u8 (IntKind.u8.wrap (ishr .u32 a0.2.2.1 8)), .int .u8 (IntKind.u8.wrap (ishr .u32 a0.2.2.1 16)), .int .u8 (IntKind.u8.wrap (ishr .u32 a0.2.2.1 24)), .int .u8 (IntKind.u8.wrap a0.2.2.2.1), .int .u8 (IntKind.u8.wrap a0.2.2.2.2)]) rfl rfl rfl z_arrz153 ⟨rfl, ⟨_, rfl, rfl⟩, ⟨rfl, ⟨_, rfl, rfl⟩, ⟨rfl, ⟨_, rfl, rfl⟩, ⟨rfl, ⟨_, rfl, rfl⟩, ⟨rfl, ⟨_, rfl, rfl⟩, ⟨rfl, ⟨_, rfl, rfl⟩, ⟨rfl, ⟨_, rfl, rfl⟩, ⟨rfl, ⟨_, rfl, rfl⟩, trivial⟩⟩⟩⟩⟩⟩⟩⟩ (fill_all [.int .u8 (IntKind.u8.wrap a0.1), .int .u8 (IntKind.u8.wrap a0.2.1), .int .u8 (IntKind.u8.wrap a0.2.2.1), .int .u8 (IntKind.u8.wrap (ishr .u32 a0.2.2.1 8)), .int .u8 (IntKind.u8.wrap (ishr .u32 a0.2.2.1 16)), .int .u8 (IntKind.u8.wrap (ishr .u32 a0.2.2.1 24)), .int .u8 (IntKind.u8.wrap a0.2.2.2.1), .int .u8 (IntKind.u8.wrap a0.2.2.2.2)] _ rfl) ?_
    refine o_alloc rfl rfl rfl z_zero153 (fun b6 => ?_)
    refine o_store (j := 0) (vs := [.int .u8 (IntKind.u8.wrap a0.1), .int .u8 (IntKind.u8.wrap a0.2.1), .int .u8 (IntKind.u8.wrap a0.2.2.1), .int .u8 (IntKind.u8.wrap (ishr .u32 a0.2.2.1 8)), .int .u8 (IntKind.u8.wrap (ishr .u32 a0.2.2.1 16)), .int .u8 (IntKind.u8.wrap (ishr .u32 a0.2.2.1 24)), .int .u8 (IntKind.u8.wrap a0.2.2.2.1), .int .u8 (IntKind.u8.wrap a0.2.2.2.2)]) (cs' := [.int .u8 (IntKind.u8.wrap a0.1), .int .u8 (IntKind.u8.wrap a0.2.1), .int .u8 (IntKind.u8.wrap a0.2.2.1), .int .u8 (IntKind.u8.wrap (ishr .u32 a0.2.2.1 8)), .int .u8 (IntKind.u8.wrap (ishr .u32 a0.2.2.1 16)), .int .u8 (IntKind.u8.wrap (ishr .u32 a0.2.2.1 24)), .int .u8 (IntKind.u8.wrap a0.2.2.2.1), .int .u8 (IntKind.u8.wrap a0.2.2.2.2)]) rfl rfl rfl z_size153 rfl rfl rfl (ones_cons rfl (ones_cons rfl (ones_cons rfl (ones_cons rfl (ones_cons rfl (ones_cons rfl (ones_cons rfl (ones_cons rfl ones_nil)))))))) rfl rfl rfl ?_
    refine st_gs [[(b6, .cells [.int .u8 (IntKind.u8.wrap a0.1), .int .u8 (IntKind.u8.wrap a0.2.1), .int .u8 (IntKind.u8.wrap a0.2.2.1), .int .u8 (IntKind.u8.wrap (ishr .u32 a0.2.2.1 8)), .int .u8 (IntKind.u8.wrap (ishr .u32 a0.2.2.1 16)), .int .u8 (IntKind.u8.wrap (ishr .u32 a0.2.2.1 24)), .int .u8 (IntKind.u8.wrap a0.2.2.2.1), .int .u8 (IntKind.u8.wrap a0.2.2.2.2)].toArray 153 (0, 0))], [(b1, .cells [.int .i64 a0.1, .int .i64 a0.2.1, .int .u32 a0.2.2.1, .int .i64 a0.2.2.2.1, .int .i64 a0.2.2.2.2].toArray 44 (0, 0))]] rfl ?_
    refine st_end ?_
    refine st_seq ?_
    refine st_region ?_
    refine st_freeze (fun τ7 hl8 hg9 => ?_)
    refine o_sliceF (dk := (kI .u8)) (xs := [(IntKind.u8.wrap a0.1), (IntKind.u8.wrap a0.2.1), (IntKind.u8.wrap a0.2.2.1), (IntKind.u8.wrap (ishr .u32 a0.2.2.1 8)), (IntKind.u8.wrap (ishr .u32 a0.2.2.1 16)), (IntKind.u8.wrap (ishr .u32 a0.2.2.1 24)), (IntKind.u8.wrap a0.2.2.2.1), (IntKind.u8.wrap a0.2.2.2.2)]) rfl rfl rfl z_arr153 rfl (hg9 _ List.mem_cons_self) (manyI [(IntKind.u8.wrap a0.1), (IntKind.u8.wrap a0.2.1), (IntKind.u8.wrap a0.2.2.1), (IntKind.u8.wrap (ishr .u32 a0.2.2.1 8)), (IntKind.u8.wrap (ishr .u32 a0.2.2.1 16)), (IntKind.u8.wrap (ishr .u32 a0.2.2.1 24)), (IntKind.u8.wrap a0.2.2.2.1), (IntKind.u8.wrap a0.2.2.2.2)]) rfl rfl (fun v10 hs11 hF12 => ?_)
    refine o_assign rfl rfl rfl rfl ?_
    refine o_assign rfl rfl rfl rfl ?_
    refine st_end ?_
    refine st_ord [] [] rfl ?_
    obtain rfl := Eq.symm h
    exact st_ret (gs' := []) Try.func65 rfl (List.Sublist.refl _) (hl5.trans hl8) ⟨_, rfl, rfl, hs11, hF12⟩
theorem crc_Table_Begin_ok {a0 : List Int} {bi1 : Nat} {r : Int} (h : crc_Table_Begin a0 r) (σ : Sto) (hc2 : CelN σ ⟨bi1, 0, none⟩ (cellsN (Value.int .u32) 0 1024 a0)) :
    Does Try.prog 93 [.pointer (some ⟨bi1, 0, none⟩)] σ [] (fun v τ gs => gs = [] ∧ .int .u32 r = v) := by
  refine call_of Try.func93 Try.ntmps93 rfl rfl (fun cs fs => ?_)
  refine st_seq ?_
  refine st_region ?_
  refine o_assign rfl rfl rfl rfl ?_
  refine st_end ?_
  refine st_seq ?_
  refine st_seq ?_
  refine st_region ?_
  refine o_move rfl rfl rfl rfl ?_
  refine o_ptrNil (b := false) rfl rfl rfl Try.underlying94 rfl rfl rfl ?_
  refine st_end ?_
  refine st_condF rfl ?_
  refine st_skip ?_
  refine st_seq ?_
  refine st_region ?_
  refine o_assign rfl rfl rfl rfl ?_
  refine st_end ?_
  obtain rfl := Eq.symm h
  exact st_ret (gs' := []) Try.func93 rfl (List.Sublist.refl _) (Sto.Le.refl _) ⟨rfl, rfl⟩
theorem crc_Table_Add_ok {a0 : List Int} {a1 : Int} {a2 : List Int} {bi1 : Nat} {v3 : Value} {r : Int} (h : crc_Table_Add a0 a1 a2 r) (σ : Sto) (hc2 : CelN σ ⟨bi1, 0, none⟩ (cellsN (Value.int .u32) 0 1024 a0)) (hs4 : Sl (kI .u8) σ v3 a2) :
    Does Try.prog 94 [.pointer (some ⟨bi1, 0, none⟩), .int .u32 a1, v3] σ [] (fun v τ gs => gs = [] ∧ .int .u32 r = v) := by
  refine call_of Try.func94 Try.ntmps94 rfl rfl (fun cs fs => ?_)
  refine st_seq ?_
  refine st_region ?_
  refine o_assign rfl rfl rfl rfl ?_
  refine st_end ?_
  refine st_scope ?_
  refine st_seq ?_
  refine st_seq ?_
  refine st_region ?_
  refine o_move rfl rfl rfl rfl ?_
  refine o_ptrNil (b := false) rfl rfl rfl Try.underlying94 rfl rfl rfl ?_
  refine st_end ?_
  refine st_condF rfl ?_
  refine st_skip ?_
  refine st_seq ?_
  refine st_label ?_
  refine st_seq ?_
  refine st_cut (fun ρ τ5 gs => ∃ (s5 : Int × List Int) (v6 : Value), crc_Table_Add_j1 a0 s5 r ∧ σ.Le τ5 ∧ ρ = [(0, .pointer (some ⟨bi1, 0, none⟩)), (1, .int .u32 s5.1), (2, v6), (6, .int .u32 0)] ∧ gs = [] ∧ Sl (kI .u8) τ5 v6 s5.2) ?_ (fun hk5 => ?_)
  · rintro ρ5 τ5 gs5 ⟨s5, v6, h, hl5, rfl, rfl, hs7⟩
    refine st_seq ?_
    refine st_cut (fun ρ τ8 gs => ∃ (s8 : Int), crc_Table_Add_j2 s8 r ∧ τ5.Le τ8 ∧ ρ = [(1, .int .u32 s8), (6, .int .u32 0)] ∧ gs = []) ?_ (fun hk8 => ?_)
    · rintro ρ8 τ8 gs8 ⟨s8, h, hl8, rfl, rfl⟩
      refine st_seq ?_
      refine st_region ?_
      refine o_move rfl rfl rfl rfl ?_
      refine o_assign rfl rfl rfl rfl ?_
      refine st_end ?_
      obtain rfl := Eq.symm h
      exact st_ret (gs' := []) Try.func94 rfl (List.Sublist.refl _) (hl5.trans hl8) ⟨rfl, rfl⟩
    refine st_seq ?_
    refine st_region ?_
    refine o_move rfl rfl rfl rfl ?_
    refine o_lenI rfl rfl rfl z_slT45 rfl hs7 ?_
    refine o_move rfl rfl rfl rfl ?_
    refine st_end ?_
    obtain ⟨e9, hL9, hA9⟩ := h
    refine st_env (ρ' := [(0, .pointer (some ⟨bi1, 0, none⟩)), (1, .int .u32 s5.1), (6, .int .u32 0), (77, v6), (78, .int .i64 (s5.2.length : Int)), (79, .int .i64 0)]) ⟨rfl, rfl, rfl, rfl, rfl, rfl, trivial⟩ ?_
    refine st_loop hL9 (fun (s9 : Int × Int) ρ τ9 gs => τ5.Le τ9 ∧ ρ = [(0, .pointer (some ⟨bi1, 0, none⟩)), (1, .int .u32 s9.1), (6, .int .u32 0), (77, v6), (78, .int .i64 (s5.2.length : Int)), (79, .int .i64 s9.2)] ∧ gs = []) ⟨Sto.Le.refl _, rfl, rfl⟩ ?_
    rintro s9 o9 h he9 ρ9 τ9 gs9 ⟨hl9, rfl, rfl⟩ hn9
    refine st_seq ?_
    refine st_region ?_
    refine o_ibin (v := .bool (decide (s9.2 < (s5.2.length : Int)))) rfl rfl rfl rfl rfl rfl ?_
    refine st_end ?_
    refine st_seq ?_
    refine st_cond rfl (fun hc => ?_) (fun hc => ?_)
    · replace h := (if_pos hc).mp h
      refine st_skip ?_
      refine st_seq ?_
      refine st_block ?_
      refine st_seq ?_
      refine st_region ?_
      obtain ⟨q10, hf11, h⟩ := h
      refine o_index rfl rfl rfl z_slT45 rfl rfl (hs7.up hl9) rfl hf11 (fun b12 of13 vs hc14 hrep => ?_)
      obtain rfl := hrep
      refine o_loadI (v := .int .u8 q10) rfl rfl rfl z_sc5 rfl (hc14 0 _ rfl) ?_
      refine o_assign rfl rfl rfl rfl ?_
      refine st_end ?_
      refine st_region ?_
      refine o_move rfl rfl rfl rfl ?_
      refine o_shr rfl rfl rfl rfl rfl (by decide) ?_
      refine o_move rfl rfl rfl rfl ?_
      refine o_move rfl rfl rfl rfl ?_
      refine o_conv rfl rfl rfl Try.underlying22 Try.underlying5 rfl ?_
      refine o_move rfl rfl rfl rfl ?_
      refine o_ibin (v := .int .u8 (ixor .u8 (IntKind.u8.wrap s9.1) q10)) rfl rfl rfl rfl rfl rfl ?_
      refine o_nilCheck rfl rfl rfl rfl ?_
      refine o_fieldAddr rfl rfl rfl z_field131_0 rfl ?_
      refine o_indexA rfl rfl rfl z_arr129 rfl rfl (by decide) (by decide) ?_
      obtain ⟨hf15, h⟩ := h
      obtain ⟨hf16, h⟩ := h
      refine o_indexA rfl rfl rfl z_arr128 rfl rfl hf15 hf16 ?_
      refine o_loadI (v := .int .u32 (a0.getD ((ixor .u8 (IntKind.u8.wrap s9.1) q10).toNat) 0)) rfl rfl rfl z_sc22 rfl (cel_big (q := (ixor .u8 (IntKind.u8.wrap s9.1) q10).toNat) (hc2.up (hl5.trans hl9)) (by omega) (by omega)) ?_
      refine o_ibin (v := .int .u32 (ixor .u32 (ishr .u32 s9.1 8) (a0.getD ((ixor .u8 (IntKind.u8.wrap s9.1) q10).toNat) 0))) rfl rfl rfl rfl rfl rfl ?_
      refine o_assign rfl rfl rfl rfl ?_
      refine st_end ?_
      refine st_inBlock ?_
      refine st_region ?_
      refine o_ibin (v := .int .i64 (IntKind.i64.wrap (s9.2 + 1))) rfl rfl rfl rfl rfl rfl ?_
      refine o_move rfl rfl rfl rfl ?_
      refine st_end ?_
      refine st_env (ρ' := [(0, .pointer (some ⟨bi1, 0, none⟩)), (1, .int .u32 (ixor .u32 (ishr .u32 s9.1 8) (a0.getD ((ixor .u8 (IntKind.u8.wrap s9.1) q10).toNat) 0))), (6, .int .u32 0), (77, v6), (78, .int .i64 (s5.2.length : Int)), (79, .int .i64 (IntKind.i64.wrap (s9.2 + 1)))]) ⟨rfl, rfl, rfl, rfl, rfl, rfl, trivial⟩ ?_
      exact hn9 _ _ _ _ h ⟨hl9, rfl, rfl⟩
    · replace h := (if_neg (ne_t hc)).mp h
      refine st_exit rfl ?_
      obtain rfl := he9 _ h
      replace h := hA9
      refine st_env (ρ' := [(1, .int .u32 s9.1), (6, .int .u32 0)]) ⟨rfl, rfl, trivial⟩ ?_
      exact hk8 _ _ _ ⟨s9.1, h, hl9, rfl, rfl⟩
  obtain ⟨e18, hL18, hA18⟩ := h
  refine st_env (ρ' := [(0, .pointer (some ⟨bi1, 0, none⟩)), (1, .int .u32 a1), (2, v3), (6, .int .u32 0)]) ⟨rfl, rfl, rfl, rfl, trivial⟩ ?_
  refine st_loop hL18 (fun (s18 : Int × List Int) ρ τ18 gs => σ.Le τ18 ∧ ∃ (v19 : Value), ρ = [(0, .pointer (some ⟨bi1, 0, none⟩)), (1, .int .u32 s18.1), (2, v19), (6, .int .u32 0)] ∧ gs = [] ∧ Sl (kI .u8) τ18 v19 s18.2) ⟨Sto.Le.refl _, _, rfl, rfl, hs4⟩ ?_
  rintro s18 o18 h he18 ρ18 τ18 gs18 ⟨hl18, v19, rfl, rfl, hs20⟩ hn18
  refine st_block ?_
  refine st_seq ?_
  refine st_seq ?_
  refine st_region ?_
  refine o_move rfl rfl rfl rfl ?_
  refine o_lenI rfl rfl rfl z_slT45 rfl hs20 ?_
  refine o_ibin (v := .bool (decide ((s18.2.length : Int) < 4))) rfl rfl rfl rfl rfl rfl ?_
  refine st_end ?_
  refine st_cond rfl (fun hc => ?_) (fun hc => ?_)
  · replace h := (if_pos hc).mp h
    refine st_exit rfl ?_
    obtain rfl := he18 _ h
    replace h := hA18
    refine st_env (ρ' := [(0, .pointer (some ⟨bi1, 0, none⟩)), (1, .int .u32 s18.1), (2, v19), (6, .int .u32 0)]) ⟨rfl, rfl, rfl, rfl, trivial⟩ ?_
    exact hk5 _ _ _ ⟨(s18.1, s18.2), _, h, hl18, rfl, rfl, hs20⟩
  · replace h := (if_neg (ne_t hc)).mp h
    refine st_skip ?_
    refine st_seq ?_
    obtain ⟨q21, hf22, h⟩ := h
    obtain ⟨q26, hf27, h⟩ := h
    obtain ⟨q31, hf32, h⟩ := h
    obtain ⟨q36, hf37, h⟩ := h
    refine st_draw 24 (tl [fun τ v => (.int .u32 s18.1 : Value) = v,
    fun τ v => (v19 : Value) = v,
    fun τ v => ∃ (b23 : Nat) (of24 : Nat) (vsb23 : List Value), (.pointer (some ⟨b23, of24, none⟩) : Value) = v ∧ CelN τ ⟨b23, of24, none⟩ vsb23 ∧ (kI .u8).rep τ vsb23 q21,
    fun τ v => (.int .u8 q21 : Value) = v,
    fun τ v => (.int .u32 (IntKind.u32.wrap q21) : Value) = v,
    fun τ v => (v19 : Value) = v,
    fun τ v => ∃ (b28 : Nat) (of29 : Nat) (vsb28 : List Value), (.pointer (some ⟨b28, of29, none⟩) : Value) = v ∧ CelN τ ⟨b28, of29, none⟩ vsb28 ∧ (kI .u8).rep τ vsb28 q26,
    fun τ v => (.int .u8 q26 : Value) = v,
    fun τ v => (.int .u32 (IntKind.u32.wrap q26) : Value) = v,
    fun τ v => (.int .u32 (ishl .u32 (IntKind.u32.wrap q26) 8) : Value) = v,
    fun τ v => (.int .u32 (ior .u32 (IntKind.u32.wrap q21) (ishl .u32 (IntKind.u32.wrap q26) 8)) : Value) = v,
    fun τ v => (v19 : Value) = v,
    fun τ v => ∃ (b33 : Nat) (of34 : Nat) (vsb33 : List Value), (.pointer (some ⟨b33, of34, none⟩) : Value) = v ∧ CelN τ ⟨b33, of34, none⟩ vsb33 ∧ (kI .u8).rep τ vsb33 q31,
    fun τ v => (.int .u8 q31 : Value) = v,
    fun τ v => (.int .u32 (IntKind.u32.wrap q31) : Value) = v,
    fun τ v => (.int .u32 (ishl .u32 (IntKind.u32.wrap q31) 16) : Value) = v,
    fun τ v => (.int .u32 (ior .u32 (ior .u32 (IntKind.u32.wrap q21) (ishl .u32 (IntKind.u32.wrap q26) 8)) (ishl .u32 (IntKind.u32.wrap q31) 16)) : Value) = v,
    fun τ v => (v19 : Value) = v,
    fun τ v => ∃ (b38 : Nat) (of39 : Nat) (vsb38 : List Value), (.pointer (some ⟨b38, of39, none⟩) : Value) = v ∧ CelN τ ⟨b38, of39, none⟩ vsb38 ∧ (kI .u8).rep τ vsb38 q36,
    fun τ v => (.int .u8 q36 : Value) = v,
    fun τ v => (.int .u32 (IntKind.u32.wrap q36) : Value) = v,
    fun τ v => (.int .u32 (ishl .u32 (IntKind.u32.wrap q36) 24) : Value) = v,
    fun τ v => (.int .u32 (ior .u32 (ior .u32 (ior .u32 (IntKind.u32.wrap q21) (ishl .u32 (IntKind.u32.wrap q26) 8)) (ishl .u32 (IntKind.u32.wrap q31) 16)) (ishl .u32 (IntKind.u32.wrap q36) 24)) : Value) = v,
    fun τ v => (.int .u32 (ixor .u32 s18.1 (ior .u32 (ior .u32 (ior .u32 (IntKind.u32.wrap q21) (ishl .u32 (IntKind.u32.wrap q26) 8)) (ishl .u32 (IntKind.u32.wrap q31) 16)) (ishl .u32 (IntKind.u32.wrap q36) 24))) : Value) = v]) (fun _ _ => []) z_mix rfl (tl_mono ⟨fun _ _ _ _ h => h, ⟨fun _ _ _ _ h => h, ⟨fun _ _ _ hl ⟨b23, of24, vsb23, hv, hc25, hrepb23⟩ => ⟨b23, of24, vsb23, hv, hc25.up hl, Kd.mono _ hl hrepb23⟩, ⟨fun _ _ _ _ h => h, ⟨fun _ _ _ _ h => h, ⟨fun _ _ _ _ h => h, ⟨fun _ _ _ hl ⟨b28, of29, vsb28, hv, hc30, hrepb28⟩ => ⟨b28, of29, vsb28, hv, hc30.up hl, Kd.mono _ hl hrepb28⟩, ⟨fun _ _ _ _ h => h, ⟨fun _ _ _ _ h => h, ⟨fun _ _ _ _ h => h, ⟨fun _ _ _ _ h => h, ⟨fun _ _ _ _ h => h, ⟨fun _ _ _ hl ⟨b33, of34, vsb33, hv, hc35, hrepb33⟩ => ⟨b33, of34, vsb33, hv, hc35.up hl, Kd.mono _ hl hrepb33⟩, ⟨fun _ _ _ _ h => h, ⟨fun _ _ _ _ h => h, ⟨fun _ _ _ _ h => h, ⟨fun _ _ _ _ h => h, ⟨fun _ _ _ _ h => h, ⟨fun _ _ _ hl ⟨b38, of39, vsb38, hv, hc40, hrepb38⟩ => ⟨b38, of39, vsb38, hv, hc40.up hl, Kd.mono _ hl hrepb38⟩, ⟨fun _ _ _ _ h => h, ⟨fun _ _ _ _ h => h, ⟨fun _ _ _ _ h => h, ⟨fun _ _ _ _ h => h, ⟨fun _ _ _ _ h => h, trivial⟩⟩⟩⟩⟩⟩⟩⟩⟩⟩⟩⟩⟩⟩⟩⟩⟩⟩⟩⟩⟩⟩⟩⟩) (allB_cons (allB_cons (allB_cons (allB_cons (allB_cons (allB_cons (allB_cons (allB_cons (allB_cons (allB_cons (allB_cons (allB_cons (allB_cons (allB_cons (allB_cons (allB_cons (allB_cons (allB_cons (allB_cons (allB_cons (allB_cons (allB_cons (allB_cons (allB_cons allB_nil ?_) ?_) ?_) ?_) ?_) ?_) ?_) ?_) ?_) ?_) ?_) ?_) ?_) ?_) ?_) ?_) ?_) ?_) ?_) ?_) ?_) ?_) ?_) ?_) ?_
    · intro ρ' τ pool rs hl hd hout hk
      refine o_move rfl rfl rfl ((hout 1 rfl).trans rfl) ?_
      exact st_addNil (hk _ _ (Sto.Le.refl _) rfl)
    · intro ρ' τ pool rs hl hd hout hk
      refine o_move rfl rfl rfl ((hout 2 rfl).trans rfl) ?_
      exact st_addNil (hk _ _ (Sto.Le.refl _) rfl)
    · intro ρ' τ pool rs hl hd hout hk
      obtain ⟨_, e1, rfl⟩ := hd 1 rfl
      refine o_index rfl rfl rfl z_slT45 rfl e1 (hs20.up hl) rfl hf22 (fun b23 of24 vsb23 hc25 hrepb23 => ?_)
      exact st_addNil (hk _ _ (Sto.Le.refl _) ⟨b23, of24, vsb23, rfl, hc25, hrepb23⟩)
    · intro ρ' τ pool rs hl hd hout hk
      obtain ⟨_, e2, b23, of24, vsb23, rfl, hc25, hrepb23⟩ := hd 2 rfl
      have hrepb23 := hrepb23
      obtain rfl := hrepb23
      refine o_loadI (v := .int .u8 q21) rfl rfl rfl z_sc5 e2 (hc25 0 _ rfl) ?_
      exact st_addNil (hk _ _ (Sto.Le.refl _) rfl)
    · intro ρ' τ pool rs hl hd hout hk
      obtain ⟨_, e3, rfl⟩ := hd 3 rfl
      refine o_conv rfl rfl rfl Try.underlying5 Try.underlying22 e3 ?_
      exact st_addNil (hk _ _ (Sto.Le.refl _) rfl)
    · intro ρ' τ pool rs hl hd hout hk
      refine o_move rfl rfl rfl ((hout 2 rfl).trans rfl) ?_
      exact st_addNil (hk _ _ (Sto.Le.refl _) rfl)
    · intro ρ' τ pool rs hl hd hout hk
      obtain ⟨_, e5, rfl⟩ := hd 5 rfl
      refine o_index rfl rfl rfl z_slT45 rfl e5 (hs20.up hl) rfl hf27 (fun b28 of29 vsb28 hc30 hrepb28 => ?_)
      exact st_addNil (hk _ _ (Sto.Le.refl _) ⟨b28, of29, vsb28, rfl, hc30, hrepb28⟩)
    · intro ρ' τ pool rs hl hd hout hk
      obtain ⟨_, e6, b28, of29, vsb28, rfl, hc30, hrepb28⟩ := hd 6 rfl
      have hrepb28 := hrepb28
      obtain rfl := hrepb28
      refine o_loadI (v := .int .u8 q26) rfl rfl rfl z_sc5 e6 (hc30 0 _ rfl) ?_
      exact st_addNil (hk _ _ (Sto.Le.refl _) rfl)
    · intro ρ' τ pool rs hl hd hout hk
      obtain ⟨_, e7, rfl⟩ := hd 7 rfl
      refine o_conv rfl rfl rfl Try.underlying5 Try.underlying22 e7 ?_
      exact st_addNil (hk _ _ (Sto.Le.refl _) rfl)
    · intro ρ' τ pool rs hl hd hout hk
      obtain ⟨_, e8, rfl⟩ := hd 8 rfl
      refine o_shl rfl rfl rfl e8 rfl (by decide) ?_
      exact st_addNil (hk _ _ (Sto.Le.refl _) rfl)
    · intro ρ' τ pool rs hl hd hout hk
      obtain ⟨_, e4, rfl⟩ := hd 4 rfl
      obtain ⟨_, e9, rfl⟩ := hd 9 rfl
      refine o_ibin (v := .int .u32 (ior .u32 (IntKind.u32.wrap q21) (ishl .u32 (IntKind.u32.wrap q26) 8))) rfl rfl rfl e4 e9 rfl ?_
      exact st_addNil (hk _ _ (Sto.Le.refl _) rfl)
    · intro ρ' τ pool rs hl hd hout hk
      refine o_move rfl rfl rfl ((hout 2 rfl).trans rfl) ?_
      exact st_addNil (hk _ _ (Sto.Le.refl _) rfl)
    · intro ρ' τ pool rs hl hd hout hk
      obtain ⟨_, e11, rfl⟩ := hd 11 rfl
      refine o_index rfl rfl rfl z_slT45 rfl e11 (hs20.up hl) rfl hf32 (fun b33 of34 vsb33 hc35 hrepb33 => ?_)
      exact st_addNil (hk _ _ (Sto.Le.refl _) ⟨b33, of34, vsb33, rfl, hc35, hrepb33⟩)
    · intro ρ' τ pool rs hl hd hout hk
      obtain ⟨_, e12, b33, of34, vsb33, rfl, hc35, hrepb33⟩ := hd 12 rfl
      have hrepb33 := hrepb33
      obtain rfl := hrepb33
      refine o_loadI (v := .int .u8 q31) rfl rfl rfl z_sc5 e12 (hc35 0 _ rfl) ?_
      exact st_addNil (hk _ _ (Sto.Le.refl _) rfl)
    · intro ρ' τ pool rs hl hd hout hk
      obtain ⟨_, e13, rfl⟩ := hd 13 rfl
      refine o_conv rfl rfl rfl Try.underlying5 Try.underlying22 e13 ?_
      exact st_addNil (hk _ _ (Sto.Le.refl _) rfl)
    · intro ρ' τ pool rs hl hd hout hk
      obtain ⟨_, e14, rfl⟩ := hd 14 rfl
      refine o_shl rfl rfl rfl e14 rfl (by decide) ?_
      exact st_addNil (hk _ _ (Sto.Le.refl _) rfl)
    · intro ρ' τ pool rs hl hd hout hk
      obtain ⟨_, e10, rfl⟩ := hd 10 rfl
      obtain ⟨_, e15, rfl⟩ := hd 15 rfl
      refine o_ibin (v := .int .u32 (ior .u32 (ior .u32 (IntKind.u32.wrap q21) (ishl .u32 (IntKind.u32.wrap q26) 8)) (ishl .u32 (IntKind.u32.wrap q31) 16))) rfl rfl rfl e10 e15 rfl ?_
      exact st_addNil (hk _ _ (Sto.Le.refl _) rfl)
    · intro ρ' τ pool rs hl hd hout hk
      refine o_move rfl rfl rfl ((hout 2 rfl).trans rfl) ?_
      exact st_addNil (hk _ _ (Sto.Le.refl _) rfl)
    · intro ρ' τ pool rs hl hd hout hk
      obtain ⟨_, e17, rfl⟩ := hd 17 rfl
      refine o_index rfl rfl rfl z_slT45 rfl e17 (hs20.up hl) rfl hf37 (fun b38 of39 vsb38 hc40 hrepb38 => ?_)
      exact st_addNil (hk _ _ (Sto.Le.refl _) ⟨b38, of39, vsb38, rfl, hc40, hrepb38⟩)
    · intro ρ' τ pool rs hl hd hout hk
      obtain ⟨_, e18, b38, of39, vsb38, rfl, hc40, hrepb38⟩ := hd 18 rfl
      have hrepb38 := hrepb38
      obtain rfl := hrepb38
      refine o_loadI (v := .int .u8 q36) rfl rfl rfl z_sc5 e18 (hc40 0 _ rfl) ?_
      exact st_addNil (hk _ _ (Sto.Le.refl _) rfl)
    · intro ρ' τ pool rs hl hd hout hk
      obtain ⟨_, e19, rfl⟩ := hd 19 rfl
      refine o_conv rfl rfl rfl Try.underlying5 Try.underlying22 e19 ?_
      exact st_addNil (hk _ _ (Sto.Le.refl _) rfl)
    · intro ρ' τ pool rs hl hd hout hk
      obtain ⟨_, e20, rfl⟩ := hd 20 rfl
      refine o_shl rfl rfl rfl e20 rfl (by decide) ?_
      exact st_addNil (hk _ _ (Sto.Le.refl _) rfl)
    · intro ρ' τ pool rs hl hd hout hk
      obtain ⟨_, e16, rfl⟩ := hd 16 rfl
      obtain ⟨_, e21, rfl⟩ := hd 21 rfl
      refine o_ibin (v := .int .u32 (ior .u32 (ior .u32 (ior .u32 (IntKind.u32.wrap q21) (ishl .u32 (IntKind.u32.wrap q26) 8)) (ishl .u32 (IntKind.u32.wrap q31) 16)) (ishl .u32 (IntKind.u32.wrap q36) 24))) rfl rfl rfl e16 e21 rfl ?_
      exact st_addNil (hk _ _ (Sto.Le.refl _) rfl)
    · intro ρ' τ pool rs hl hd hout hk
      obtain ⟨_, e0, rfl⟩ := hd 0 rfl
      obtain ⟨_, e22, rfl⟩ := hd 22 rfl
      refine o_ibin (v := .int .u32 (ixor .u32 s18.1 (ior .u32 (ior .u32 (ior .u32 (IntKind.u32.wrap q21) (ishl .u32 (IntKind.u32.wrap q26) 8)) (ishl .u32 (IntKind.u32.wrap q31) 16)) (ishl .u32 (IntKind.u32.wrap q36) 24)))) rfl rfl rfl e0 e22 rfl ?_
      exact st_addNil (hk _ _ (Sto.Le.refl _) rfl)
    intro ρ' τ41 vals hl41 hv hout
    have l23 : Eng.look ρ' 37 = some (.int .u32 (ixor .u32 s18.1 (ior .u32 (ior .u32 (ior .u32 (IntKind.u32.wrap q21) (ishl .u32 (IntKind.u32.wrap q26) 8)) (ishl .u32 (IntKind.u32.wrap q31) 16)) (ishl .u32 (IntKind.u32.wrap q36) 24)))) := (hv 23 (by decide)).1.trans (congrArg some (show vals 23 = .int .u32 (ixor .u32 s18.1 (ior .u32 (ior .u32 (ior .u32 (IntKind.u32.wrap q21) (ishl .u32 (IntKind.u32.wrap q26) 8)) (ishl .u32 (IntKind.u32.wrap q31) 16)) (ishl .u32 (IntKind.u32.wrap q36) 24))) from Eq.symm (hv 23 (by decide)).2))
    refine st_ord [] [] rfl ?_
    refine st_env (ρ' := [(37, .int .u32 (ixor .u32 s18.1 (ior .u32 (ior .u32 (ior .u32 (IntKind.u32.wrap q21) (ishl .u32 (IntKind.u32.wrap q26) 8)) (ishl .u32 (IntKind.u32.wrap q31) 16)) (ishl .u32 (IntKind.u32.wrap q36) 24)))), (0, .pointer (some ⟨bi1, 0, none⟩)), (2, v19), (6, .int .u32 0)]) ⟨l23, (hout 0 rfl).trans rfl, (hout 2 rfl).trans rfl, (hout 6 rfl).trans rfl, trivial⟩ ?_
    refine o_assign rfl rfl rfl rfl ?_
    refine st_end ?_
    refine st_seq ?_
    obtain ⟨hf42, h⟩ := h
    obtain ⟨hf43, h⟩ := h
    obtain ⟨hf44, h⟩ := h
    obtain ⟨hf45, h⟩ := h
    obtain ⟨hf46, h⟩ := h
    obtain ⟨hf47, h⟩ := h
    obtain ⟨hf48, h⟩ := h
    obtain ⟨hf49, h⟩ := h
    refine st_draw 37 (tl [fun τ v => (.pointer (some ⟨bi1, 0, none⟩) : Value) = v,
    fun τ v => (.int .u32 (ixor .u32 s18.1 (ior .u32 (ior .u32 (ior .u32 (IntKind.u32.wrap q21) (ishl .u32 (IntKind.u32.wrap q26) 8)) (ishl .u32 (IntKind.u32.wrap q31) 16)) (ishl .u32 (IntKind.u32.wrap q36) 24))) : Value) = v,
    fun τ v => (.int .u32 (iand .u32 (ixor .u32 s18.1 (ior .u32 (ior .u32 (ior .u32 (IntKind.u32.wrap q21) (ishl .u32 (IntKind.u32.wrap q26) 8)) (ishl .u32 (IntKind.u32.wrap q31) 16)) (ishl .u32 (IntKind.u32.wrap q36) 24))) 255) : Value) = v,
    fun τ v => (.pointer (some ⟨bi1, 0, none⟩) : Value) = v,
    fun τ v => (.pointer (some ⟨bi1, 0 + 0, none⟩) : Value) = v,
    fun τ v => (.pointer (some ⟨bi1, 0 + 0 + (3 : Int).toNat * 256, none⟩) : Value) = v,
    fun τ v => (.pointer (some ⟨bi1, 0 + 0 + (3 : Int).toNat * 256 + (iand .u32 (ixor .u32 s18.1 (ior .u32 (ior .u32 (ior .u32 (IntKind.u32.wrap q21) (ishl .u32 (IntKind.u32.wrap q26) 8)) (ishl .u32 (IntKind.u32.wrap q31) 16)) (ishl .u32 (IntKind.u32.wrap q36) 24))) 255).toNat * 1, none⟩) : Value) = v,
    fun τ v => (.int .u32 (a0.getD (768 + (iand .u32 (ixor .u32 s18.1 (ior .u32 (ior .u32 (ior .u32 (IntKind.u32.wrap q21) (ishl .u32 (IntKind.u32.wrap q26) 8)) (ishl .u32 (IntKind.u32.wrap q31) 16)) (ishl .u32 (IntKind.u32.wrap q36) 24))) 255).toNat) 0) : Value) = v,
    fun τ v => (.pointer (some ⟨bi1, 0, none⟩) : Value) = v,
    fun τ v => (.int .u32 (ixor .u32 s18.1 (ior .u32 (ior .u32 (ior .u32 (IntKind.u32.wrap q21) (ishl .u32 (IntKind.u32.wrap q26) 8)) (ishl .u32 (IntKind.u32.wrap q31) 16)) (ishl .u32 (IntKind.u32.wrap q36) 24))) : Value) = v,
    fun τ v => (.int .u32 (ishr .u32 (ixor .u32 s18.1 (ior .u32 (ior .u32 (ior .u32 (IntKind.u32.wrap q21) (ishl .u32 (IntKind.u32.wrap q26) 8)) (ishl .u32 (IntKind.u32.wrap q31) 16)) (ishl .u32 (IntKind.u32.wrap q36) 24))) 8) : Value) = v,
    fun τ v => (.int .u32 (iand .u32 (ishr .u32 (ixor .u32 s18.1 (ior .u32 (ior .u32 (ior .u32 (IntKind.u32.wrap q21) (ishl .u32 (IntKind.u32.wrap q26) 8)) (ishl .u32 (IntKind.u32.wrap q31) 16)) (ishl .u32 (IntKind.u32.wrap q36) 24))) 8) 255) : Value) = v,
    fun τ v => (.pointer (some ⟨bi1, 0, none⟩) : Value) = v,
    fun τ v => (.pointer (some ⟨bi1, 0 + 0, none⟩) : Value) = v,
    fun τ v => (.pointer (some ⟨bi1, 0 + 0 + (2 : Int).toNat * 256, none⟩) : Value) = v,
    fun τ v => (.pointer (some ⟨bi1, 0 + 0 + (2 : Int).toNat * 256 + (iand .u32 (ishr .u32 (ixor .u32 s18.1 (ior .u32 (ior .u32 (ior .u32 (IntKind.u32.wrap q21) (ishl .u32 (IntKind.u32.wrap q26) 8)) (ishl .u32 (IntKind.u32.wrap q31) 16)) (ishl .u32 (IntKind.u32.wrap q36) 24))) 8) 255).toNat * 1, none⟩) : Value) = v,
    fun τ v => (.int .u32 (a0.getD (512 + (iand .u32 (ishr .u32 (ixor .u32 s18.1 (ior .u32 (ior .u32 (ior .u32 (IntKind.u32.wrap q21) (ishl .u32 (IntKind.u32.wrap q26) 8)) (ishl .u32 (IntKind.u32.wrap q31) 16)) (ishl .u32 (IntKind.u32.wrap q36) 24))) 8) 255).toNat) 0) : Value) = v,
    fun τ v => (.int .u32 (ixor .u32 (a0.getD (768 + (iand .u32 (ixor .u32 s18.1 (ior .u32 (ior .u32 (ior .u32 (IntKind.u32.wrap q21) (ishl .u32 (IntKind.u32.wrap q26) 8)) (ishl .u32 (IntKind.u32.wrap q31) 16)) (ishl .u32 (IntKind.u32.wrap q36) 24))) 255).toNat) 0) (a0.getD (512 + (iand .u32 (ishr .u32 (ixor .u32 s18.1 (ior .u32 (ior .u32 (ior .u32 (IntKind.u32.wrap q21) (ishl .u32 (IntKind.u32.wrap q26) 8)) (ishl .u32 (IntKind.u32.wrap q31) 16)) (ishl .u32 (IntKind.u32.wrap q36) 24))) 8) 255).toNat) 0)) : Value) = v,
    fun τ v => (.pointer (some ⟨bi1, 0, none⟩) : Value) = v,
    fun τ v => (.int .u32 (ixor .u32 s18.1 (ior .u32 (ior .u32 (ior .u32 (IntKind.u32.wrap q21) (ishl .u32 (IntKind.u32.wrap q26) 8)) (ishl .u32 (IntKind.u32.wrap q31) 16)) (ishl .u32 (IntKind.u32.wrap q36) 24))) : Value) = v,
    fun τ v => (.int .u32 (ishr .u32 (ixor .u32 s18.1 (ior .u32 (ior .u32 (ior .u32 (IntKind.u32.wrap q21) (ishl .u32 (IntKind.u32.wrap q26) 8)) (ishl .u32 (IntKind.u32.wrap q31) 16)) (ishl .u32 (IntKind.u32.wrap q36) 24))) 16) : Value) = v,
    fun τ v => (.int .u32 (iand .u32 (ishr .u32 (ixor .u32 s18.1 (ior .u32 (ior .u32 (ior .u32 (IntKind.u32.wrap q21) (ishl .u32 (IntKind.u32.wrap q26) 8)) (ishl .u32 (IntKind.u32.wrap q31) 16)) (ishl .u32 (IntKind.u32.wrap q36) 24))) 16) 255) : Value) = v,
    fun τ v => (.pointer (some ⟨bi1, 0, none⟩) : Value) = v,
    fun τ v => (.pointer (some ⟨bi1, 0 + 0, none⟩) : Value) = v,
    fun τ v => (.pointer (some ⟨bi1, 0 + 0 + (1 : Int).toNat * 256, none⟩) : Value) = v,
    fun τ v => (.pointer (some ⟨bi1, 0 + 0 + (1 : Int).toNat * 256 + (iand .u32 (ishr .u32 (ixor .u32 s18.1 (ior .u32 (ior .u32 (ior .u32 (IntKind.u32.wrap q21) (ishl .u32 (IntKind.u32.wrap q26) 8)) (ishl .u32 (IntKind.u32.wrap q31) 16)) (ishl .u32 (IntKind.u32.wrap q36) 24))) 16) 255).toNat * 1, none⟩) : Value) = v,
    fun τ v => (.int .u32 (a0.getD (256 + (iand .u32 (ishr .u32 (ixor .u32 s18.1 (ior .u32 (ior .u32 (ior .u32 (IntKind.u32.wrap q21) (ishl .u32 (IntKind.u32.wrap q26) 8)) (ishl .u32 (IntKind.u32.wrap q31) 16)) (ishl .u32 (IntKind.u32.wrap q36) 24))) 16) 255).toNat) 0) : Value) = v,
    fun τ v => (.int .u32 (ixor .u32 (ixor .u32 (a0.getD (768 + (iand .u32 (ixor .u32 s18.1 (ior .u32 (ior .u32 (ior .u32 (IntKind.u32.wrap q21) (ishl .u32 (IntKind.u32.wrap q26) 8)) (ishl .u32 (IntKind.u32.wrap q31) 16)) (ishl .u32 (IntKind.u32.wrap q36) 24))) 255).toNat) 0) (a0.getD (512 + (iand .u32 (ishr .u32 (ixor .u32 s18.1 (ior .u32 (ior .u32 (ior .u32 (IntKind.u32.wrap q21) (ishl .u32 (IntKind.u32.wrap q26) 8)) (ishl .u32 (IntKind.u32.wrap q31) 16)) (ishl .u32 (IntKind.u32.wrap q36) 24))) 8) 255).toNat) 0)) (a0.getD (256 + (iand .u32 (ishr .u32 (ixor .u32 s18.1 (ior .u32 (ior .u32 (ior .u32 (IntKind.u32.wrap q21) (ishl .u32 (IntKind.u32.wrap q26) 8)) (ishl .u32 (IntKind.u32.wrap q31) 16)) (ishl .u32 (IntKind.u32.wrap q36) 24))) 16) 255).toNat) 0)) : Value) = v,
    fun τ v => (.pointer (some ⟨bi1, 0, none⟩) : Value) = v,
    fun τ v => (.int .u32 (ixor .u32 s18.1 (ior .u32 (ior .u32 (ior .u32 (IntKind.u32.wrap q21) (ishl .u32 (IntKind.u32.wrap q26) 8)) (ishl .u32 (IntKind.u32.wrap q31) 16)) (ishl .u32 (IntKind.u32.wrap q36) 24))) : Value) = v,
    fun τ v => (.int .u32 (ishr .u32 (ixor .u32 s18.1 (ior .u32 (ior .u32 (ior .u32 (IntKind.u32.wrap q21) (ishl .u32 (IntKind.u32.wrap q26) 8)) (ishl .u32 (IntKind.u32.wrap q31) 16)) (ishl .u32 (IntKind.u32.wrap q36) 24))) 24) : Value) = v,
    fun τ v => (.pointer (some ⟨bi1, 0, none⟩) : Value) = v,
    fun τ v => (.pointer (some ⟨bi1, 0 + 0, none⟩) : Value) = v,
    fun τ v => (.pointer (some ⟨bi1, 0 + 0 + (0 : Int).toNat * 256, none⟩) : Value) = v,
    fun τ v => (.pointer (some ⟨bi1, 0 + 0 + (0 : Int).toNat * 256 + (ishr .u32 (ixor .u32 s18.1 (ior .u32 (ior .u32 (ior .u32 (IntKind.u32.wrap q21) (ishl .u32 (IntKind.u32.wrap q26) 8)) (ishl .u32 (IntKind.u32.wrap q31) 16)) (ishl .u32 (IntKind.u32.wrap q36) 24))) 24).toNat * 1, none⟩) : Value) = v,
    fun τ v => (.int .u32 (a0.getD ((ishr .u32 (ixor .u32 s18.1 (ior .u32 (ior .u32 (ior .u32 (IntKind.u32.wrap q21) (ishl .u32 (IntKind.u32.wrap q26) 8)) (ishl .u32 (IntKind.u32.wrap q31) 16)) (ishl .u32 (IntKind.u32.wrap q36) 24))) 24).toNat) 0) : Value) = v,
    fun τ v => (.int .u32 (ixor .u32 (ixor .u32 (ixor .u32 (a0.getD (768 + (iand .u32 (ixor .u32 s18.1 (ior .u32 (ior .u32 (ior .u32 (IntKind.u32.wrap q21) (ishl .u32 (IntKind.u32.wrap q26) 8)) (ishl .u32 (IntKind.u32.wrap q31) 16)) (ishl .u32 (IntKind.u32.wrap q36) 24))) 255).toNat) 0) (a0.getD (512 + (iand .u32 (ishr .u32 (ixor .u32 s18.1 (ior .u32 (ior .u32 (ior .u32 (IntKind.u32.wrap q21) (ishl .u32 (IntKind.u32.wrap q26) 8)) (ishl .u32 (IntKind.u32.wrap q31) 16)) (ishl .u32 (IntKind.u32.wrap q36) 24))) 8) 255).toNat) 0)) (a0.getD (256 + (iand .u32 (ishr .u32 (ixor .u32 s18.1 (ior .u32 (ior .u32 (ior .u32 (IntKind.u32.wrap q21) (ishl .u32 (IntKind.u32.wrap q26) 8)) (ishl .u32 (IntKind.u32.wrap q31) 16)) (ishl .u32 (IntKind.u32.wrap q36) 24))) 16) 255).toNat) 0)) (a0.getD ((ishr .u32 (ixor .u32 s18.1 (ior .u32 (ior .u32 (ior .u32 (IntKind.u32.wrap q21) (ishl .u32 (IntKind.u32.wrap q26) 8)) (ishl .u32 (IntKind.u32.wrap q31) 16)) (ishl .u32 (IntKind.u32.wrap q36) 24))) 24).toNat) 0)) : Value) = v]) (fun _ _ => []) z_mix rfl (tl_mono ⟨fun _ _ _ _ h => h, ⟨fun _ _ _ _ h => h, ⟨fun _ _ _ _ h => h, ⟨fun _ _ _ _ h => h, ⟨fun _ _ _ _ h => h, ⟨fun _ _ _ _ h => h, ⟨fun _ _ _ _ h => h, ⟨fun _ _ _ _ h => h, ⟨fun _ _ _ _ h => h, ⟨fun _ _ _ _ h => h, ⟨fun _ _ _ _ h => h, ⟨fun _ _ _ _ h => h, ⟨fun _ _ _ _ h => h, ⟨fun _ _ _ _ h => h, ⟨fun _ _ _ _ h => h, ⟨fun _ _ _ _ h => h, ⟨fun _ _ _ _ h => h, ⟨fun _ _ _ _ h => h, ⟨fun _ _ _ _ h => h, ⟨fun _ _ _ _ h => h, ⟨fun _ _ _ _ h => h, ⟨fun _ _ _ _ h => h, ⟨fun _ _ _ _ h => h, ⟨fun _ _ _ _ h => h, ⟨fun _ _ _ _ h => h, ⟨fun _ _ _ _ h => h, ⟨fun _ _ _ _ h => h, ⟨fun _ _ _ _ h => h, ⟨fun _ _ _ _ h => h, ⟨fun _ _ _ _ h => h, ⟨fun _ _ _ _ h => h, ⟨fun _ _ _ _ h => h, ⟨fun _ _ _ _ h => h, ⟨fun _ _ _ _ h => h, ⟨fun _ _ _ _ h => h, ⟨fun _ _ _ _ h => h, ⟨fun _ _ _ _ h => h, trivial⟩⟩⟩⟩⟩⟩⟩⟩⟩⟩⟩⟩⟩⟩⟩⟩⟩⟩⟩⟩⟩⟩⟩⟩⟩⟩⟩⟩⟩⟩⟩⟩⟩⟩⟩⟩⟩) (allB_cons (allB_cons (allB_cons (allB_cons (allB_cons (allB_cons (allB_cons (allB_cons (allB_cons (allB_cons (allB_cons (allB_cons (allB_cons (allB_cons (allB_cons (allB_cons (allB_cons (allB_cons (allB_cons (allB_cons (allB_cons (allB_cons (allB_cons (allB_cons (allB_cons (allB_cons (allB_cons (allB_cons (allB_cons (allB_cons (allB_cons (allB_cons (allB_cons (allB_cons (allB_cons (allB_cons (allB_cons allB_nil ?_) ?_) ?_) ?_) ?_) ?_) ?_) ?_) ?_) ?_) ?_) ?_) ?_) ?_) ?_) ?_) ?_) ?_) ?_) ?_) ?_) ?_) ?_) ?_) ?_) ?_) ?_) ?_) ?_) ?_) ?_) ?_) ?_) ?_) ?_) ?_) ?_) ?_
    · intro ρ' τ pool rs hl hd hout hk
      refine o_move rfl rfl rfl ((hout 0 rfl).trans rfl) ?_
      exact st_addNil (hk _ _ (Sto.Le.refl _) rfl)
    · intro ρ' τ pool rs hl hd hout hk
      refine o_move rfl rfl rfl ((hout 1 rfl).trans rfl) ?_
      exact st_addNil (hk _ _ (Sto.Le.refl _) rfl)
    · intro ρ' τ pool rs hl hd hout hk
      obtain ⟨_, e1, rfl⟩ := hd 1 rfl
      refine o_ibin (v := .int .u32 (iand .u32 (ixor .u32 s18.1 (ior .u32 (ior .u32 (ior .u32 (IntKind.u32.wrap q21) (ishl .u32 (IntKind.u32.wrap q26) 8)) (ishl .u32 (IntKind.u32.wrap q31) 16)) (ishl .u32 (IntKind.u32.wrap q36) 24))) 255)) rfl rfl rfl e1 rfl rfl ?_
      exact st_addNil (hk _ _ (Sto.Le.refl _) rfl)
    · intro ρ' τ pool rs hl hd hout hk
      obtain ⟨_, e0, rfl⟩ := hd 0 rfl
      refine o_nilCheck rfl rfl rfl e0 ?_
      exact st_addNil (hk _ _ (Sto.Le.refl _) rfl)
    · intro ρ' τ pool rs hl hd hout hk
      obtain ⟨_, e3, rfl⟩ := hd 3 rfl
      refine o_fieldAddr rfl rfl rfl z_field131_0 e3 ?_
      exact st_addNil (hk _ _ (Sto.Le.refl _) rfl)
    · intro ρ' τ pool rs hl hd hout hk
      obtain ⟨_, e4, rfl⟩ := hd 4 rfl
      refine o_indexA rfl rfl rfl z_arr129 e4 rfl (by decide) (by decide) ?_
      exact st_addNil (hk _ _ (Sto.Le.refl _) rfl)
    · intro ρ' τ pool rs hl hd hout hk
      obtain ⟨_, e2, rfl⟩ := hd 2 rfl
      obtain ⟨_, e5, rfl⟩ := hd 5 rfl
      refine o_indexA rfl rfl rfl z_arr128 e5 e2 hf42 hf43 ?_
      exact st_addNil (hk _ _ (Sto.Le.refl _) rfl)
    · intro ρ' τ pool rs hl hd hout hk
      obtain ⟨_, e6, rfl⟩ := hd 6 rfl
      refine o_loadI (v := .int .u32 (a0.getD (768 + (iand .u32 (ixor .u32 s18.1 (ior .u32 (ior .u32 (ior .u32 (IntKind.u32.wrap q21) (ishl .u32 (IntKind.u32.wrap q26) 8)) (ishl .u32 (IntKind.u32.wrap q31) 16)) (ishl .u32 (IntKind.u32.wrap q36) 24))) 255).toNat) 0)) rfl rfl rfl z_sc22 e6 (cel_big (q := (768 + (iand .u32 (ixor .u32 s18.1 (ior .u32 (ior .u32 (ior .u32 (IntKind.u32.wrap q21) (ishl .u32 (IntKind.u32.wrap q26) 8)) (ishl .u32 (IntKind.u32.wrap q31) 16)) (ishl .u32 (IntKind.u32.wrap q36) 24))) 255).toNat)) (hc2.up ((hl18.trans hl41).trans hl)) (by omega) (by omega)) ?_
      exact st_addNil (hk _ _ (Sto.Le.refl _) rfl)
    · intro ρ' τ pool rs hl hd hout hk
      refine o_move rfl rfl rfl ((hout 0 rfl).trans rfl) ?_
      exact st_addNil (hk _ _ (Sto.Le.refl _) rfl)
    · intro ρ' τ pool rs hl hd hout hk
      refine o_move rfl rfl rfl ((hout 1 rfl).trans rfl) ?_
      exact st_addNil (hk _ _ (Sto.Le.refl _) rfl)
    · intro ρ' τ pool rs hl hd hout hk
      obtain ⟨_, e9, rfl⟩ := hd 9 rfl
      refine o_shr rfl rfl rfl e9 rfl (by decide) ?_
      exact st_addNil (hk _ _ (Sto.Le.refl _) rfl)
    · intro ρ' τ pool rs hl hd hout hk
      obtain ⟨_, e10, rfl⟩ := hd 10 rfl
      refine o_ibin (v := .int .u32 (iand .u32 (ishr .u32 (ixor .u32 s18.1 (ior .u32 (ior .u32 (ior .u32 (IntKind.u32.wrap q21) (ishl .u32 (IntKind.u32.wrap q26) 8)) (ishl .u32 (IntKind.u32.wrap q31) 16)) (ishl .u32 (IntKind.u32.wrap q36) 24))) 8) 255)) rfl rfl rfl e10 rfl rfl ?_
      exact st_addNil (hk _ _ (Sto.Le.refl _) rfl)
    · intro ρ' τ pool rs hl hd hout hk
      obtain ⟨_, e8, rfl⟩ := hd 8 rfl
      refine o_nilCheck rfl rfl rfl e8 ?_
      exact st_addNil (hk _ _ (Sto.Le.refl _) rfl)
    · intro ρ' τ pool rs hl hd hout hk
      obtain ⟨_, e12, rfl⟩ := hd 12 rfl
      refine o_fieldAddr rfl rfl rfl z_field131_0 e12 ?_
      exact st_addNil (hk _ _ (Sto.Le.refl _) rfl)
    · intro ρ' τ pool rs hl hd hout hk
      obtain ⟨_, e13, rfl⟩ := hd 13 rfl
      refine o_indexA rfl rfl rfl z_arr129 e13 rfl (by decide) (by decide) ?_
      exact st_addNil (hk _ _ (Sto.Le.refl _) rfl)
    · intro ρ' τ pool rs hl hd hout hk
      obtain ⟨_, e11, rfl⟩ := hd 11 rfl
      obtain ⟨_, e14, rfl⟩ := hd 14 rfl
      refine o_indexA rfl rfl rfl z_arr128 e14 e11 hf44 hf45 ?_
      exact st_addNil (hk _ _ (Sto.Le.refl _) rfl)
    · intro ρ' τ pool rs hl hd hout hk
      obtain ⟨_, e15, rfl⟩ := hd 15 rfl
      refine o_loadI (v := .int .u32 (a0.getD (512 + (iand .u32 (ishr .u32 (ixor .u32 s18.1 (ior .u32 (ior .u32 (ior .u32 (IntKind.u32.wrap q21) (ishl .u32 (IntKind.u32.wrap q26) 8)) (ishl .u32 (IntKind.u32.wrap q31) 16)) (ishl .u32 (IntKind.u32.wrap q36) 24))) 8) 255).toNat) 0)) rfl rfl rfl z_sc22 e15 (cel_big (q := (512 + (iand .u32 (ishr .u32 (ixor .u32 s18.1 (ior .u32 (ior .u32 (ior .u32 (IntKind.u32.wrap q21) (ishl .u32 (IntKind.u32.wrap q26) 8)) (ishl .u32 (IntKind.u32.wrap q31) 16)) (ishl .u32 (IntKind.u32.wrap q36) 24))) 8) 255).toNat)) (hc2.up ((hl18.trans hl41).trans hl)) (by omega) (by omega)) ?_
      exact st_addNil (hk _ _ (Sto.Le.refl _) rfl)
    · intro ρ' τ pool rs hl hd hout hk
      obtain ⟨_, e7, rfl⟩ := hd 7 rfl
      obtain ⟨_, e16, rfl⟩ := hd 16 rfl
      refine o_ibin (v := .int .u32 (ixor .u32 (a0.getD (768 + (iand .u32 (ixor .u32 s18.1 (ior .u32 (ior .u32 (ior .u32 (IntKind.u32.wrap q21) (ishl .u32 (IntKind.u32.wrap q26) 8)) (ishl .u32 (IntKind.u32.wrap q31) 16)) (ishl .u32 (IntKind.u32.wrap q36) 24))) 255).toNat) 0) (a0.getD (512 + (iand .u32 (ishr .u32 (ixor .u32 s18.1 (ior .u32 (ior .u32 (ior .u32 (IntKind.u32.wrap q21) (ishl .u32 (IntKind.u32.wrap q26) 8)) (ishl .u32 (IntKind.u32.wrap q31) 16)) (ishl .u32 (IntKind.u32.wrap q36) 24))) 8) 255).toNat) 0))) rfl rfl rfl e7 e16 rfl ?_
      exact st_addNil (hk _ _ (Sto.Le.refl _) rfl)
    · intro ρ' τ pool rs hl hd hout hk
      refine o_move rfl rfl rfl ((hout 0 rfl).trans rfl) ?_
      exact st_addNil (hk _ _ (Sto.Le.refl _) rfl)
    · intro ρ' τ pool rs hl hd hout hk
      refine o_move rfl rfl rfl ((hout 1 rfl).trans rfl) ?_
      exact st_addNil (hk _ _ (Sto.Le.refl _) rfl)
    · intro ρ' τ pool rs hl hd hout hk
      obtain ⟨_, e19, rfl⟩ := hd 19 rfl
      refine o_shr rfl rfl rfl e19 rfl (by decide) ?_
      exact st_addNil (hk _ _ (Sto.Le.refl _) rfl)
    · intro ρ' τ pool rs hl hd hout hk
      obtain ⟨_, e20, rfl⟩ := hd 20 rfl
      refine o_ibin (v := .int .u32 (iand .u32 (ishr .u32 (ixor .u32 s18.1 (ior .u32 (ior .u32 (ior .u32 (IntKind.u32.wrap q21) (ishl .u32 (IntKind.u32.wrap q26) 8)) (ishl .u32 (IntKind.u32.wrap q31) 16)) (ishl .u32 (IntKind.u32.wrap q36) 24))) 16) 255)) rfl rfl rfl e20 rfl rfl ?_
      exact st_addNil (hk _ _ (Sto.Le.refl _) rfl)
    · intro ρ' τ pool rs hl hd hout hk
      obtain ⟨_, e18, rfl⟩ := hd 18 rfl
      refine o_nilCheck rfl rfl rfl e18 ?_
      exact st_addNil (hk _ _ (Sto.Le.refl _) rfl)
    · intro ρ' τ pool rs hl hd hout hk
      obtain ⟨_, e22, rfl⟩ := hd 22 rfl
      refine o_fieldAddr rfl rfl rfl z_field131_0 e22 ?_
      exact st_addNil (hk _ _ (Sto.Le.refl _) rfl)
    · intro ρ' τ pool rs hl hd hout hk
      obtain ⟨_, e23, rfl⟩ := hd 23 rfl
      refine o_indexA rfl rfl rfl z_arr129 e23 rfl (by decide) (by decide) ?_
      exact st_addNil (hk _ _ (Sto.Le.refl _) rfl)
    · intro ρ' τ pool rs hl hd hout hk
      obtain ⟨_, e21, rfl⟩ := hd 21 rfl
      obtain ⟨_, e24, rfl⟩ := hd 24 rfl
      refine o_indexA rfl rfl rfl z_arr128 e24 e21 hf46 hf47 ?_
      exact st_addNil (hk _ _ (Sto.Le.refl _) rfl)
    · intro ρ' τ pool rs hl hd hout hk
      obtain ⟨_, e25, rfl⟩ := hd 25 rfl
      refine o_loadI (v := .int .u32 (a0.getD (256 + (iand .u32 (ishr .u32 (ixor .u32 s18.1 (ior .u32 (ior .u32 (ior .u32 (IntKind.u32.wrap q21) (ishl .u32 (IntKind.u32.wrap q26) 8)) (ishl .u32 (IntKind.u32.wrap q31) 16)) (ishl .u32 (IntKind.u32.wrap q36) 24))) 16) 255).toNat) 0)) rfl rfl rfl z_sc22 e25 (cel_big (q := (256 + (iand .u32 (ishr .u32 (ixor .u32 s18.1 (ior .u32 (ior .u32 (ior .u32 (IntKind.u32.wrap q21) (ishl .u32 (IntKind.u32.wrap q26) 8)) (ishl .u32 (IntKind.u32.wrap q31) 16)) (ishl .u32 (IntKind.u32.wrap q36) 24))) 16) 255).toNat)) (hc2.up ((hl18.trans hl41).trans hl)) (by omega) (by omega)) ?_
      exact st_addNil (hk _ _ (Sto.Le.refl _) rfl)
    · intro ρ' τ pool rs hl hd hout hk
      obtain ⟨_, e17, rfl⟩ := hd 17 rfl
      obtain ⟨_, e26, rfl⟩ := hd 26 rfl
      refine o_ibin (v := .int .u32 (ixor .u32 (ixor .u32 (a0.getD (768 + (iand .u32 (ixor .u32 s18.1 (ior .u32 (ior .u32 (ior .u32 (IntKind.u32.wrap q21) (ishl .u32 (IntKind.u32.wrap q26) 8)) (ishl .u32 (IntKind.u32.wrap q31) 16)) (ishl .u32 (IntKind.u32.wrap q36) 24))) 255).toNat) 0) (a0.getD (512 + (iand .u32 (ishr .u32 (ixor .u32 s18.1 (ior .u32 (ior .u32 (ior .u32 (IntKind.u32.wrap q21) (ishl .u32 (IntKind.u32.wrap q26) 8)) (ishl .u32 (IntKind.u32.wrap q31) 16)) (ishl .u32 (IntKind.u32.wrap q36) 24))) 8) 255).toNat) 0)) (a0.getD (256 + (iand .u32 (ishr .u32 (ixor .u32 s18.1 (ior .u32 (ior .u32 (ior .u32 (IntKind.u32.wrap q21) (ishl .u32 (IntKind.u32.wrap q26) 8)) (ishl .u32 (IntKind.u32.wrap q31) 16)) (ishl .u32 (IntKind.u32.wrap q36) 24))) 16) 255).toNat) 0))) rfl rfl rfl e17 e26 rfl ?_
      exact st_addNil (hk _ _ (Sto.Le.refl _) rfl)
    · intro ρ' τ pool rs hl hd hout hk
      refine o_move rfl rfl rfl ((hout 0 rfl).trans rfl) ?_
      exact st_addNil (hk _ _ (Sto.Le.refl _) rfl)
    · intro ρ' τ pool rs hl hd hout hk
      refine o_move rfl rfl rfl ((hout 1 rfl).trans rfl) ?_
      exact st_addNil (hk _ _ (Sto.Le.refl _) rfl)
    · intro ρ' τ pool rs hl hd hout hk
      obtain ⟨_, e29, rfl⟩ := hd 29 rfl
      refine o_shr rfl rfl rfl e29 rfl (by decide) ?_
      exact st_addNil (hk _ _ (Sto.Le.refl _) rfl)
    · intro ρ' τ pool rs hl hd hout hk
      obtain ⟨_, e28, rfl⟩ := hd 28 rfl
      refine o_nilCheck rfl rfl rfl e28 ?_
      exact st_addNil (hk _ _ (Sto.Le.refl _) rfl)
    · intro ρ' τ pool rs hl hd hout hk
      obtain ⟨_, e31, rfl⟩ := hd 31 rfl
      refine o_fieldAddr rfl rfl rfl z_field131_0 e31 ?_
      exact st_addNil (hk _ _ (Sto.Le.refl _) rfl)
    · intro ρ' τ pool rs hl hd hout hk
      obtain ⟨_, e32, rfl⟩ := hd 32 rfl
      refine o_indexA rfl rfl rfl z_arr129 e32 rfl (by decide) (by decide) ?_
      exact st_addNil (hk _ _ (Sto.Le.refl _) rfl)
    · intro ρ' τ pool rs hl hd hout hk
      obtain ⟨_, e30, rfl⟩ := hd 30 rfl
      obtain ⟨_, e33, rfl⟩ := hd 33 rfl
      refine o_indexA rfl rfl rfl z_arr128 e33 e30 hf48 hf49 ?_
      exact st_addNil (hk _ _ (Sto.Le.refl _) rfl)
    · intro ρ' τ pool rs hl hd hout hk
      obtain ⟨_, e34, rfl⟩ := hd 34 rfl
      refine o_loadI (v := .int .u32 (a0.getD ((ishr .u32 (ixor .u32 s18.1 (ior .u32 (ior .u32 (ior .u32 (IntKind.u32.wrap q21) (ishl .u32 (IntKind.u32.wrap q26) 8)) (ishl .u32 (IntKind.u32.wrap q31) 16)) (ishl .u32 (IntKind.u32.wrap q36) 24))) 24).toNat) 0)) rfl rfl rfl z_sc22 e34 (cel_big (q := (ishr .u32 (ixor .u32 s18.1 (ior .u32 (ior .u32 (ior .u32 (IntKind.u32.wrap q21) (ishl .u32 (IntKind.u32.wrap q26) 8)) (ishl .u32 (IntKind.u32.wrap q31) 16)) (ishl .u32 (IntKind.u32.wrap q36) 24))) 24).toNat) (hc2.up ((hl18.trans hl41).trans hl)) (by omega) (by omega)) ?_
      exact st_addNil (hk _ _ (Sto.Le.refl _) rfl)
    · intro ρ' τ pool rs hl hd hout hk
      obtain ⟨_, e27, rfl⟩ := hd 27 rfl
      obtain ⟨_, e35, rfl⟩ := hd 35 rfl
      refine o_ibin (v := .int .u32 (ixor .u32 (ixor .u32 (ixor .u32 (a0.getD (768 + (iand .u32 (ixor .u32 s18.1 (ior .u32 (ior .u32 (ior .u32 (IntKind.u32.wrap q21) (ishl .u32 (IntKind.u32.wrap q26) 8)) (ishl .u32 (IntKind.u32.wrap q31) 16)) (ishl .u32 (IntKind.u32.wrap q36) 24))) 255).toNat) 0) (a0.getD (512 + (iand .u32 (ishr .u32 (ixor .u32 s18.1 (ior .u32 (ior .u32 (ior .u32 (IntKind.u32.wrap q21) (ishl .u32 (IntKind.u32.wrap q26) 8)) (ishl .u32 (IntKind.u32.wrap q31) 16)) (ishl .u32 (IntKind.u32.wrap q36) 24))) 8) 255).toNat) 0)) (a0.getD (256 + (iand .u32 (ishr .u32 (ixor .u32 s18.1 (ior .u32 (ior .u32 (ior .u32 (IntKind.u32.wrap q21) (ishl .u32 (IntKind.u32.wrap q26) 8)) (ishl .u32 (IntKind.u32.wrap q31) 16)) (ishl .u32 (IntKind.u32.wrap q36) 24))) 16) 255).toNat) 0)) (a0.getD ((ishr .u32 (ixor .u32 s18.1 (ior .u32 (ior .u32 (ior .u32 (IntKind.u32.wrap q21) (ishl .u32 (IntKind.u32.wrap q26) 8)) (ishl .u32 (IntKind.u32.wrap q31) 16)) (ishl .u32 (IntKind.u32.wrap q36) 24))) 24).toNat) 0))) rfl rfl rfl e27 e35 rfl ?_
      exact st_addNil (hk _ _ (Sto.Le.refl _) rfl)
    intro ρ' τ50 vals hl50 hv hout
    have l36 : Eng.look ρ' 74 = some (.int .u32 (ixor .u32 (ixor .u32 (ixor .u32 (a0.getD (768 + (iand .u32 (ixor .u32 s18.1 (ior .u32 (ior .u32 (ior .u32 (IntKind.u32.wrap q21) (ishl .u32 (IntKind.u32.wrap q26) 8)) (ishl .u32 (IntKind.u32.wrap q31) 16)) (ishl .u32 (IntKind.u32.wrap q36) 24))) 255).toNat) 0) (a0.getD (512 + (iand .u32 (ishr .u32 (ixor .u32 s18.1 (ior .u32 (ior .u32 (ior .u32 (IntKind.u32.wrap q21) (ishl .u32 (IntKind.u32.wrap q26) 8)) (ishl .u32 (IntKind.u32.wrap q31) 16)) (ishl .u32 (IntKind.u32.wrap q36) 24))) 8) 255).toNat) 0)) (a0.getD (256 + (iand .u32 (ishr .u32 (ixor .u32 s18.1 (ior .u32 (ior .u32 (ior .u32 (IntKind.u32.wrap q21) (ishl .u32 (IntKind.u32.wrap q26) 8)) (ishl .u32 (IntKind.u32.wrap q31) 16)) (ishl .u32 (IntKind.u32.wrap q36) 24))) 16) 255).toNat) 0)) (a0.getD ((ishr .u32 (ixor .u32 s18.1 (ior .u32 (ior .u32 (ior .u32 (IntKind.u32.wrap q21) (ishl .u32 (IntKind.u32.wrap q26) 8)) (ishl .u32 (IntKind.u32.wrap q31) 16)) (ishl .u32 (IntKind.u32.wrap q36) 24))) 24).toNat) 0))) := (hv 36 (by decide)).1.trans (congrArg some (show vals 36 = .int .u32 (ixor .u32 (ixor .u32 (ixor .u32 (a0.getD (768 + (iand .u32 (ixor .u32 s18.1 (ior .u32 (ior .u32 (ior .u32 (IntKind.u32.wrap q21) (ishl .u32 (IntKind.u32.wrap q26) 8)) (ishl .u32 (IntKind.u32.wrap q31) 16)) (ishl .u32 (IntKind.u32.wrap q36) 24))) 255).toNat) 0) (a0.getD (512 + (iand .u32 (ishr .u32 (ixor .u32 s18.1 (ior .u32 (ior .u32 (ior .u32 (IntKind.u32.wrap q21) (ishl .u32 (IntKind.u32.wrap q26) 8)) (ishl .u32 (IntKind.u32.wrap q31) 16)) (ishl .u32 (IntKind.u32.wrap q36) 24))) 8) 255).toNat) 0)) (a0.getD (256 + (iand .u32 (ishr .u32 (ixor .u32 s18.1 (ior .u32 (ior .u32 (ior .u32 (IntKind.u32.wrap q21) (ishl .u32 (IntKind.u32.wrap q26) 8)) (ishl .u32 (IntKind.u32.wrap q31) 16)) (ishl .u32 (IntKind.u32.wrap q36) 24))) 16) 255).toNat) 0)) (a0.getD ((ishr .u32 (ixor .u32 s18.1 (ior .u32 (ior .u32 (ior .u32 (IntKind.u32.wrap q21) (ishl .u32 (IntKind.u32.wrap q26) 8)) (ishl .u32 (IntKind.u32.wrap q31) 16)) (ishl .u32 (IntKind.u32.wrap q36) 24))) 24).toNat) 0)) from Eq.symm (hv 36 (by decide)).2))
    refine st_ord [] [] rfl ?_
    refine st_env (ρ' := [(74, .int .u32 (ixor .u32 (ixor .u32 (ixor .u32 (a0.getD (768 + (iand .u32 (ixor .u32 s18.1 (ior .u32 (ior .u32 (ior .u32 (IntKind.u32.wrap q21) (ishl .u32 (IntKind.u32.wrap q26) 8)) (ishl .u32 (IntKind.u32.wrap q31) 16)) (ishl .u32 (IntKind.u32.wrap q36) 24))) 255).toNat) 0) (a0.getD (512 + (iand .u32 (ishr .u32 (ixor .u32 s18.1 (ior .u32 (ior .u32 (ior .u32 (IntKind.u32.wrap q21) (ishl .u32 (IntKind.u32.wrap q26) 8)) (ishl .u32 (IntKind.u32.wrap q31) 16)) (ishl .u32 (IntKind.u32.wrap q36) 24))) 8) 255).toNat) 0)) (a0.getD (256 + (iand .u32 (ishr .u32 (ixor .u32 s18.1 (ior .u32 (ior .u32 (ior .u32 (IntKind.u32.wrap q21) (ishl .u32 (IntKind.u32.wrap q26) 8)) (ishl .u32 (IntKind.u32.wrap q31) 16)) (ishl .u32 (IntKind.u32.wrap q36) 24))) 16) 255).toNat) 0)) (a0.getD ((ishr .u32 (ixor .u32 s18.1 (ior .u32 (ior .u32 (ior .u32 (IntKind.u32.wrap q21) (ishl .u32 (IntKind.u32.wrap q26) 8)) (ishl .u32 (IntKind.u32.wrap q31) 16)) (ishl .u32 (IntKind.u32.wrap q36) 24))) 24).toNat) 0))), (0, .pointer (some ⟨bi1, 0, none⟩)), (2, v19), (6, .int .u32 0)]) ⟨l36, (hout 0 rfl).trans rfl, (hout 2 rfl).trans rfl, (hout 6 rfl).trans rfl, trivial⟩ ?_
    refine o_assign rfl rfl rfl rfl ?_
    refine st_end ?_
    refine st_region ?_
    refine o_move rfl rfl rfl rfl ?_
    obtain ⟨hf51, h⟩ := h
    obtain ⟨hf52, h⟩ := h
    refine o_slice (L := 4) (H := (s18.2.length : Int)) rfl rfl rfl z_slT45 rfl rfl (hs20.up (hl41.trans hl50)) ⟨_, rfl⟩ rfl (by decide) hf51 hf52 trivial (by simp) (fun v53 hs54 => ?_)
    refine o_assign rfl rfl rfl rfl ?_
    refine st_end ?_
    refine st_inBlock ?_
    refine st_env (ρ' := [(0, .pointer (some ⟨bi1, 0, none⟩)), (1, .int .u32 (ixor .u32 (ixor .u32 (ixor .u32 (a0.getD (768 + (iand .u32 (ixor .u32 s18.1 (ior .u32 (ior .u32 (ior .u32 (IntKind.u32.wrap q21) (ishl .u32 (IntKind.u32.wrap q26) 8)) (ishl .u32 (IntKind.u32.wrap q31) 16)) (ishl .u32 (IntKind.u32.wrap q36) 24))) 255).toNat) 0) (a0.getD (512 + (iand .u32 (ishr .u32 (ixor .u32 s18.1 (ior .u32 (ior .u32 (ior .u32 (IntKind.u32.wrap q21) (ishl .u32 (IntKind.u32.wrap q26) 8)) (ishl .u32 (IntKind.u32.wrap q31) 16)) (ishl .u32 (IntKind.u32.wrap q36) 24))) 8) 255).toNat) 0)) (a0.getD (256 + (iand .u32 (ishr .u32 (ixor .u32 s18.1 (ior .u32 (ior .u32 (ior .u32 (IntKind.u32.wrap q21) (ishl .u32 (IntKind.u32.wrap q26) 8)) (ishl .u32 (IntKind.u32.wrap q31) 16)) (ishl .u32 (IntKind.u32.wrap q36) 24))) 16) 255).toNat) 0)) (a0.getD ((ishr .u32 (ixor .u32 s18.1 (ior .u32 (ior .u32 (ior .u32 (IntKind.u32.wrap q21) (ishl .u32 (IntKind.u32.wrap q26) 8)) (ishl .u32 (IntKind.u32.wrap q31) 16)) (ishl .u32 (IntKind.u32.wrap q36) 24))) 24).toNat) 0))), (2, v53), (6, .int .u32 0)]) ⟨rfl, rfl, rfl, rfl, trivial⟩ ?_
    exact hn18 _ _ _ _ h ⟨((hl18.trans hl41).trans hl50), _, rfl, rfl, hs54⟩
theorem crc_Table_End_ok {a0 : List Int} {a1 : Int} {bi1 : Nat} {r : Int} (h : crc_Table_End a0 a1 r) (σ : Sto) (hc2 : CelN σ ⟨bi1, 0, none⟩ (cellsN (Value.int .u32) 0 1024 a0)) :
    Does Try.prog 95 [.pointer (some ⟨bi1, 0, none⟩), .int .u32 a1] σ [] (fun v τ gs => gs = [] ∧ .int .u32 r = v) := by
  refine call_of Try.func95 Try.ntmps95 rfl rfl (fun cs fs => ?_)
  refine st_seq ?_
  refine st_region ?_
  refine o_assign rfl rfl rfl rfl ?_
  refine st_end ?_
  refine st_seq ?_
  refine st_seq ?_
  refine st_region ?_
  refine o_move rfl rfl rfl rfl ?_
  refine o_ptrNil (b := false) rfl rfl rfl Try.underlying94 rfl rfl rfl ?_
  refine st_end ?_
  refine st_condF rfl ?_
  refine st_skip ?_
  refine st_seq ?_
  refine st_region ?_
  refine o_move rfl rfl rfl rfl ?_
  refine o_compl rfl rfl rfl rfl rfl ?_
  refine o_assign rfl rfl rfl rfl ?_
  refine st_end ?_
  obtain rfl := Eq.symm h
  exact st_ret (gs' := []) Try.func95 rfl (List.Sublist.refl _) (Sto.Le.refl _) ⟨rfl, rfl⟩
theorem crc_Table_Sum_ok {a0 : List Int} {a1 : List (List Int)} {bi1 : Nat} {v3 : Value} {r : Int} (h : crc_Table_Sum a0 a1 r) (σ : Sto) (hc2 : CelN σ ⟨bi1, 0, none⟩ (cellsN (Value.int .u32) 0 1024 a0)) (hs4 : Sl (kSl (kI .u8)) σ v3 a1) :
    Does Try.prog 77 [.pointer (some ⟨bi1, 0, none⟩), v3] σ [] (fun v τ gs => gs = [] ∧ .int .u32 r = v) := by
  refine call_of Try.func77 Try.ntmps77 rfl rfl (fun cs fs => ?_)
  refine st_seq ?_
  refine st_region ?_
  refine o_assign rfl rfl rfl rfl ?_
  refine st_end ?_
  refine st_seq ?_
  refine st_region ?_
  refine o_move rfl rfl rfl rfl ?_
  obtain ⟨r5, hr6, h⟩ := h
  refine st_call (foot := []) rfl rfl rfl rfl rfl rfl (callV_fn z_en93 (crc_Table_Begin_ok hr6 σ hc2)) ?_
  rintro vτ7 τ7 gsτ7 hl8 ⟨rfl, rfl⟩
  refine o_assign rfl rfl rfl rfl ?_
  refine st_end ?_
  refine st_seq ?_
  refine st_cut (fun ρ τ9 gs => ∃ (s9 : Int), crc_Table_Sum_j1 a0 s9 r ∧ τ7.Le τ9 ∧ ρ = [(0, .pointer (some ⟨bi1, 0, none⟩)), (4, .int .u32 0), (5, .int .u32 s9)] ∧ gs = []) ?_ (fun hk9 => ?_)
  · rintro ρ9 τ9 gs9 ⟨s9, h, hl9, rfl, rfl⟩
    refine st_seq ?_
    refine st_region ?_
    refine o_move rfl rfl rfl rfl ?_
    refine o_move rfl rfl rfl rfl ?_
    obtain ⟨r10, hr11, h⟩ := h
    refine st_call (foot := []) rfl rfl rfl rfl rfl rfl (callV_fn z_en95 (crc_Table_End_ok hr11 τ9 (hc2.up (hl8.trans hl9)))) ?_
    rintro vτ12 τ12 gsτ12 hl13 ⟨rfl, rfl⟩
    refine o_assign rfl rfl rfl rfl ?_
    refine st_end ?_
    obtain rfl := Eq.symm h
    exact st_ret (gs' := []) Try.func77 rfl (List.Sublist.refl _) ((hl8.trans hl9).trans hl13) ⟨rfl, rfl⟩
  refine st_seq ?_
  refine st_region ?_
  refine o_move rfl rfl rfl rfl ?_
  refine o_lenI rfl rfl rfl z_slT100 rfl (hs4.up hl8) ?_
  refine o_move rfl rfl rfl rfl ?_
  refine st_end ?_
  obtain ⟨e14, hL14, hA14⟩ := h
  refine st_env (ρ' := [(0, .pointer (some ⟨bi1, 0, none⟩)), (4, .int .u32 0), (5, .int .u32 r5), (10, v3), (11, .int .i64 (a1.length : Int)), (12, .int .i64 0)]) ⟨rfl, rfl, rfl, rfl, rfl, rfl, trivial⟩ ?_
  refine st_loop hL14 (fun (s14 : Int × Int) ρ τ14 gs => τ7.Le τ14 ∧ ρ = [(0, .pointer (some ⟨bi1, 0, none⟩)), (4, .int .u32 0), (5, .int .u32 s14.1), (10, v3), (11, .int .i64 (a1.length : Int)), (12, .int .i64 s14.2)] ∧ gs = []) ⟨Sto.Le.refl _, rfl, rfl⟩ ?_
  rintro s14 o14 h he14 ρ14 τ14 gs14 ⟨hl14, rfl, rfl⟩ hn14
  refine st_seq ?_
  refine st_region ?_
  refine o_ibin (v := .bool (decide (s14.2 < (a1.length : Int)))) rfl rfl rfl rfl rfl rfl ?_
  refine st_end ?_
  refine st_seq ?_
  refine st_cond rfl (fun hc => ?_) (fun hc => ?_)
  · replace h := (if_pos hc).mp h
    refine st_skip ?_
    refine st_seq ?_
    refine st_block ?_
    refine st_seq ?_
    refine st_region ?_
    obtain ⟨q15, hf16, h⟩ := h
    refine o_index rfl rfl rfl z_slT100 rfl rfl (hs4.up (hl8.trans hl14)) rfl hf16 (fun b17 of18 vs hc20 hrep => ?_)
    obtain ⟨v19, rfl, hs21⟩ := hrep
    refine o_loadI (v := v19) rfl rfl rfl z_sc45 rfl (hc20 0 _ rfl) ?_
    refine o_assign rfl rfl rfl rfl ?_
    refine st_end ?_
    refine st_region ?_
    refine o_move rfl rfl rfl rfl ?_
    refine o_move rfl rfl rfl rfl ?_
    refine o_move rfl rfl rfl rfl ?_
    obtain ⟨r22, hr23, h⟩ := h
    refine st_call (foot := []) rfl rfl rfl rfl rfl rfl (callV_fn z_en94 (crc_Table_Add_ok hr23 τ14 (hc2.up (hl8.trans hl14)) hs21)) ?_
    rintro vτ24 τ24 gsτ24 hl25 ⟨rfl, rfl⟩
    refine o_assign rfl rfl rfl rfl ?_
    refine st_end ?_
    refine st_inBlock ?_
    refine st_region ?_
    refine o_ibin (v := .int .i64 (IntKind.i64.wrap (s14.2 + 1))) rfl rfl rfl rfl rfl rfl ?_
    refine o_move rfl rfl rfl rfl ?_
    refine st_end ?_
    refine st_env (ρ' := [(0, .pointer (some ⟨bi1, 0, none⟩)), (4, .int .u32 0), (5, .int .u32 r22), (10, v3), (11, .int .i64 (a1.length : Int)), (12, .int .i64 (IntKind.i64.wrap (s14.2 + 1)))]) ⟨rfl, rfl, rfl, rfl, rfl, rfl, trivial⟩ ?_
    exact hn14 _ _ _ _ h ⟨(hl14.trans hl25), rfl, rfl⟩
  · replace h := (if_neg (ne_t hc)).mp h
    refine st_exit rfl ?_
    obtain rfl := he14 _ h
    replace h := hA14
    refine st_env (ρ' := [(0, .pointer (some ⟨bi1, 0, none⟩)), (4, .int .u32 0), (5, .int .u32 s14.1)]) ⟨rfl, rfl, rfl, trivial⟩ ?_
    exact hk9 _ _ _ ⟨s14.1, h, hl14, rfl, rfl⟩
theorem crc_bytes_ok {a0 : Int} {r : List Int} (h : crc_bytes a0 r) (σ : Sto)  :
    Does Try.prog 76 [.int .u32 a0] σ [] (fun v τ gs => gs = [] ∧ .agg [.int .u8 (r.getD 0 0), .int .u8 (r.getD 1 0), .int .u8 (r.getD 2 0), .int .u8 (r.getD 3 0)].toArray = v) := by
  refine call_of Try.func76 Try.ntmps76 rfl rfl (fun cs fs => ?_)
  refine st_seq ?_
  refine st_region ?_
  refine o_alloc rfl rfl rfl z_zero136 (fun b1 => ?_)
  refine st_end ?_
  refine st_seq ?_
  refine st_region ?_
  refine o_move rfl rfl rfl rfl ?_
  refine o_conv rfl rfl rfl Try.underlying22 Try.underlying5 rfl ?_
  refine o_move rfl rfl rfl rfl ?_
  refine o_shr rfl rfl rfl rfl rfl (by decide) ?_
  refine o_conv rfl rfl rfl Try.underlying22 Try.underlying5 rfl ?_
  refine o_move rfl rfl rfl rfl ?_
  refine o_shr rfl rfl rfl rfl rfl (by decide) ?_
  refine o_conv rfl rfl rfl Try.underlying22 Try.underlying5 rfl ?_
  refine o_move rfl rfl rfl rfl ?_
  refine o_shr rfl rfl rfl rfl rfl (by decide) ?_
  refine o_conv rfl rfl rfl Try.underlying22 Try.underlying5 rfl ?_
  refine o_buildA (ps := [(0, [.int .u8 (IntKind.u8.wrap a0)]), (1, [.int .u8 (IntKind.u8.wrap (ishr .u32 a0 8))]), (2, [.int .u8 (IntKind.u8.wrap (ishr .u32 a0 16))]), (3, [.int .u8 (IntKind.u8.wrap (ishr .u32 a0 24))])]) (cs := [.int .u8 (IntKind.u8.wrap a0), .int .u8 (IntKind.u8.wrap (ishr .u32 a0 8)), .int .u8 (IntKind.u8.wrap (ishr .u32 a0 16)), .int .u8 (IntKind.u8.wrap (ishr .u32 a0 24))]) rfl rfl rfl z_arrz136 ⟨rfl, ⟨_, rfl, rfl⟩, ⟨rfl, ⟨_, rfl, rfl⟩, ⟨rfl, ⟨_, rfl, rfl⟩, ⟨rfl, ⟨_, rfl, rfl⟩, trivial⟩⟩⟩⟩ (fill_all [.int .u8 (IntKind.u8.wrap a0), .int .u8 (IntKind.u8.wrap (ishr .u32 a0 8)), .int .u8 (IntKind.u8.wrap (ishr .u32 a0 16)), .int .u8 (IntKind.u8.wrap (ishr .u32 a0 24))] _ rfl) ?_
  refine o_store (j := 0) (vs := [.int .u8 (IntKind.u8.wrap a0), .int .u8 (IntKind.u8.wrap (ishr .u32 a0 8)), .int .u8 (IntKind.u8.wrap (ishr .u32 a0 16)), .int .u8 (IntKind.u8.wrap (ishr .u32 a0 24))]) (cs' := [.int .u8 (IntKind.u8.wrap a0), .int .u8 (IntKind.u8.wrap (ishr .u32 a0 8)), .int .u8 (IntKind.u8.wrap (ishr .u32 a0 16)), .int .u8 (IntKind.u8.wrap (ishr .u32 a0 24))]) rfl rfl rfl z_size136 rfl rfl rfl (ones_cons rfl (ones_cons rfl (ones_cons rfl (ones_cons rfl ones_nil)))) rfl rfl rfl ?_
  refine st_gs [[(b1, .cells [.int .u8 (IntKind.u8.wrap a0), .int .u8 (IntKind.u8.wrap (ishr .u32 a0 8)), .int .u8 (IntKind.u8.wrap (ishr .u32 a0 16)), .int .u8 (IntKind.u8.wrap (ishr .u32 a0 24))].toArray 136 (0, 0))]] rfl ?_
  refine st_end ?_
  obtain rfl := Eq.symm h
  exact st_retC (gs' := []) [.agg [.int .u8 (IntKind.u8.wrap a0), .int .u8 (IntKind.u8.wrap (ishr .u32 a0 8)), .int .u8 (IntKind.u8.wrap (ishr .u32 a0 16)), .int .u8 (IntKind.u8.wrap (ishr .u32 a0 24))].toArray] Try.func76 ⟨⟨_, _, _, _, rfl, mem_flat 0 rfl, fun w hw => cellOfN (vs := [.int .u8 (IntKind.u8.wrap a0), .int .u8 (IntKind.u8.wrap (ishr .u32 a0 8)), .int .u8 (IntKind.u8.wrap (ishr .u32 a0 16)), .int .u8 (IntKind.u8.wrap (ishr .u32 a0 24))]) z_agg136 rfl w hw⟩, trivial⟩ (by simp) (Sto.Le.refl _) ⟨rfl, rfl⟩
theorem crc_Seal_ok {a0 : List Int} {a1 : List Int} {bi1 : Nat} {v3 : Value} {r : List Int} (h : crc_Seal a0 a1 r) (σ : Sto) (hc2 : CelN σ ⟨bi1, 0, none⟩ (cellsN (Value.int .u32) 0 1024 a0)) (hs4 : Sl (kI .u8) σ v3 a1) :
    Does Try.prog 59 [.pointer (some ⟨bi1, 0, none⟩), v3] σ [] (fun v τ gs => ∃ (v55 : Value), gs = [] ∧ v55 = v ∧ Sl (kI .u8) τ v55 r) := by
  refine call_of Try.func59 Try.ntmps59 rfl rfl (fun cs fs => ?_)
  refine st_seq ?_
  refine st_region ?_
  refine o_assign rfl rfl rfl rfl ?_
  refine st_end ?_
  refine st_seq ?_
  refine st_seq ?_
  refine st_region ?_
  refine o_move rfl rfl rfl rfl ?_
  refine o_ptrNil (b := false) rfl rfl rfl Try.underlying94 rfl rfl rfl ?_
  refine st_end ?_
  refine st_condF rfl ?_
  refine st_skip ?_
  refine st_seq ?_
  refine st_region ?_
  refine o_move rfl rfl rfl rfl ?_
  refine o_move rfl rfl rfl rfl ?_
  refine o_lit (dk := (kSl (kI .u8))) (xs := [a1]) (ps := [(0, [v3])]) (cs := [v3]) rfl rfl rfl z_slT100 z_zero45 ⟨rfl, ⟨_, rfl, (oneL_sl hs4)⟩, trivial⟩ rfl rfl rfl rfl (Kd.Many.cons (a := [v3]) ⟨_, rfl, hs4⟩ Kd.Many.nil) (fun v5 g6 ho7 => ?_)
  obtain ⟨r12, hr13, h⟩ := h
  refine st_freeze (fun τ8 hl9 hg10 => ?_)
  have hs11 := ho7.freeze hl9 hg10
  refine st_call (foot := []) rfl rfl rfl rfl rfl rfl (callV_fn z_en77 (crc_Table_Sum_ok hr13 τ8 (hc2.up hl9) hs11)) ?_
  rintro vτ14 τ14 gsτ14 hl15 ⟨rfl, rfl⟩
  obtain ⟨r16, hr17, h⟩ := h
  refine st_call (foot := []) rfl rfl rfl rfl rfl rfl (callV_fn z_en76 (crc_bytes_ok hr17 τ14)) ?_
  rintro vτ18 τ18 gsτ18 hl19 ⟨rfl, rfl⟩
  refine o_alloc rfl rfl rfl z_zero136 (fun b20 => ?_)
  refine o_store (j := 0) (vs := [.int .u8 (r16.getD 0 0), .int .u8 (r16.getD 1 0), .int .u8 (r16.getD 2 0), .int .u8 (r16.getD 3 0)]) (cs' := [.int .u8 (r16.getD 0 0), .int .u8 (r16.getD 1 0), .int .u8 (r16.getD 2 0), .int .u8 (r16.getD 3 0)]) rfl rfl rfl z_size136 rfl rfl rfl (ones_cons rfl (ones_cons rfl (ones_cons rfl (ones_cons rfl ones_nil)))) rfl rfl rfl ?_
  refine st_gs [[(b20, .cells [.int .u8 (r16.getD 0 0), .int .u8 (r16.getD 1 0), .int .u8 (r16.getD 2 0), .int .u8 (r16.getD 3 0)].toArray 136 (0, 0))]] rfl ?_
  refine st_end ?_
  refine st_seq ?_
  obtain ⟨hf33, h⟩ := h
  obtain ⟨hf34, h⟩ := h
  obtain ⟨hf44, h⟩ := h
  obtain ⟨hf45, h⟩ := h
  refine st_freeze (fun τ21 hl22 hg23 => ?_)
  refine st_draw2 (gs := []) (F0 := []) 5 3 (tlS [some 0, none, some 1, none, some 2]) (tlN [0, 13, 15, 17]) (tl [fun _ _ => True,
    fun τ v => (v3 : Value) = v,
    fun _ _ => True,
    fun τ v => ∃ (v38 : Value), (v38 : Value) = v ∧ Sl (kI .u8) τ v38 [(r16.getD 0 0), (r16.getD 1 0), (r16.getD 2 0), (r16.getD 3 0)],
    fun _ _ => True]) (tlI [fun τ u F => F = [],
    fun τ u F => ∃ (v27 : Value) (g28 : Grp), F = [g28] ∧ v27 = u ∧ Ow (kI .u8) 5 τ v27 ([] : List Int) g28,
    fun τ u F => ∃ (v35 : Value) (g36 : Grp), F = [g36] ∧ v35 = u ∧ Ow (kI .u8) 5 τ v35 (([] : List Int) ++ a1) g36,
    fun τ u F => ∃ (v46 : Value) (g47 : Grp), F = [g47] ∧ v46 = u ∧ Ow (kI .u8) 5 τ v46 ((([] : List Int) ++ a1) ++ [(r16.getD 0 0), (r16.getD 1 0), (r16.getD 2 0), (r16.getD 3 0)]) g47]) z_mix rfl (tl_mono ⟨fun _ _ _ _ _ => trivial, ⟨fun _ _ _ _ h => h, ⟨fun _ _ _ _ _ => trivial, ⟨fun _ _ _ hl ⟨v38, hv, hs39⟩ => ⟨v38, hv, hs39.up hl⟩, ⟨fun _ _ _ _ _ => trivial, trivial⟩⟩⟩⟩⟩) (tlI_mono ⟨fun _ _ _ _ hl h => h, ⟨fun _ _ _ _ hl h => (let ⟨v27, g28, hF, hU, ho29⟩ := h; ⟨v27, g28, hF, hU, ho29.up hl⟩), ⟨fun _ _ _ _ hl h => (let ⟨v35, g36, hF, hU, ho37⟩ := h; ⟨v35, g36, hF, hU, ho37.up hl⟩), ⟨fun _ _ _ _ hl h => (let ⟨v46, g47, hF, hU, ho48⟩ := h; ⟨v46, g47, hF, hU, ho48.up hl⟩), trivial⟩⟩⟩⟩) rfl (rowSd rfl) rfl (allB_cons (allB_cons (allB_cons (allB_cons (allB_cons allB_nil ?_) ?_) ?_) ?_) ?_) ?_
  · intro ρ' τ u Fv rs hl hI hu hd hout hk
    have hI0 := hI
    obtain rfl := hI
    refine st_gs [] rfl ?_
    refine o_lit (dk := (kI .u8)) (xs := ([] : List Int)) (ps := []) (cs := []) rfl rfl rfl z_slT45 z_zero5 trivial rfl rfl rfl rfl Kd.Many.nil (fun v24 g25 ho26 => ?_)
    exact hk _ _ [g25] (Sto.Le.refl _) trivial ⟨v24, g25, rfl, rfl, ho26⟩
  · intro ρ' τ Fv rs hl hd hout hk
    refine st_flat (gs := []) (fun pool hp => ?_)
    refine o_move rfl rfl rfl ((hout 1 rfl).trans rfl) ?_
    exact st_unflat (gs := []) hp (hk _ _ (Sto.Le.refl _) rfl)
  · intro ρ' τ u Fv rs hl hI hu hd hout hk
    obtain ⟨_, e1, rfl⟩ := hd 1 rfl
    obtain ⟨v27, g28, rfl, rfl, ho29⟩ := hI
    refine st_gs [g28] rfl ?_
    refine o_append (dk := (kI .u8)) (xs := ([] : List Int)) (ys := a1) rfl rfl rfl rfl z_slT45 (hu (by decide)) ho29 e1 (Sl.src (hs4.up ((((hl9.trans hl15).trans hl19).trans hl22).trans hl))) hf33 hf34 (fun v30 g31 ho32 => ?_)
    exact hk _ _ [g31] (Sto.Le.refl _) trivial ⟨v30, g31, rfl, rfl, ho32⟩
  · intro ρ' τ Fv rs hl hd hout hk
    refine st_flat (gs := []) (fun pool hp => ?_)
    refine o_sliceF (dk := (kI .u8)) (xs := [(r16.getD 0 0), (r16.getD 1 0), (r16.getD 2 0), (r16.getD 3 0)]) rfl rfl rfl z_arr136 ((hout 5 rfl).trans rfl) (hl.imm _ _ (hg23 _ List.mem_cons_self)) (manyI [(r16.getD 0 0), (r16.getD 1 0), (r16.getD 2 0), (r16.getD 3 0)]) rfl rfl (fun v38 hs39 hF40 => ?_)
    exact st_unflat (gs := []) hp (hk _ _ (Sto.Le.refl _) ⟨v38, rfl, hs39⟩)
  · intro ρ' τ u Fv rs hl hI hu hd hout hk
    obtain ⟨_, e3, v38, rfl, hs39⟩ := hd 3 rfl
    obtain ⟨v35, g36, rfl, rfl, ho37⟩ := hI
    refine st_gs [g36] rfl ?_
    refine o_append (dk := (kI .u8)) (xs := (([] : List Int) ++ a1)) (ys := [(r16.getD 0 0), (r16.getD 1 0), (r16.getD 2 0), (r16.getD 3 0)]) rfl rfl rfl rfl z_slT45 (hu (by decide)) ho37 e3 (Sl.src hs39) hf44 hf45 (fun v41 g42 ho43 => ?_)
    exact hk _ _ [g42] (Sto.Le.refl _) trivial ⟨v41, g42, rfl, rfl, ho43⟩
  intro ρ' τ49 vals u Fv hl49 hI hu hv hout
  obtain ⟨v46, g47, rfl, rfl, ho48⟩ := hI
  refine st_gs [g47] rfl ?_
  refine st_env (ρ' := [(4, .slice none 0 0), (17, v46)]) ⟨(hout 4 rfl).trans rfl, (by exact hu), trivial⟩ ?_
  refine o_assign rfl rfl rfl rfl ?_
  refine st_end ?_
  refine st_freeze (fun τ50 hl51 hg52 => ?_)
  have hs53 := ho48.freeze hl51 hg52
  obtain rfl := Eq.symm h
  exact st_ret (gs' := []) Try.func59 rfl (List.Sublist.refl _) (((((hl9.trans hl15).trans hl19).trans hl22).trans hl49).trans hl51) ⟨_, rfl, rfl, hs53⟩
theorem cobs_block_ok {a0 : List Int} {v1 : Value} {r : Int × Int × Bool} (h : cobs_block a0 r) (σ : Sto) (hs2 : Sl (kI .u8) σ v1 a0) :
    Does Try.prog 107 [v1] σ [] (fun v τ gs => gs = [] ∧ .tuple [.int .i64 r.1, .int .i64 r.2.1, .bool r.2.2].toArray = v) := by
  refine call_of Try.func107 Try.ntmps107 rfl rfl (fun cs fs => ?_)
  refine st_seq ?_
  refine st_region ?_
  refine o_assign rfl rfl rfl rfl ?_
  refine o_assign rfl rfl rfl rfl ?_
  refine o_assign rfl rfl rfl rfl ?_
  refine st_end ?_
  refine st_seq ?_
  refine st_cut (fun ρ τ3 gs => ∃ (s3 : Unit), cobs_block_j1 a0 s3 r ∧ σ.Le τ3 ∧ ρ = [(0, v1), (2, .int .i64 0), (3, .int .i64 0), (4, .bool false)] ∧ gs = []) ?_ (fun hk3 => ?_)
  · rintro ρ3 τ3 gs3 ⟨s3, h, hl3, rfl, rfl⟩
    refine st_seq ?_
    refine st_seq ?_
    refine st_region ?_
    refine o_move rfl rfl rfl rfl ?_
    refine o_lenI rfl rfl rfl z_slT45 rfl (hs2.up hl3) ?_
    refine o_ibin (v := .bool (decide (254 ≤ (a0.length : Int)))) rfl rfl rfl rfl rfl rfl ?_
    refine st_end ?_
    refine st_cond rfl (fun hc => ?_) (fun hc => ?_)
    · replace h := (if_pos hc).mp h
      refine st_seq ?_
      refine st_region ?_
      refine o_move rfl rfl rfl rfl ?_
      refine o_lenI rfl rfl rfl z_slT45 rfl (hs2.up hl3) ?_
      refine o_ibin (v := .bool (decide (254 < (a0.length : Int)))) rfl rfl rfl rfl rfl rfl ?_
      refine o_assign rfl rfl rfl rfl ?_
      refine o_assign rfl rfl rfl rfl ?_
      refine o_assign rfl rfl rfl rfl ?_
      refine st_end ?_
      obtain rfl := Eq.symm h
      exact st_ret (gs' := []) Try.func107 rfl (List.Sublist.refl _) hl3 ⟨rfl, rfl⟩
    · replace h := (if_neg (ne_t hc)).mp h
      refine st_skip ?_
      refine st_seq ?_
      refine st_region ?_
      refine o_move rfl rfl rfl rfl ?_
      refine o_lenI rfl rfl rfl z_slT45 rfl (hs2.up hl3) ?_
      refine o_move rfl rfl rfl rfl ?_
      refine o_lenI rfl rfl rfl z_slT45 rfl (hs2.up hl3) ?_
      refine o_assign rfl rfl rfl rfl ?_
      refine o_assign rfl rfl rfl rfl ?_
      refine o_assign rfl rfl rfl rfl ?_
      refine st_end ?_
      obtain rfl := Eq.symm h
      exact st_ret (gs' := []) Try.func107 rfl (List.Sublist.refl _) hl3 ⟨rfl, rfl⟩
  refine st_seq ?_
  refine st_region ?_
  refine o_move rfl rfl rfl rfl ?_
  refine o_move rfl rfl rfl rfl ?_
  refine o_lenI rfl rfl rfl z_slT45 rfl hs2 ?_
  refine o_min2 rfl rfl rfl rfl rfl ?_
  obtain ⟨hf4, h⟩ := h
  obtain ⟨hf5, h⟩ := h
  refine o_slice (L := 0) (H := (min (a0.length : Int) 254)) rfl rfl rfl z_slT45 rfl rfl hs2 rfl ⟨_, rfl⟩ (by decide) hf4 hf5 trivial (by simp) (fun v6 hs7 => ?_)
  refine o_lenI rfl rfl rfl z_slT45 rfl hs7 ?_
  refine o_move rfl rfl rfl rfl ?_
  refine st_end ?_
  obtain ⟨e8, hL8, hA8⟩ := h
  refine st_env (ρ' := [(0, v1), (2, .int .i64 0), (3, .int .i64 0), (4, .bool false), (11, v6), (12, .int .i64 (((a0.drop (0 : Int).toNat).take (((min (a0.length : Int) 254) : Int) - 0).toNat).length : Int)), (13, .int .i64 0)]) ⟨rfl, rfl, rfl, rfl, rfl, rfl, rfl, trivial⟩ ?_
  refine st_loop hL8 (fun (s8 : Int) ρ τ8 gs => σ.Le τ8 ∧ ρ = [(0, v1), (2, .int .i64 0), (3, .int .i64 0), (4, .bool false), (11, v6), (12, .int .i64 (((a0.drop (0 : Int).toNat).take (((min (a0.length : Int) 254) : Int) - 0).toNat).length : Int)), (13, .int .i64 s8)] ∧ gs = []) ⟨Sto.Le.refl _, rfl, rfl⟩ ?_
  rintro s8 o8 h he8 ρ8 τ8 gs8 ⟨hl8, rfl, rfl⟩ hn8
  refine st_seq ?_
  refine st_region ?_
  refine o_ibin (v := .bool (decide (s8 < (((a0.drop (0 : Int).toNat).take (((min (a0.length : Int) 254) : Int) - 0).toNat).length : Int)))) rfl rfl rfl rfl rfl rfl ?_
  refine st_end ?_
  refine st_seq ?_
  refine st_cond rfl (fun hc => ?_) (fun hc => ?_)
  · replace h := (if_pos hc).mp h
    refine st_skip ?_
    refine st_seq ?_
    refine st_block ?_
    refine st_seq ?_
    refine st_region ?_
    refine o_move rfl rfl rfl rfl ?_
    obtain ⟨q9, hf10, h⟩ := h
    refine o_index rfl rfl rfl z_slT45 rfl rfl (hs7.up hl8) rfl hf10 (fun b11 of12 vs hc13 hrep => ?_)
    obtain rfl := hrep
    refine o_loadI (v := .int .u8 q9) rfl rfl rfl z_sc5 rfl (hc13 0 _ rfl) ?_
    refine o_assign rfl rfl rfl rfl ?_
    refine o_assign rfl rfl rfl rfl ?_
    refine st_end ?_
    refine st_seq ?_
    refine st_region ?_
    refine o_move rfl rfl rfl rfl ?_
    refine o_ibin (v := .bool (decide (q9 = 0))) rfl rfl rfl rfl rfl rfl ?_
    refine st_end ?_
    refine st_cond rfl (fun hc => ?_) (fun hc => ?_)
    · replace h := (if_pos hc).mp h
      refine st_seq ?_
      refine st_region ?_
      refine o_move rfl rfl rfl rfl ?_
      refine o_move rfl rfl rfl rfl ?_
      refine o_ibin (v := .int .i64 (IntKind.i64.wrap (s8 + 1))) rfl rfl rfl rfl rfl rfl ?_
      refine o_assign rfl rfl rfl rfl ?_
      refine o_assign rfl rfl rfl rfl ?_
      refine o_assign rfl rfl rfl rfl ?_
      refine st_end ?_
      obtain rfl := he8 _ h
      replace h := hA8
      obtain rfl := Eq.symm h
      exact st_ret (gs' := []) Try.func107 rfl (List.Sublist.refl _) hl8 ⟨rfl, rfl⟩
    · replace h := (if_neg (ne_t hc)).mp h
      refine st_skip ?_
      refine st_inBlock ?_
      refine st_region ?_
      refine o_ibin (v := .int .i64 (IntKind.i64.wrap (s8 + 1))) rfl rfl rfl rfl rfl rfl ?_
      refine o_move rfl rfl rfl rfl ?_
      refine st_end ?_
      refine st_env (ρ' := [(0, v1), (2, .int .i64 0), (3, .int .i64 0), (4, .bool false), (11, v6), (12, .int .i64 (((a0.drop (0 : Int).toNat).take (((min (a0.length : Int) 254) : Int) - 0).toNat).length : Int)), (13, .int .i64 (IntKind.i64.wrap (s8 + 1)))]) ⟨rfl, rfl, rfl, rfl, rfl, rfl, rfl, trivial⟩ ?_
      exact hn8 _ _ _ _ h ⟨hl8, rfl, rfl⟩
  · replace h := (if_neg (ne_t hc)).mp h
    refine st_exit rfl ?_
    obtain rfl := he8 _ h
    replace h := hA8
    refine st_env (ρ' := [(0, v1), (2, .int .i64 0), (3, .int .i64 0), (4, .bool false)]) ⟨rfl, rfl, rfl, rfl, trivial⟩ ?_
    exact hk3 _ _ _ ⟨(), h, hl8, rfl, rfl⟩
theorem cobs_Blocks_1_ok {c0 : List Int} {bc0 : Nat} {v1 : Value} {σ0 : Sto} (hc0_0 : Cel σ0 ⟨bc0, 0, none⟩ (v1)) (hs2 : Sl (kI .u8) σ0 v1 c0) :
    IterV Try.prog (fun τ x vx => ∃ (v2 : Value), vx = [v2] ∧ Sl (kI .u8) τ v2 x) (.func (.func 106) #[] [.pointer (some ⟨bc0, 0, none⟩)].toArray) σ0 [] (fun (_ : Unit) _ f => f = []) (cobs_Blocks_1 c0) := by
  intro S Y I y hyc hyo hIm hY s s' o hR σ g hle hIg
  obtain ⟨r, hr0⟩ : ∃ r, r = (s', o) := ⟨_, rfl⟩
  rw [← hr0] at hR
  have h := hR
  refine callV_of (caps := [.pointer (some ⟨bc0, 0, none⟩)]) z_en106 ?_
  refine call_of Try.func106 Try.ntmps106 rfl rfl (fun cs fs => ?_)
  refine st_ord [0] [g] rfl ?_
  refine st_seq ?_
  refine st_region ?_
  refine o_loadI (v := v1) rfl rfl rfl z_sc45 rfl (Cel.up hc0_0 hle) ?_
  refine o_assign rfl rfl rfl rfl ?_
  refine o_assign rfl rfl rfl rfl ?_
  refine st_end ?_
  obtain ⟨e3, hL3, hA3⟩ := h
  refine st_env (ρ' := [(0, y), (3, v1), (4, .bool true)]) ⟨rfl, rfl, rfl, trivial⟩ ?_
  refine st_loop hL3 (fun (s3 : S × List Int × Bool) ρ τ3 gs => σ.Le τ3 ∧ ∃ (g4 : Grp) (v6 : Value), ρ = [(0, y), (3, v6), (4, .bool s3.2.2)] ∧ gs = [g4] ∧ I s3.1 τ3 g4 ∧ Sl (kI .u8) τ3 v6 s3.2.1) ⟨Sto.Le.refl _, g, _, rfl, rfl, hIg, (hs2.up hle)⟩ ?_
  rintro s3 o3 h he3 ρ3 τ3 gs3 ⟨hl3, g4, v6, rfl, rfl, hI5, hs7⟩ hn3
  refine st_seq ?_
  refine st_seq ?_
  refine st_region ?_
  refine o_move rfl rfl rfl rfl ?_
  refine st_end ?_
  refine st_cond rfl (fun hc => ?_) (fun hc => ?_)
  · replace h := (if_pos hc).mp h
    refine st_skip ?_
    refine st_block ?_
    refine st_seq ?_
    refine st_region ?_
    refine o_move rfl rfl rfl rfl ?_
    obtain ⟨r8, hr9, h⟩ := h
    refine st_call (foot := []) rfl rfl rfl rfl rfl rfl (callV_fn z_en107 (cobs_block_ok hr9 τ3 hs7)) ?_
    rintro vτ10 τ10 gsτ10 hl11 ⟨rfl, rfl⟩
    refine o_move rfl rfl rfl rfl ?_
    refine o_extract rfl rfl rfl rfl rfl ?_
    refine o_extract rfl rfl rfl rfl rfl ?_
    refine o_extract rfl rfl rfl rfl rfl ?_
    refine o_assign rfl rfl rfl rfl ?_
    refine o_assign rfl rfl rfl rfl ?_
    refine o_assign rfl rfl rfl rfl ?_
    refine st_end ?_
    refine st_seq ?_
    refine st_seq ?_
    refine st_region ?_
    refine o_move rfl rfl rfl rfl ?_
    refine o_lit (dk := (kI .u8)) (xs := ([] : List Int)) (ps := []) (cs := []) rfl rfl rfl z_slT45 z_zero5 trivial rfl rfl rfl rfl Kd.Many.nil (fun v12 g13 ho14 => ?_)
    refine o_move rfl rfl rfl rfl ?_
    refine o_move rfl rfl rfl rfl ?_
    refine o_move rfl rfl rfl rfl ?_
    obtain ⟨hf15, h⟩ := h
    obtain ⟨hf16, h⟩ := h
    obtain ⟨hf17, h⟩ := h
    obtain ⟨hf18, h⟩ := h
    refine o_slice (L := 0) (H := r8.1) rfl rfl rfl z_slT45 rfl rfl (hs7.up hl11) rfl ⟨_, rfl⟩ (by decide) hf15 hf16 ⟨_, _, rfl, hf17, hf18⟩ (by simp) (fun v19 hs20 => ?_)
    obtain ⟨hf24, h⟩ := h
    obtain ⟨hf25, h⟩ := h
    refine o_append (dk := (kI .u8)) (xs := ([] : List Int)) (ys := ((s3.2.1.drop (0 : Int).toNat).take ((r8.1 : Int) - 0).toNat)) rfl rfl rfl rfl z_slT45 rfl ho14 rfl (Sl.src hs20) hf24 hf25 (fun v21 g22 ho23 => ?_)
    obtain ⟨y30, u31, hy32, h⟩ := h
    refine st_freeze (fun τ26 hl27 hg28 => ?_)
    have hs29 := ho23.freeze hl27 hg28
    refine st_call (foot := [g4]) rfl rfl rfl rfl rfl rfl (hY (([] : List Int) ++ ((s3.2.1.drop (0 : Int).toNat).take ((r8.1 : Int) - 0).toNat)) s3.1 _ _ _ _ _ (hle.trans ((hl3.trans hl11).trans hl27)) hy32 ⟨_, rfl, hs29⟩ (hIm _ _ _ _ (hl11.trans hl27) hI5)) ?_
    rintro vτ33 τ33 gsτ33 hl34 ⟨rfl, g35, rfl, hI36⟩
    refine o_not rfl rfl rfl rfl ?_
    refine st_end ?_
    refine st_cond rfl (fun hc => ?_) (fun hc => ?_)
    · replace h := (if_pos hc).mp h
      obtain rfl := he3 _ h
      replace h := hA3
      obtain rfl := Eq.symm h
      cases hr0
      exact st_ret (gs' := [g35, []]) Try.func106 rfl (by simp) (((hl3.trans hl11).trans hl27).trans hl34) ⟨g35, _, rfl, hI36, rfl⟩
    · replace h := (if_neg (ne_t hc)).mp h
      refine st_skip ?_
      refine st_region ?_
      refine o_move rfl rfl rfl rfl ?_
      refine o_move rfl rfl rfl rfl ?_
      obtain ⟨hf37, h⟩ := h
      obtain ⟨hf38, h⟩ := h
      obtain ⟨hf39, h⟩ := h
      refine o_slice (L := r8.2.1) (H := (s3.2.1.length : Int)) rfl rfl rfl z_slT45 rfl rfl (hs7.up ((hl11.trans hl27).trans hl34)) ⟨_, rfl⟩ rfl hf37 hf38 hf39 trivial (by simp) (fun v40 hs41 => ?_)
      refine o_move rfl rfl rfl rfl ?_
      refine o_assign rfl rfl rfl rfl ?_
      refine o_assign rfl rfl rfl rfl ?_
      refine st_end ?_
      refine st_inBlock ?_
      refine st_env (ρ' := [(0, y), (3, v40), (4, .bool r8.2.2)]) ⟨rfl, rfl, rfl, trivial⟩ ?_
      exact hn3 _ _ _ _ h ⟨(((hl3.trans hl11).trans hl27).trans hl34), g35, _, rfl, rfl, hI36, hs41⟩
  · replace h := (if_neg (ne_t hc)).mp h
    refine st_exit rfl ?_
    obtain rfl := he3 _ h
    replace h := hA3
    obtain rfl := Eq.symm h
    cases hr0
    exact st_fin (gs' := [g4, []]) Try.func106 rfl (by simp) hl3 ⟨g4, _, rfl, hI5, rfl⟩
theorem cobs_Blocks_ok {a0 : List Int} {v1 : Value} {r : (((S : Type) → ((List Int) → S → Bool × S → Prop) → S → S × Unit → Prop))} (h : cobs_Blocks a0 r) (σ : Sto) (hs2 : Sl (kI .u8) σ v1 a0) :
    Does Try.prog 90 [v1] σ [] (fun v τ gs => ∃ (f7 : Nat) (q8 : Array Value), gs = [] ∧ .func (.func f7) #[] q8 = v ∧ IterV Try.prog (fun τ x vx => ∃ (v4 : Value), vx = [v4] ∧ Sl (kI .u8) τ v4 x) (.func (.func f7) #[] q8) τ [] (fun (_ : Unit) _ f => f = []) r) := by
  refine call_of Try.func90 Try.ntmps90 rfl rfl (fun cs fs => ?_)
  refine st_seq ?_
  refine st_region ?_
  refine o_box (cs := [v1]) rfl rfl rfl rfl (oneL_sl hs2) (fun b3 => ?_)
  refine o_assign rfl rfl rfl rfl ?_
  refine st_end ?_
  refine st_seq ?_
  refine st_region ?_
  refine st_freeze (fun τ4 hl5 hg6 => ?_)
  refine o_func rfl rfl rfl rfl rfl ?_
  refine o_assign rfl rfl rfl rfl ?_
  refine st_end ?_
  obtain rfl := Eq.symm h
  exact st_ret (gs' := []) Try.func90 rfl (List.Sublist.refl _) hl5 ⟨_, _, rfl, rfl, (cobs_Blocks_1_ok (cel_of hg6 rfl) (hs2.up hl5))⟩
theorem cobs_Encode_ok {a0 : List Int} {v1 : Value} {r : List Int} (h : cobs_Encode a0 r) (σ : Sto) (hs2 : Sl (kI .u8) σ v1 a0) :
    Does Try.prog 66 [v1] σ [] (fun v τ gs => ∃ (v42 : Value), gs = [] ∧ v42 = v ∧ Sl (kI .u8) τ v42 r) := by
  refine call_of Try.func66 Try.ntmps66 rfl rfl (fun cs fs => ?_)
  refine st_seq ?_
  refine st_region ?_
  refine o_assign rfl rfl rfl rfl ?_
  refine st_end ?_
  refine st_seq ?_
  refine st_region ?_
  refine o_alloc rfl rfl rfl z_zero45 (fun b3 => ?_)
  refine st_end ?_
  refine st_seq ?_
  refine st_seq ?_
  refine st_region ?_
  refine o_move rfl rfl rfl rfl ?_
  obtain ⟨r4, hr5, h⟩ := h
  refine st_call (foot := []) rfl rfl rfl rfl rfl rfl (callV_fn z_en90 (cobs_Blocks_ok hr5 σ hs2)) ?_
  rintro vτ6 τ6 gsτ6 hl7 ⟨f8, q9, rfl, rfl, hit10⟩
  refine st_end ?_
  refine st_block ?_
  obtain ⟨t11, w11, hR11, hA11⟩ := h
  refine st_env (ρ' := [(2, .slice none 0 0), (3, .pointer (some ⟨b3, 0, none⟩)), (6, .func (.func f8) #[] q9)]) ⟨rfl, rfl, rfl, trivial⟩ ?_
  refine st_addNil ?_
  refine st_ord [1, 0] [[(b3, .cells [.slice none 0 0].toArray 45 (0, 0))], []] rfl ?_
  refine st_addNil ?_
  refine st_range (B := cobs_Encode_l1) (s0 := []) ranges_fctx rfl hit10 (Sto.Le.refl _) hR11 rfl (fun _ _ _ h => by obtain ⟨_, rfl, _⟩ := h; rfl) (fun (s11 : List Int) τ11 gs => τ6.Le τ11 ∧ ∃ (v12 : Value) (g13 : Grp), gs = [[(b3, .cells [v12].toArray 45 (0, 0))], g13] ∧ Ow (kI .u8) 5 τ11 v12 s11 g13) (fun _ _ _ _ => False) (fun _ _ _ _ hl ⟨hb, v12, g13, hg, ho14⟩ => ⟨hb.trans hl, v12, g13, hg, ho14.up hl⟩) (fun _ _ _ _ _ _ h => h.elim) ⟨Sto.Le.refl _, _, _, rfl, Ow.nil⟩ ?_ ?_ ?_
  · rintro x11 s11 o11 τ11 gs11 vx11 hl11 h ⟨v15, rfl, hs16⟩ ⟨hb11, v12, g13, rfl, ho14⟩ l11 rc11 caller11 cs11 fs11
    refine st_region ?_
    refine o_assign rfl rfl rfl rfl ?_
    refine st_end ?_
    refine st_begin ?_
    refine st_block ?_
    refine st_seq ?_
    refine st_region ?_
    refine o_load (j := 0) (v := v12) rfl rfl rfl z_sc45 rfl rfl rfl ?_
    refine o_move rfl rfl rfl rfl ?_
    refine o_lenI rfl rfl rfl z_slT45 rfl hs16 ?_
    refine o_ibin (v := .int .i64 (IntKind.i64.wrap ((x11.length : Int) + 1))) rfl rfl rfl rfl rfl rfl ?_
    refine o_conv rfl rfl rfl Try.underlying3 Try.underlying5 rfl ?_
    refine o_lit (dk := (kI .u8)) (xs := [(IntKind.u8.wrap (IntKind.i64.wrap ((x11.length : Int) + 1)))]) (ps := [(0, [.int .u8 (IntKind.u8.wrap (IntKind.i64.wrap ((x11.length : Int) + 1)))])]) (cs := [.int .u8 (IntKind.u8.wrap (IntKind.i64.wrap ((x11.length : Int) + 1)))]) rfl rfl rfl z_slT45 z_zero5 ⟨rfl, ⟨_, rfl, rfl⟩, trivial⟩ rfl rfl rfl rfl (Kd.Many.cons (a := [.int .u8 (IntKind.u8.wrap (IntKind.i64.wrap ((x11.length : Int) + 1)))]) rfl Kd.Many.nil) (fun v17 g18 ho19 => ?_)
    obtain ⟨hf23, h⟩ := h
    obtain ⟨hf24, h⟩ := h
    refine st_ord [2, 0, 0] [g13, g18, [(b3, .cells [v12].toArray 45 (0, 0))]] rfl ?_
    refine o_append (dk := (kI .u8)) (xs := s11) (ys := [(IntKind.u8.wrap (IntKind.i64.wrap ((x11.length : Int) + 1)))]) rfl rfl rfl rfl z_slT45 rfl ho14 rfl (Ow.src (j := 1) ho19 rfl) hf23 hf24 (fun v20 g21 ho22 => ?_)
    refine o_store (j := 2) (vs := [v20]) (cs' := [v20]) rfl rfl rfl z_size45 rfl rfl (oneL_ow ho22) (ones_cons ho22.one' ones_nil) rfl rfl rfl ?_
    refine st_gs [g21, g18, [(b3, .cells [v20].toArray 45 (0, 0))]] rfl ?_
    refine st_end ?_
    refine st_region ?_
    refine o_load (j := 2) (v := v20) rfl rfl rfl z_sc45 rfl rfl rfl ?_
    refine o_move rfl rfl rfl rfl ?_
    obtain ⟨hf28, h⟩ := h
    obtain ⟨hf29, h⟩ := h
    refine o_append (dk := (kI .u8)) (xs := (s11 ++ [(IntKind.u8.wrap (IntKind.i64.wrap ((x11.length : Int) + 1)))])) (ys := x11) rfl rfl rfl rfl z_slT45 rfl ho22 rfl (Sl.src hs16) hf28 hf29 (fun v25 g26 ho27 => ?_)
    refine o_store (j := 2) (vs := [v25]) (cs' := [v25]) rfl rfl rfl z_size45 rfl rfl (oneL_ow ho27) (ones_cons ho27.one' ones_nil) rfl rfl rfl ?_
    refine st_gs [g26, g18, [(b3, .cells [v25].toArray 45 (0, 0))]] rfl ?_
    refine st_end ?_
    refine st_inBlock ?_
    refine st_ord [2, 0] [[(b3, .cells [v25].toArray 45 (0, 0))], g26] rfl ?_
    exact st_rend (List.Sublist.refl _) (Sto.Le.refl _) ⟨_, h, hl11, _, _, rfl, ho27⟩
  · rintro p30 τ31 gs11 f11 ht hl32 ⟨hb, v33, g34, rfl, ho35⟩ rfl
    subst ht
    replace h := hA11
    refine st_ord [1, 1] [[(b3, .cells [v33].toArray 45 (0, 0))], g34] rfl ?_
    refine st_inBlock ?_
    refine st_seq ?_
    refine st_region ?_
    refine o_load (j := 0) (v := v33) rfl rfl rfl z_sc45 rfl rfl rfl ?_
    refine o_assign rfl rfl rfl rfl ?_
    refine st_end ?_
    refine st_ord [1, 0] [g34, [(b3, .cells [v33].toArray 45 (0, 0))]] rfl ?_
    refine st_freeze (fun τ36 hl37 hg38 => ?_)
    have hs39 := ho35.freeze hl37 hg38
    refine st_ord [] [] rfl ?_
    obtain rfl := Eq.symm h
    exact st_ret (gs' := []) Try.func66 rfl (List.Sublist.refl _) ((hl7.trans hl32).trans hl37) ⟨_, rfl, rfl, hs39⟩
  · exact fun _ _ _ _ _ _ _ h => h.elim
theorem frame_Codec_Segment_ok {a0 : List Int} {a1 : (Int × Int × Int × Int × Int) × List Int} {bi3 : Nat} {bi1 : Nat} {v5 : Value} {r : List Int × Int} (h : frame_Codec_Segment a0 a1 r) (σ : Sto) (hc4 : CelN σ ⟨bi3, 0, none⟩ (cellsN (Value.int .u32) 0 1024 a0)) (hc2 : CelN σ ⟨bi1, 0, none⟩ [.pointer (some ⟨bi3, 0, none⟩)]) (hs6 : Sl (kI .u8) σ v5 a1.2) :
    Does Try.prog 34 [.pointer (some ⟨bi1, 0, none⟩), .agg [.int .i64 a1.1.1, .int .i64 a1.1.2.1, .int .u32 a1.1.2.2.1, .int .i64 a1.1.2.2.2.1, .int .i64 a1.1.2.2.2.2, v5].toArray] σ [] (fun v τ gs => ∃ (v38 : Value), gs = [] ∧ .tuple [v38, .int .i64 r.2].toArray = v ∧ Sl (kI .u8) τ v38 r.1) := by
  refine call_of Try.func34 Try.ntmps34 rfl rfl (fun cs fs => ?_)
  refine st_seq ?_
  refine st_region ?_
  refine o_box (cs := [.int .i64 a1.1.1, .int .i64 a1.1.2.1, .int .u32 a1.1.2.2.1, .int .i64 a1.1.2.2.2.1, .int .i64 a1.1.2.2.2.2, v5]) rfl rfl rfl rfl rfl (fun b7 => ?_)
  refine o_assign rfl rfl rfl rfl ?_
  refine o_assign rfl rfl rfl rfl ?_
  refine st_end ?_
  refine st_seq ?_
  refine st_seq ?_
  refine st_region ?_
  refine o_move rfl rfl rfl rfl ?_
  refine o_loadN (j := 0) (vs := [.int .i64 a1.1.1, .int .i64 a1.1.2.1, .int .u32 a1.1.2.2.1, .int .i64 a1.1.2.2.2.1, .int .i64 a1.1.2.2.2.2, v5]) rfl rfl rfl z_agg47 rfl rfl rfl ?_
  obtain ⟨r8, hr9, h⟩ := h
  refine st_call (foot := []) rfl rfl rfl rfl rfl rfl (callV_fn z_en21 (frame_Codec_Check_ok hr9 σ hc4 hc2 hs6)) ?_
  rintro vτ10 τ10 gsτ10 hl11 ⟨rfl, rfl⟩
  refine o_assign rfl rfl rfl rfl ?_
  refine st_end ?_
  refine st_seq ?_
  refine st_region ?_
  refine o_move rfl rfl rfl rfl ?_
  refine o_ibin (v := .bool (!(decide (r8 = 0)))) rfl rfl rfl rfl rfl rfl ?_
  refine st_end ?_
  refine st_cond rfl (fun hc => ?_) (fun hc => ?_)
  · replace h := (if_pos hc).mp h
    refine st_seq ?_
    refine st_region ?_
    refine o_move rfl rfl rfl rfl ?_
    refine o_assign rfl rfl rfl rfl ?_
    refine o_assign rfl rfl rfl rfl ?_
    refine st_end ?_
    refine st_ord [] [] rfl ?_
    obtain rfl := Eq.symm h
    exact st_ret (gs' := []) Try.func34 rfl (List.Sublist.refl _) hl11 ⟨_, rfl, rfl, Sl.nil⟩
  · replace h := (if_neg (ne_t hc)).mp h
    refine st_skip ?_
    refine st_seq ?_
    refine st_region ?_
    refine o_fieldAddr rfl rfl rfl z_field47_0 rfl ?_
    refine o_loadN (j := 0) (vs := [.int .i64 a1.1.1, .int .i64 a1.1.2.1, .int .u32 a1.1.2.2.1, .int .i64 a1.1.2.2.2.1, .int .i64 a1.1.2.2.2.2]) rfl rfl rfl z_agg44 rfl rfl rfl ?_
    obtain ⟨r12, hr13, h⟩ := h
    refine st_call (foot := []) rfl rfl rfl rfl rfl rfl (callV_fn z_en65 (head_Bytes_ok hr13 τ10)) ?_
    rintro vτ14 τ14 gsτ14 hl15 ⟨v16, rfl, rfl, hs17, hF18⟩
    refine o_move rfl rfl rfl rfl ?_
    refine o_extract rfl rfl rfl rfl rfl ?_
    refine o_extract rfl rfl rfl rfl rfl ?_
    refine o_assign rfl rfl rfl rfl ?_
    refine o_assign rfl rfl rfl rfl ?_
    refine st_end ?_
    refine st_seq ?_
    obtain ⟨hf21, h⟩ := h
    obtain ⟨hf22, h⟩ := h
    obtain ⟨r25, hr26, h⟩ := h
    obtain ⟨r31, hr32, h⟩ := h
    refine st_draw 12 (tl [fun τ v => (.pointer (some ⟨bi1, 0, none⟩) : Value) = v,
    fun τ v => (.pointer (some ⟨bi1, 0, none⟩) : Value) = v,
    fun τ v => (.pointer (some ⟨bi1, 0, none⟩) : Value) = v,
    fun τ v => (.pointer (some ⟨bi3, 0, none⟩) : Value) = v,
    fun τ v => (v16 : Value) = v,
    fun τ v => (.pointer (some ⟨b7, 5, none⟩) : Value) = v,
    fun τ v => (v5 : Value) = v,
    fun τ v => ∃ (v19 : Value), (v19 : Value) = v ∧ Sl (kI .u8) τ v19 (r12.1 ++ a1.2),
    fun τ v => ∃ (v29 : Value), (v29 : Value) = v ∧ Sl (kI .u8) τ v29 r25,
    fun τ v => ∃ (v35 : Value), (v35 : Value) = v ∧ Sl (kI .u8) τ v35 r31,
    fun τ v => (.int .i64 r12.2 : Value) = v,
    fun τ v => ∃ (v35 : Value), (v35 : Value) = v ∧ Sl (kI .u8) τ v35 r31]) (fun _ _ => []) z_mix rfl (tl_mono ⟨fun _ _ _ _ h => h, ⟨fun _ _ _ _ h => h, ⟨fun _ _ _ _ h => h, ⟨fun _ _ _ _ h => h, ⟨fun _ _ _ _ h => h, ⟨fun _ _ _ _ h => h, ⟨fun _ _ _ _ h => h, ⟨fun _ _ _ hl ⟨v19, hv, hs20⟩ => ⟨v19, hv, hs20.up hl⟩, ⟨fun _ _ _ hl ⟨v29, hv, hs30⟩ => ⟨v29, hv, hs30.up hl⟩, ⟨fun _ _ _ hl ⟨v35, hv, hs36⟩ => ⟨v35, hv, hs36.up hl⟩, ⟨fun _ _ _ _ h => h, ⟨fun _ _ _ hl ⟨v35, hv, hs36⟩ => ⟨v35, hv, hs36.up hl⟩, trivial⟩⟩⟩⟩⟩⟩⟩⟩⟩⟩⟩⟩) (allB_cons (allB_cons (allB_cons (allB_cons (allB_cons (allB_cons (allB_cons (allB_cons (allB_cons (allB_cons (allB_cons (allB_cons allB_nil ?_) ?_) ?_) ?_) ?_) ?_) ?_) ?_) ?_) ?_) ?_) ?_) ?_
    · intro ρ' τ pool rs hl hd hout hk
      refine o_move rfl rfl rfl ((hout 0 rfl).trans rfl) ?_
      exact st_addNil (hk _ _ (Sto.Le.refl _) rfl)
    · intro ρ' τ pool rs hl hd hout hk
      obtain ⟨_, e0, rfl⟩ := hd 0 rfl
      refine o_nilCheck rfl rfl rfl e0 ?_
      exact st_addNil (hk _ _ (Sto.Le.refl _) rfl)
    · intro ρ' τ pool rs hl hd hout hk
      obtain ⟨_, e1, rfl⟩ := hd 1 rfl
      refine o_fieldAddr rfl rfl rfl z_field97_0 e1 ?_
      exact st_addNil (hk _ _ (Sto.Le.refl _) rfl)
    · intro ρ' τ pool rs hl hd hout hk
      obtain ⟨_, e2, rfl⟩ := hd 2 rfl
      refine o_loadI (v := .pointer (some ⟨bi3, 0, none⟩)) rfl rfl rfl z_sc94 e2 ((hc2.up ((hl11.trans hl15).trans hl)) 0 _ rfl) ?_
      exact st_addNil (hk _ _ (Sto.Le.refl _) rfl)
    · intro ρ' τ pool rs hl hd hout hk
      refine o_move rfl rfl rfl ((hout 7 rfl).trans rfl) ?_
      exact st_addNil (hk _ _ (Sto.Le.refl _) rfl)
    · intro ρ' τ pool rs hl hd hout hk
      refine o_fieldAddr rfl rfl rfl z_field47_1 ((hout 3 rfl).trans rfl) ?_
      exact st_addNil (hk _ _ (Sto.Le.refl _) rfl)
    · intro ρ' τ pool rs hl hd hout hk
      obtain ⟨_, e5, rfl⟩ := hd 5 rfl
      refine o_load (j := 0) (v := v5) rfl rfl rfl z_sc45 e5 rfl rfl ?_
      exact st_addNil (hk _ _ (Sto.Le.refl _) rfl)
    · intro ρ' τ pool rs hl hd hout hk
      obtain ⟨_, e4, rfl⟩ := hd 4 rfl
      obtain ⟨_, e6, rfl⟩ := hd 6 rfl
      refine o_appendF (dk := (kI .u8)) (xs := r12.1) (ys := a1.2) rfl rfl rfl rfl z_slT45 e4 (hs17.up hl) hF18 e6 (Sl.src (hs6.up ((hl11.trans hl15).trans hl))) hf21 hf22 (fun v19 τ23 hl24 hs20 => ?_)
      exact st_addNil (hk _ _ hl24 ⟨v19, rfl, hs20⟩)
    · intro ρ' τ pool rs hl hd hout hk
      obtain ⟨_, e3, rfl⟩ := hd 3 rfl
      obtain ⟨_, e7, v19, rfl, hs20⟩ := hd 7 rfl
      refine st_call (foot := []) rfl rfl rfl rfl (evs_cons e3 (evs_cons e7 rfl)) rfl (callV_fn z_en59 (crc_Seal_ok hr26 τ (hc4.up ((hl11.trans hl15).trans hl)) hs20)) ?_
      rintro vτ27 τ27 gsτ27 hl28 ⟨v29, rfl, rfl, hs30⟩
      exact st_addNil (hk _ _ hl28 ⟨v29, rfl, hs30⟩)
    · intro ρ' τ pool rs hl hd hout hk
      obtain ⟨_, e8, v29, rfl, hs30⟩ := hd 8 rfl
      refine st_call (foot := []) rfl rfl rfl rfl (evs_cons e8 rfl) rfl (callV_fn z_en66 (cobs_Encode_ok hr32 τ hs30)) ?_
      rintro vτ33 τ33 gsτ33 hl34 ⟨v35, rfl, rfl, hs36⟩
      exact st_addNil (hk _ _ hl34 ⟨v35, rfl, hs36⟩)
    · intro ρ' τ pool rs hl hd hout hk
      refine o_move rfl rfl rfl ((hout 8 rfl).trans rfl) ?_
      exact st_addNil (hk _ _ (Sto.Le.refl _) rfl)
    · intro ρ' τ pool rs hl hd hout hk
      obtain ⟨_, e9, v35, rfl, hs36⟩ := hd 9 rfl
      refine o_assign rfl rfl rfl e9 ?_
      exact st_addNil (hk _ _ (Sto.Le.refl _) ⟨v35, rfl, hs36⟩)
    intro ρ' τ37 vals hl37 hv hout
    have l10 : Eng.look ρ' 31 = some (.int .i64 r12.2) := (hv 10 (by decide)).1.trans (congrArg some (show vals 10 = .int .i64 r12.2 from Eq.symm (hv 10 (by decide)).2))
    obtain ⟨l11, v35, t11, hs36⟩ := hv 11 (by decide)
    replace l11 : Eng.look ρ' 4 = some (v35) := l11.trans (congrArg some (Eq.symm t11))
    refine st_ord [0] [[(b7, .cells [.int .i64 a1.1.1, .int .i64 a1.1.2.1, .int .u32 a1.1.2.2.1, .int .i64 a1.1.2.2.2.1, .int .i64 a1.1.2.2.2.2, v5].toArray 47 (0, 0))]] rfl ?_
    refine st_env (ρ' := [(31, .int .i64 r12.2), (4, v35), (5, .int .i64 0)]) ⟨l10, l11, (hout 5 rfl).trans rfl, trivial⟩ ?_
    refine o_assign rfl rfl rfl rfl ?_
    refine st_end ?_
    refine st_ord [] [] rfl ?_
    obtain rfl := Eq.symm h
    exact st_ret (gs' := []) Try.func34 rfl (List.Sublist.refl _) ((hl11.trans hl15).trans hl37) ⟨_, rfl, rfl, hs36⟩
theorem fence_Wrap_ok {a0 : List (List Int)} {v1 : Value} {r : List Int} (h : fence_Wrap a0 r) (σ : Sto) (hs2 : Sl (kSl (kI .u8)) σ v1 a0) :
    Does Try.prog 51 [v1] σ [] (fun v τ gs => ∃ (v46 : Value), gs = [] ∧ v46 = v ∧ Sl (kI .u8) τ v46 r) := by
  refine call_of Try.func51 Try.ntmps51 rfl rfl (fun cs fs => ?_)
  refine st_seq ?_
  refine st_region ?_
  refine o_assign rfl rfl rfl rfl ?_
  refine st_end ?_
  refine st_seq ?_
  refine st_region ?_
  refine o_assign rfl rfl rfl rfl ?_
  refine st_end ?_
  refine st_seq ?_
  refine st_cut (fun ρ τ3 gs => ∃ (s3 : List Int) (v4 : Value) (g5 : Grp), fence_Wrap_j1 s3 r ∧ σ.Le τ3 ∧ ρ = [(2, .slice none 0 0), (3, v4)] ∧ gs = [g5] ∧ Ow (kI .u8) 5 τ3 v4 s3 g5) ?_ (fun hk3 => ?_)
  · rintro ρ3 τ3 gs3 ⟨s3, v4, g5, h, hl3, rfl, rfl, ho6⟩
    refine st_seq ?_
    refine st_region ?_
    refine o_move rfl rfl rfl rfl ?_
    refine o_assign rfl rfl rfl rfl ?_
    refine st_end ?_
    refine st_freeze (fun τ7 hl8 hg9 => ?_)
    have hs10 := ho6.freeze hl8 hg9
    obtain rfl := Eq.symm h
    exact st_ret (gs' := []) Try.func51 rfl (List.Sublist.refl _) (hl3.trans hl8) ⟨_, rfl, rfl, hs10⟩
  refine st_seq ?_
  refine st_region ?_
  refine o_move rfl rfl rfl rfl ?_
  refine o_lenI rfl rfl rfl z_slT100 rfl hs2 ?_
  refine o_move rfl rfl rfl rfl ?_
  refine st_end ?_
  obtain ⟨e13, hL13, hA13⟩ := h
  refine st_env (ρ' := [(2, .slice none 0 0), (3, .slice none 0 0), (6, v1), (7, .int .i64 (a0.length : Int)), (8, .int .i64 0)]) ⟨rfl, rfl, rfl, rfl, rfl, trivial⟩ ?_
  refine st_addNil ?_
  refine st_loop hL13 (fun (s13 : List Int × Int) ρ τ13 gs => σ.Le τ13 ∧ ∃ (v14 : Value) (g15 : Grp), ρ = [(2, .slice none 0 0), (3, v14), (6, v1), (7, .int .i64 (a0.length : Int)), (8, .int .i64 s13.2)] ∧ gs = [g15] ∧ Ow (kI .u8) 5 τ13 v14 s13.1 g15) ⟨Sto.Le.refl _, _, _, rfl, rfl, Ow.nil⟩ ?_
  rintro s13 o13 h he13 ρ13 τ13 gs13 ⟨hl13, v14, g15, rfl, rfl, ho16⟩ hn13
  refine st_seq ?_
  refine st_region ?_
  refine o_ibin (v := .bool (decide (s13.2 < (a0.length : Int)))) rfl rfl rfl rfl rfl rfl ?_
  refine st_end ?_
  refine st_seq ?_
  refine st_cond rfl (fun hc => ?_) (fun hc => ?_)
  · replace h := (if_pos hc).mp h
    refine st_skip ?_
    refine st_seq ?_
    refine st_block ?_
    refine st_seq ?_
    refine st_region ?_
    obtain ⟨q17, hf18, h⟩ := h
    refine o_index rfl rfl rfl z_slT100 rfl rfl (hs2.up hl13) rfl hf18 (fun b19 of20 vs hc22 hrep => ?_)
    obtain ⟨v21, rfl, hs23⟩ := hrep
    refine o_loadI (v := v21) rfl rfl rfl z_sc45 rfl (hc22 0 _ rfl) ?_
    refine o_assign rfl rfl rfl rfl ?_
    refine st_end ?_
    refine st_seq ?_
    refine st_region ?_
    refine o_move rfl rfl rfl rfl ?_
    refine o_lit (dk := (kI .u8)) (xs := [0]) (ps := [(0, [.int .u8 0])]) (cs := [.int .u8 0]) rfl rfl rfl z_slT45 z_zero5 ⟨rfl, ⟨_, rfl, rfl⟩, trivial⟩ rfl rfl rfl rfl (Kd.Many.cons (a := [.int .u8 0]) rfl Kd.Many.nil) (fun v24 g25 ho26 => ?_)
    obtain ⟨hf30, h⟩ := h
    obtain ⟨hf31, h⟩ := h
    refine st_ord [1, 0] [g15, g25] rfl ?_
    refine o_append (dk := (kI .u8)) (xs := s13.1) (ys := [0]) rfl rfl rfl rfl z_slT45 rfl ho16 rfl (Ow.src (j := 1) ho26 rfl) hf30 hf31 (fun v27 g28 ho29 => ?_)
    refine o_assign rfl rfl rfl rfl ?_
    refine st_end ?_
    refine st_seq ?_
    refine st_region ?_
    refine o_move rfl rfl rfl rfl ?_
    refine o_move rfl rfl rfl rfl ?_
    obtain ⟨hf35, h⟩ := h
    obtain ⟨hf36, h⟩ := h
    refine o_append (dk := (kI .u8)) (xs := (s13.1 ++ [0])) (ys := q17) rfl rfl rfl rfl z_slT45 rfl ho29 rfl (Sl.src hs23) hf35 hf36 (fun v32 g33 ho34 => ?_)
    refine o_assign rfl rfl rfl rfl ?_
    refine st_end ?_
    refine st_region ?_
    refine o_move rfl rfl rfl rfl ?_
    refine o_lit (dk := (kI .u8)) (xs := [0]) (ps := [(0, [.int .u8 0])]) (cs := [.int .u8 0]) rfl rfl rfl z_slT45 z_zero5 ⟨rfl, ⟨_, rfl, rfl⟩, trivial⟩ rfl rfl rfl rfl (Kd.Many.cons (a := [.int .u8 0]) rfl Kd.Many.nil) (fun v37 g38 ho39 => ?_)
    obtain ⟨hf43, h⟩ := h
    obtain ⟨hf44, h⟩ := h
    refine st_ord [1, 0, 0] [g33, g38, g25] rfl ?_
    refine o_append (dk := (kI .u8)) (xs := ((s13.1 ++ [0]) ++ q17)) (ys := [0]) rfl rfl rfl rfl z_slT45 rfl ho34 rfl (Ow.src (j := 1) ho39 rfl) hf43 hf44 (fun v40 g41 ho42 => ?_)
    refine o_assign rfl rfl rfl rfl ?_
    refine st_end ?_
    refine st_inBlock ?_
    refine st_region ?_
    refine o_ibin (v := .int .i64 (IntKind.i64.wrap (s13.2 + 1))) rfl rfl rfl rfl rfl rfl ?_
    refine o_move rfl rfl rfl rfl ?_
    refine st_end ?_
    refine st_env (ρ' := [(2, .slice none 0 0), (3, v40), (6, v1), (7, .int .i64 (a0.length : Int)), (8, .int .i64 (IntKind.i64.wrap (s13.2 + 1)))]) ⟨rfl, rfl, rfl, rfl, rfl, trivial⟩ ?_
    refine st_ord [0] [g41] rfl ?_
    exact hn13 _ _ _ _ h ⟨hl13, _, _, rfl, rfl, ho42⟩
  · replace h := (if_neg (ne_t hc)).mp h
    refine st_exit rfl ?_
    obtain rfl := he13 _ h
    replace h := hA13
    refine st_env (ρ' := [(2, .slice none 0 0), (3, v14)]) ⟨rfl, rfl, trivial⟩ ?_
    exact hk3 _ _ _ ⟨s13.1, _, _, h, hl13, rfl, rfl, ho16⟩
theorem frame_Codec_Pack_ok {a0 : List Int} {a1 : List ((Int × Int × Int × Int × Int) × List Int)} {bi3 : Nat} {bi1 : Nat} {v5 : Value} {r : List Int × Int} (h : frame_Codec_Pack a0 a1 r) (σ : Sto) (hc4 : CelN σ ⟨bi3, 0, none⟩ (cellsN (Value.int .u32) 0 1024 a0)) (hc2 : CelN σ ⟨bi1, 0, none⟩ [.pointer (some ⟨bi3, 0, none⟩)]) (hs6 : Sl (kP (kP (kI .i64) (kP (kI .i64) (kP (kI .u32) (kP (kI .i64) (kI .i64))))) (kSl (kI .u8))) σ v5 a1) :
    Does Try.prog 22 [.pointer (some ⟨bi1, 0, none⟩), v5] σ [] (fun v τ gs => ∃ (v49 : Value), gs = [] ∧ .tuple [v49, .int .i64 r.2].toArray = v ∧ Sl (kI .u8) τ v49 r.1) := by
  refine call_of Try.func22 Try.ntmps22 rfl rfl (fun cs fs => ?_)
  refine st_seq ?_
  refine st_region ?_
  refine o_assign rfl rfl rfl rfl ?_
  refine o_assign rfl rfl rfl rfl ?_
  refine st_end ?_
  refine st_scope ?_
  refine st_seq ?_
  refine st_seq ?_
  refine st_region ?_
  refine o_move rfl rfl rfl rfl ?_
  refine o_ptrNil (b := false) rfl rfl rfl Try.underlying48 rfl rfl rfl ?_
  refine st_end ?_
  refine st_condF rfl ?_
  refine st_skip ?_
  refine st_seq ?_
  refine st_region ?_
  refine o_assign rfl rfl rfl rfl ?_
  refine st_end ?_
  refine st_seq ?_
  refine st_region ?_
  refine o_assign rfl rfl rfl rfl ?_
  refine st_end ?_
  refine st_seq ?_
  refine st_label ?_
  refine st_seq ?_
  refine st_cut (fun ρ τ7 gs => ∃ (s7 : List (List Int) × Int) (v8 : Value) (g9 : Grp), frame_Codec_Pack_j1 s7 r ∧ σ.Le τ7 ∧ ρ = [(4, .slice none 0 0), (5, .int .i64 0), (6, v8), (7, .int .i64 s7.2)] ∧ gs = [g9] ∧ Ow (kSl (kI .u8)) 45 τ7 v8 s7.1 g9) ?_ (fun hk7 => ?_)
  · rintro ρ7 τ7 gs7 ⟨s7, v8, g9, h, hl7, rfl, rfl, ho10⟩
    refine st_seq ?_
    refine st_region ?_
    refine o_move rfl rfl rfl rfl ?_
    obtain ⟨r16, hr17, h⟩ := h
    refine st_freeze (fun τ11 hl12 hg13 => ?_)
    have hs14 := ho10.freeze hl12 hg13
    refine st_call (foot := []) rfl rfl rfl rfl rfl rfl (callV_fn z_en51 (fence_Wrap_ok hr17 τ11 hs14)) ?_
    rintro vτ18 τ18 gsτ18 hl19 ⟨v20, rfl, rfl, hs21⟩
    refine o_move rfl rfl rfl rfl ?_
    refine o_assign rfl rfl rfl rfl ?_
    refine o_assign rfl rfl rfl rfl ?_
    refine st_end ?_
    obtain rfl := Eq.symm h
    exact st_ret (gs' := []) Try.func22 rfl (List.Sublist.refl _) ((hl7.trans hl12).trans hl19) ⟨_, rfl, rfl, hs21⟩
  refine st_seq ?_
  refine st_region ?_
  refine o_move rfl rfl rfl rfl ?_
  refine o_lenI rfl rfl rfl z_slT99 rfl hs6 ?_
  refine o_move rfl rfl rfl rfl ?_
  refine st_end ?_
  obtain ⟨e22, hL22, hA22⟩ := h
  refine st_env (ρ' := [(0, .pointer (some ⟨bi1, 0, none⟩)), (4, .slice none 0 0), (5, .int .i64 0), (6, .slice none 0 0), (7, .int .i64 0), (14, v5), (15, .int .i64 (a1.length : Int)), (16, .int .i64 0)]) ⟨rfl, rfl, rfl, rfl, rfl, rfl, rfl, rfl, trivial⟩ ?_
  refine st_addNil ?_
  refine st_loop hL22 (fun (s22 : List (List Int) × Int) ρ τ22 gs => σ.Le τ22 ∧ ∃ (v23 : Value) (g24 : Grp), ρ = [(0, .pointer (some ⟨bi1, 0, none⟩)), (4, .slice none 0 0), (5, .int .i64 0), (6, v23), (7, .int .i64 0), (14, v5), (15, .int .i64 (a1.length : Int)), (16, .int .i64 s22.2)] ∧ gs = [g24] ∧ Ow (kSl (kI .u8)) 45 τ22 v23 s22.1 g24) ⟨Sto.Le.refl _, _, _, rfl, rfl, Ow.nil⟩ ?_
  rintro s22 o22 h he22 ρ22 τ22 gs22 ⟨hl22, v23, g24, rfl, rfl, ho25⟩ hn22
  refine st_seq ?_
  refine st_region ?_
  refine o_ibin (v := .bool (decide (s22.2 < (a1.length : Int)))) rfl rfl rfl rfl rfl rfl ?_
  refine st_end ?_
  refine st_seq ?_
  refine st_cond rfl (fun hc => ?_) (fun hc => ?_)
  · replace h := (if_pos hc).mp h
    refine st_skip ?_
    refine st_seq ?_
    refine st_block ?_
    refine st_seq ?_
    refine st_region ?_
    obtain ⟨q26, hf27, h⟩ := h
    refine o_index rfl rfl rfl z_slT99 rfl rfl (hs6.up hl22) rfl hf27 (fun b28 of29 vs hc31 hrep => ?_)
    obtain ⟨_, _, rfl, ⟨_, _, rfl, rfl, ⟨_, _, rfl, rfl, ⟨_, _, rfl, rfl, ⟨_, _, rfl, rfl, rfl⟩⟩⟩⟩, ⟨v30, rfl, hs32⟩⟩ := hrep
    refine o_loadIN (vs := [.int .i64 q26.1.1, .int .i64 q26.1.2.1, .int .u32 q26.1.2.2.1, .int .i64 q26.1.2.2.2.1, .int .i64 q26.1.2.2.2.2, v30]) rfl rfl rfl z_agg47 rfl rfl (celn_part 0 rfl hc31) ?_
    refine o_alloc rfl rfl rfl z_zero47 (fun b33 => ?_)
    refine o_store (j := 0) (vs := [.int .i64 q26.1.1, .int .i64 q26.1.2.1, .int .u32 q26.1.2.2.1, .int .i64 q26.1.2.2.2.1, .int .i64 q26.1.2.2.2.2, v30]) (cs' := [.int .i64 q26.1.1, .int .i64 q26.1.2.1, .int .u32 q26.1.2.2.1, .int .i64 q26.1.2.2.2.1, .int .i64 q26.1.2.2.2.2, v30]) rfl rfl rfl z_size47 rfl rfl rfl (ones_cons rfl (ones_cons rfl (ones_cons rfl (ones_cons rfl (ones_cons rfl (ones_cons hs32.one' ones_nil)))))) rfl rfl rfl ?_
    refine st_gs [[(b33, .cells [.int .i64 q26.1.1, .int .i64 q26.1.2.1, .int .u32 q26.1.2.2.1, .int .i64 q26.1.2.2.2.1, .int .i64 q26.1.2.2.2.2, v30].toArray 47 (0, 0))], g24] rfl ?_
    refine st_end ?_
    refine st_seq ?_
    refine st_region ?_
    refine o_move rfl rfl rfl rfl ?_
    refine o_loadN (j := 0) (vs := [.int .i64 q26.1.1, .int .i64 q26.1.2.1, .int .u32 q26.1.2.2.1, .int .i64 q26.1.2.2.2.1, .int .i64 q26.1.2.2.2.2, v30]) rfl rfl rfl z_agg47 rfl rfl rfl ?_
    obtain ⟨r34, hr35, h⟩ := h
    refine st_call (foot := []) rfl rfl rfl rfl rfl rfl (callV_fn z_en34 (frame_Codec_Segment_ok hr35 τ22 (hc4.up hl22) (hc2.up hl22) hs32)) ?_
    rintro vτ36 τ36 gsτ36 hl37 ⟨v38, rfl, rfl, hs39⟩
    refine o_move rfl rfl rfl rfl ?_
    refine o_extract rfl rfl rfl rfl rfl ?_
    refine o_extract rfl rfl rfl rfl rfl ?_
    refine o_assign rfl rfl rfl rfl ?_
    refine o_assign rfl rfl rfl rfl ?_
    refine st_end ?_
    refine st_seq ?_
    refine st_seq ?_
    refine st_region ?_
    refine o_move rfl rfl rfl rfl ?_
    refine o_ibin (v := .bool (!(decide (r34.2 = 0)))) rfl rfl rfl rfl rfl rfl ?_
    refine st_end ?_
    refine st_cond rfl (fun hc => ?_) (fun hc => ?_)
    · replace h := (if_pos hc).mp h
      refine st_seq ?_
      refine st_region ?_
      refine o_move rfl rfl rfl rfl ?_
      refine o_assign rfl rfl rfl rfl ?_
      refine o_assign rfl rfl rfl rfl ?_
      refine st_end ?_
      refine st_exit rfl ?_
      obtain rfl := he22 _ h
      replace h := hA22
      refine st_env (ρ' := [(4, .slice none 0 0), (5, .int .i64 0), (6, .slice none 0 0), (7, .int .i64 r34.2)]) ⟨rfl, rfl, rfl, rfl, trivial⟩ ?_
      refine st_addNil ?_
      refine st_ord [0] [[]] rfl ?_
      exact hk7 _ _ _ ⟨([], r34.2), _, _, h, (hl22.trans hl37), rfl, rfl, Ow.nil⟩
    · replace h := (if_neg (ne_t hc)).mp h
      refine st_skip ?_
      refine st_region ?_
      refine o_move rfl rfl rfl rfl ?_
      refine o_move rfl rfl rfl rfl ?_
      refine o_lit (dk := (kSl (kI .u8))) (xs := [r34.1]) (ps := [(0, [v38])]) (cs := [v38]) rfl rfl rfl z_slT100 z_zero45 ⟨rfl, ⟨_, rfl, (oneL_sl hs39)⟩, trivial⟩ rfl rfl rfl rfl (Kd.Many.cons (a := [v38]) ⟨_, rfl, hs39⟩ Kd.Many.nil) (fun v40 g41 ho42 => ?_)
      obtain ⟨hf46, h⟩ := h
      obtain ⟨hf47, h⟩ := h
      refine st_ord [2, 0, 0] [g24, g41, [(b33, .cells [.int .i64 q26.1.1, .int .i64 q26.1.2.1, .int .u32 q26.1.2.2.1, .int .i64 q26.1.2.2.2.1, .int .i64 q26.1.2.2.2.2, v30].toArray 47 (0, 0))]] rfl ?_
      refine o_append (dk := (kSl (kI .u8))) (xs := s22.1) (ys := [r34.1]) rfl rfl rfl rfl z_slT100 rfl (ho25.up hl37) rfl (Ow.src (j := 1) ho42 rfl) hf46 hf47 (fun v43 g44 ho45 => ?_)
      refine o_assign rfl rfl rfl rfl ?_
      refine st_end ?_
      refine st_inBlock ?_
      refine st_region ?_
      refine o_ibin (v := .int .i64 (IntKind.i64.wrap (s22.2 + 1))) rfl rfl rfl rfl rfl rfl ?_
      refine o_move rfl rfl rfl rfl ?_
      refine st_end ?_
      refine st_env (ρ' := [(0, .pointer (some ⟨bi1, 0, none⟩)), (4, .slice none 0 0), (5, .int .i64 0), (6, v43), (7, .int .i64 0), (14, v5), (15, .int .i64 (a1.length : Int)), (16, .int .i64 (IntKind.i64.wrap (s22.2 + 1)))]) ⟨rfl, rfl, rfl, rfl, rfl, rfl, rfl, rfl, trivial⟩ ?_
      refine st_ord [0] [g44] rfl ?_
      exact hn22 _ _ _ _ h ⟨(hl22.trans hl37), _, _, rfl, rfl, ho45⟩
  · replace h := (if_neg (ne_t hc)).mp h
    refine st_exit rfl ?_
    obtain rfl := he22 _ h
    replace h := hA22
    refine st_env (ρ' := [(4, .slice none 0 0), (5, .int .i64 0), (6, v23), (7, .int .i64 0)]) ⟨rfl, rfl, rfl, rfl, trivial⟩ ?_
    exact hk7 _ _ _ ⟨(s22.1, 0), _, _, h, hl22, rfl, rfl, ho25⟩
theorem cobs_Most_ok {a0 : Int} {r : Int} (h : cobs_Most a0 r) (σ : Sto)  :
    Does Try.prog 52 [.int .i64 a0] σ [] (fun v τ gs => gs = [] ∧ .int .i64 r = v) := by
  refine call_of Try.func52 Try.ntmps52 rfl rfl (fun cs fs => ?_)
  refine st_seq ?_
  refine st_region ?_
  refine o_assign rfl rfl rfl rfl ?_
  refine st_end ?_
  refine st_seq ?_
  refine st_seq ?_
  refine st_region ?_
  refine o_move rfl rfl rfl rfl ?_
  refine o_ibin (v := .bool (decide (a0 < 0))) rfl rfl rfl rfl rfl rfl ?_
  refine st_end ?_
  refine st_cond rfl (fun hc => ?_) (fun hc => ?_)
  · replace h := (if_pos hc).mp h
    refine st_seq ?_
    refine st_region ?_
    refine o_assign rfl rfl rfl rfl ?_
    refine st_end ?_
    obtain rfl := Eq.symm h
    exact st_ret (gs' := []) Try.func52 rfl (List.Sublist.refl _) (Sto.Le.refl _) ⟨rfl, rfl⟩
  · replace h := (if_neg (ne_t hc)).mp h
    refine st_skip ?_
    refine st_seq ?_
    refine st_region ?_
    refine o_move rfl rfl rfl rfl ?_
    refine o_quo rfl rfl rfl rfl rfl (by decide) ?_
    refine o_assign rfl rfl rfl rfl ?_
    refine st_end ?_
    refine st_seq ?_
    refine st_cut (fun ρ τ1 gs => ∃ (s1 : Int), cobs_Most_j1 a0 s1 r ∧ σ.Le τ1 ∧ ρ = [(0, .int .i64 a0), (2, .int .i64 0), (3, .int .i64 s1)] ∧ gs = []) ?_ (fun hk1 => ?_)
    · rintro ρ1 τ1 gs1 ⟨s1, h, hl1, rfl, rfl⟩
      refine st_seq ?_
      refine st_region ?_
      refine o_move rfl rfl rfl rfl ?_
      refine o_move rfl rfl rfl rfl ?_
      refine o_max2 rfl rfl rfl rfl rfl ?_
      refine o_ibin (v := .int .i64 (IntKind.i64.wrap (a0 + (max s1 1)))) rfl rfl rfl rfl rfl rfl ?_
      refine o_assign rfl rfl rfl rfl ?_
      refine st_end ?_
      obtain rfl := Eq.symm h
      exact st_ret (gs' := []) Try.func52 rfl (List.Sublist.refl _) hl1 ⟨rfl, rfl⟩
    refine st_seq ?_
    refine st_region ?_
    refine o_move rfl rfl rfl rfl ?_
    refine o_rem rfl rfl rfl rfl rfl (by decide) ?_
    refine o_ibin (v := .bool (!(decide ((a0.tmod 254) = 0)))) rfl rfl rfl rfl rfl rfl ?_
    refine st_end ?_
    refine st_cond rfl (fun hc => ?_) (fun hc => ?_)
    · replace h := (if_pos hc).mp h
      refine st_region ?_
      refine o_move rfl rfl rfl rfl ?_
      refine o_ibin (v := .int .i64 (IntKind.i64.wrap ((IntKind.i64.wrap (a0.tdiv 254)) + 1))) rfl rfl rfl rfl rfl rfl ?_
      refine o_assign rfl rfl rfl rfl ?_
      refine st_end ?_
      refine st_env (ρ' := [(0, .int .i64 a0), (2, .int .i64 0), (3, .int .i64 (IntKind.i64.wrap ((IntKind.i64.wrap (a0.tdiv 254)) + 1)))]) ⟨rfl, rfl, rfl, trivial⟩ ?_
      exact hk1 _ _ _ ⟨(IntKind.i64.wrap ((IntKind.i64.wrap (a0.tdiv 254)) + 1)), h, (Sto.Le.refl _), rfl, rfl⟩
    · replace h := (if_neg (ne_t hc)).mp h
      refine st_skip ?_
      refine st_env (ρ' := [(0, .int .i64 a0), (2, .int .i64 0), (3, .int .i64 (IntKind.i64.wrap (a0.tdiv 254)))]) ⟨rfl, rfl, rfl, trivial⟩ ?_
      exact hk1 _ _ _ ⟨(IntKind.i64.wrap (a0.tdiv 254)), h, (Sto.Le.refl _), rfl, rfl⟩
theorem frame_Wire_ok {a0 : Int} {r : Int} (h : frame_Wire a0 r) (σ : Sto)  :
    Does Try.prog 23 [.int .i64 a0] σ [] (fun v τ gs => gs = [] ∧ .int .i64 r = v) := by
  refine call_of Try.func23 Try.ntmps23 rfl rfl (fun cs fs => ?_)
  refine st_seq ?_
  refine st_region ?_
  refine o_assign rfl rfl rfl rfl ?_
  refine st_end ?_
  refine st_seq ?_
  refine st_seq ?_
  refine st_cut (fun ρ τ1 gs => ∃ (s1 : Bool), frame_Wire_j1 a0 s1 r ∧ σ.Le τ1 ∧ ρ = [(0, .int .i64 a0), (2, .int .i64 0), (8, .bool s1)] ∧ gs = []) ?_ (fun hk1 => ?_)
  · rintro ρ1 τ1 gs1 ⟨s1, h, hl1, rfl, rfl⟩
    refine st_cond rfl (fun hc => ?_) (fun hc => ?_)
    · replace h := (if_pos hc).mp h
      refine st_seq ?_
      refine st_region ?_
      refine o_assign rfl rfl rfl rfl ?_
      refine st_end ?_
      obtain rfl := Eq.symm h
      exact st_ret (gs' := []) Try.func23 rfl (List.Sublist.refl _) hl1 ⟨rfl, rfl⟩
    · replace h := (if_neg (ne_t hc)).mp h
      refine st_skip ?_
      refine st_seq ?_
      refine st_region ?_
      refine o_move rfl rfl rfl rfl ?_
      refine o_ibin (v := .int .i64 (IntKind.i64.wrap (a0 + 12))) rfl rfl rfl rfl rfl rfl ?_
      obtain ⟨r2, hr3, h⟩ := h
      refine st_call (foot := []) rfl rfl rfl rfl rfl rfl (callV_fn z_en52 (cobs_Most_ok hr3 τ1)) ?_
      rintro vτ4 τ4 gsτ4 hl5 ⟨rfl, rfl⟩
      refine o_ibin (v := .int .i64 (IntKind.i64.wrap (r2 + 2))) rfl rfl rfl rfl rfl rfl ?_
      refine o_assign rfl rfl rfl rfl ?_
      refine st_end ?_
      obtain rfl := Eq.symm h
      exact st_ret (gs' := []) Try.func23 rfl (List.Sublist.refl _) (hl1.trans hl5) ⟨rfl, rfl⟩
  refine st_region ?_
  refine o_move rfl rfl rfl rfl ?_
  refine o_ibin (v := .bool (decide (a0 < 1))) rfl rfl rfl rfl rfl rfl ?_
  refine o_moveB rfl rfl rfl rfl (fun hc => ?_) (fun hc => ?_)
  · replace h := (if_pos hc).mp h
    refine st_pass rfl rfl rfl rfl rfl rfl ?_
    refine st_pass rfl rfl rfl rfl rfl rfl ?_
    refine o_pick rfl rfl rfl rfl rfl ?_
    refine st_end ?_
    refine st_env (ρ' := [(0, .int .i64 a0), (2, .int .i64 0), (8, .bool true)]) ⟨rfl, rfl, rfl, trivial⟩ ?_
    exact hk1 _ _ _ ⟨true, h, (Sto.Le.refl _), rfl, rfl⟩
  · replace h := (if_neg (ne_t hc)).mp h
    refine o_move rfl rfl rfl rfl ?_
    refine o_ibin (v := .bool (decide (242 < a0))) rfl rfl rfl rfl rfl rfl ?_
    refine o_pick rfl rfl rfl rfl rfl ?_
    refine st_end ?_
    refine st_env (ρ' := [(0, .int .i64 a0), (2, .int .i64 0), (8, .bool (decide (242 < a0)))]) ⟨rfl, rfl, rfl, trivial⟩ ?_
    exact hk1 _ _ _ ⟨(decide (242 < a0)), h, (Sto.Le.refl _), rfl, rfl⟩
theorem frame_Room_ok {a0 : Int} {r : Int} (h : frame_Room a0 r) (σ : Sto)  :
    Does Try.prog 24 [.int .i64 a0] σ [] (fun v τ gs => gs = [] ∧ .int .i64 r = v) := by
  refine call_of Try.func24 Try.ntmps24 rfl rfl (fun cs fs => ?_)
  refine st_seq ?_
  refine st_region ?_
  refine o_assign rfl rfl rfl rfl ?_
  refine st_end ?_
  refine st_seq ?_
  refine st_seq ?_
  refine st_region ?_
  refine o_move rfl rfl rfl rfl ?_
  obtain ⟨r1, hr2, h⟩ := h
  refine st_call (foot := []) rfl rfl rfl rfl rfl rfl (callV_fn z_en23 (frame_Wire_ok hr2 σ)) ?_
  rintro vτ3 τ3 gsτ3 hl4 ⟨rfl, rfl⟩
  refine o_ibin (v := .bool (decide (a0 < r1))) rfl rfl rfl rfl rfl rfl ?_
  refine st_end ?_
  refine st_cond rfl (fun hc => ?_) (fun hc => ?_)
  · replace h := (if_pos hc).mp h
    refine st_seq ?_
    refine st_region ?_
    refine o_assign rfl rfl rfl rfl ?_
    refine st_end ?_
    obtain rfl := Eq.symm h
    exact st_ret (gs' := []) Try.func24 rfl (List.Sublist.refl _) hl4 ⟨rfl, rfl⟩
  · replace h := (if_neg (ne_t hc)).mp h
    refine st_skip ?_
    refine st_seq ?_
    refine st_region ?_
    refine o_move rfl rfl rfl rfl ?_
    obtain ⟨r5, hr6, h⟩ := h
    refine st_call (foot := []) rfl rfl rfl rfl rfl rfl (callV_fn z_en23 (frame_Wire_ok hr6 τ3)) ?_
    rintro vτ7 τ7 gsτ7 hl8 ⟨rfl, rfl⟩
    refine o_ibin (v := .int .i64 (IntKind.i64.wrap (a0 - r5))) rfl rfl rfl rfl rfl rfl ?_
    refine o_ibin (v := .int .i64 (IntKind.i64.wrap ((IntKind.i64.wrap (a0 - r5)) + 1))) rfl rfl rfl rfl rfl rfl ?_
    refine o_min2 rfl rfl rfl rfl rfl ?_
    refine o_assign rfl rfl rfl rfl ?_
    refine st_end ?_
    obtain rfl := Eq.symm h
    exact st_ret (gs' := []) Try.func24 rfl (List.Sublist.refl _) (hl4.trans hl8) ⟨rfl, rfl⟩
theorem law08_known_ok  {r : Bool} (h : law08_known r) (σ : Sto)  :
    Does Try.prog 25 [] σ [] (fun v τ gs => gs = [] ∧ .bool r = v) := by
  refine call_of Try.func25 Try.ntmps25 rfl rfl (fun cs fs => ?_)
  refine st_seq ?_
  refine st_region ?_
  refine o_assign rfl rfl rfl rfl ?_
  refine st_end ?_
  refine st_seq ?_
  refine st_region ?_
  refine o_build (ps := [(0, [.int .i64 1]), (1, [.int .i64 1]), (4, [.int .i64 1])]) (cs := [.int .i64 1, .int .i64 1, .int .u32 0, .int .i64 0, .int .i64 1]) rfl rfl rfl z_struct44 ⟨rfl, ⟨_, rfl, rfl⟩, ⟨rfl, ⟨_, rfl, rfl⟩, ⟨rfl, ⟨_, rfl, rfl⟩, trivial⟩⟩⟩ rfl ?_
  refine o_lit (dk := (kI .u8)) (xs := [7]) (ps := [(0, [.int .u8 7])]) (cs := [.int .u8 7]) rfl rfl rfl z_slT45 z_zero5 ⟨rfl, ⟨_, rfl, rfl⟩, trivial⟩ rfl rfl rfl rfl (Kd.Many.cons (a := [.int .u8 7]) rfl Kd.Many.nil) (fun v1 g2 ho3 => ?_)
  refine o_build (ps := [(0, [.int .i64 1, .int .i64 1, .int .u32 0, .int .i64 0, .int .i64 1]), (1, [v1])]) (cs := [.int .i64 1, .int .i64 1, .int .u32 0, .int .i64 0, .int .i64 1, v1]) rfl rfl rfl z_struct47 ⟨rfl, ⟨_, rfl, rfl⟩, ⟨rfl, ⟨_, rfl, (oneL_ow ho3)⟩, trivial⟩⟩ rfl ?_
  refine o_alloc rfl rfl rfl z_zero47 (fun b4 => ?_)
  refine o_store (j := 0) (vs := [.int .i64 1, .int .i64 1, .int .u32 0, .int .i64 0, .int .i64 1, v1]) (cs' := [.int .i64 1, .int .i64 1, .int .u32 0, .int .i64 0, .int .i64 1, v1]) rfl rfl rfl z_size47 rfl rfl rfl (ones_cons rfl (ones_cons rfl (ones_cons rfl (ones_cons rfl (ones_cons rfl (ones_cons ho3.one' ones_nil)))))) rfl rfl rfl ?_
  refine st_gs [[(b4, .cells [.int .i64 1, .int .i64 1, .int .u32 0, .int .i64 0, .int .i64 1, v1].toArray 47 (0, 0))], g2] rfl ?_
  refine st_end ?_
  refine st_seq ?_
  obtain ⟨r11, hr12, h⟩ := h
  obtain ⟨r29, hr30, h⟩ := h
  refine st_ord [1, 0] [g2, [(b4, .cells [.int .i64 1, .int .i64 1, .int .u32 0, .int .i64 0, .int .i64 1, v1].toArray 47 (0, 0))]] rfl ?_
  refine st_freeze (fun τ5 hl6 hg7 => ?_)
  have hs8 := ho3.freeze hl6 hg7
  refine st_draw2 (gs := [[(b4, .cells [.int .i64 1, .int .i64 1, .int .u32 0, .int .i64 0, .int .i64 1, v1].toArray 47 (0, 0))]]) (F0 := []) 8 2 (tlS [none, none, some 0, some 1, none, none, none, none]) (tlN [0, 10, 11]) (tl [fun τ v => ∃ (bi17 : Nat) (bi15 : Nat), (.pointer (some ⟨bi15, 0, none⟩) : Value) = v ∧ CelN τ ⟨bi17, 0, none⟩ (cellsN (Value.int .u32) 0 1024 r11) ∧ CelN τ ⟨bi15, 0, none⟩ [.pointer (some ⟨bi17, 0, none⟩)],
    fun τ v => (.agg [.int .i64 1, .int .i64 1, .int .u32 0, .int .i64 0, .int .i64 1, v1].toArray : Value) = v,
    fun _ _ => True,
    fun τ v => ∃ (v33 : Value), (.tuple [v33, .int .i64 r29.2].toArray : Value) = v ∧ Sl (kI .u8) τ v33 r29.1,
    fun τ v => ∃ (v33 : Value), (.tuple [v33, .int .i64 r29.2].toArray : Value) = v ∧ Sl (kI .u8) τ v33 r29.1,
    fun τ v => ∃ (v33 : Value), (v33 : Value) = v ∧ Sl (kI .u8) τ v33 r29.1,
    fun τ v => (.int .i64 r29.2 : Value) = v,
    fun τ v => ∃ (v33 : Value), (v33 : Value) = v ∧ Sl (kI .u8) τ v33 r29.1]) (tlI [fun τ u F => F = [],
    fun τ u F => ∃ (v22 : Value) (g23 : Grp), F = [g23] ∧ v22 = u ∧ Ow (kP (kP (kI .i64) (kP (kI .i64) (kP (kI .u32) (kP (kI .i64) (kI .i64))))) (kSl (kI .u8))) 47 τ v22 [((1, 1, 0, 0, 1), [7])] g23,
    fun τ u F => F = []]) z_mix rfl (tl_mono ⟨fun _ _ _ hl ⟨bi17, bi15, hv, hc18, hc16⟩ => ⟨bi17, bi15, hv, hc18.up hl, hc16.up hl⟩, ⟨fun _ _ _ _ h => h, ⟨fun _ _ _ _ _ => trivial, ⟨fun _ _ _ hl ⟨v33, hv, hs34⟩ => ⟨v33, hv, hs34.up hl⟩, ⟨fun _ _ _ hl ⟨v33, hv, hs34⟩ => ⟨v33, hv, hs34.up hl⟩, ⟨fun _ _ _ hl ⟨v33, hv, hs34⟩ => ⟨v33, hv, hs34.up hl⟩, ⟨fun _ _ _ _ h => h, ⟨fun _ _ _ hl ⟨v33, hv, hs34⟩ => ⟨v33, hv, hs34.up hl⟩, trivial⟩⟩⟩⟩⟩⟩⟩⟩) (tlI_mono ⟨fun _ _ _ _ hl h => h, ⟨fun _ _ _ _ hl h => (let ⟨v22, g23, hF, hU, ho24⟩ := h; ⟨v22, g23, hF, hU, ho24.up hl⟩), ⟨fun _ _ _ _ hl h => h, trivial⟩⟩⟩) rfl (rowSd rfl) rfl (allB_cons (allB_cons (allB_cons (allB_cons (allB_cons (allB_cons (allB_cons (allB_cons allB_nil ?_) ?_) ?_) ?_) ?_) ?_) ?_) ?_) ?_
  · intro ρ' τ Fv rs hl hd hout hk
    refine st_flat (gs := [[(b4, .cells [.int .i64 1, .int .i64 1, .int .u32 0, .int .i64 0, .int .i64 1, v1].toArray 47 (0, 0))]]) (fun pool hp => ?_)
    refine st_call (foot := []) rfl rfl rfl rfl rfl rfl (callV_fn z_en20 (frame_New_ok hr12 τ)) ?_
    rintro vτ13 τ13 gsτ13 hl14 ⟨bi17, bi15, rfl, rfl, hc18, hc16⟩
    exact st_unflat (gs := [[(b4, .cells [.int .i64 1, .int .i64 1, .int .u32 0, .int .i64 0, .int .i64 1, v1].toArray 47 (0, 0))]]) hp (hk _ _ hl14 ⟨bi17, bi15, rfl, hc18, hc16⟩)
  · intro ρ' τ Fv rs hl hd hout hk
    refine st_flat (gs := [[(b4, .cells [.int .i64 1, .int .i64 1, .int .u32 0, .int .i64 0, .int .i64 1, v1].toArray 47 (0, 0))]]) (fun pool hp => ?_)
    refine o_loadN (j := 0) (vs := [.int .i64 1, .int .i64 1, .int .u32 0, .int .i64 0, .int .i64 1, v1]) rfl rfl rfl z_agg47 ((hout 1 rfl).trans rfl) rfl rfl ?_
    exact st_unflat (gs := [[(b4, .cells [.int .i64 1, .int .i64 1, .int .u32 0, .int .i64 0, .int .i64 1, v1].toArray 47 (0, 0))]]) hp (hk _ _ (Sto.Le.refl _) rfl)
  · intro ρ' τ u Fv rs hl hI hu hd hout hk
    obtain ⟨_, e1, rfl⟩ := hd 1 rfl
    have hI0 := hI
    obtain rfl := hI
    refine st_gs [[(b4, .cells [.int .i64 1, .int .i64 1, .int .u32 0, .int .i64 0, .int .i64 1, v1].toArray 47 (0, 0))]] rfl ?_
    refine o_lit (dk := (kP (kP (kI .i64) (kP (kI .i64) (kP (kI .u32) (kP (kI .i64) (kI .i64))))) (kSl (kI .u8)))) (xs := [((1, 1, 0, 0, 1), [7])]) (ps := [(0, [.int .i64 1, .int .i64 1, .int .u32 0, .int .i64 0, .int .i64 1, v1])]) (cs := [.int .i64 1, .int .i64 1, .int .u32 0, .int .i64 0, .int .i64 1, v1]) rfl rfl rfl z_slT99 z_zero47 ⟨rfl, ⟨_, e1, rfl⟩, trivial⟩ rfl rfl rfl rfl (Kd.Many.cons (a := [.int .i64 1, .int .i64 1, .int .u32 0, .int .i64 0, .int .i64 1, v1]) ⟨[.int .i64 1, .int .i64 1, .int .u32 0, .int .i64 0, .int .i64 1], _, rfl, ⟨[.int .i64 1], _, rfl, rfl, ⟨[.int .i64 1], _, rfl, rfl, ⟨[.int .u32 0], _, rfl, rfl, ⟨[.int .i64 0], _, rfl, rfl, rfl⟩⟩⟩⟩, ⟨_, rfl, (hs8.up hl)⟩⟩ Kd.Many.nil) (fun v19 g20 ho21 => ?_)
    refine st_ord [1, 0] [[(b4, .cells [.int .i64 1, .int .i64 1, .int .u32 0, .int .i64 0, .int .i64 1, v1].toArray 47 (0, 0))], g20] rfl ?_
    exact hk _ _ [g20] (Sto.Le.refl _) trivial ⟨v19, g20, rfl, rfl, ho21⟩
  · intro ρ' τ u Fv rs hl hI hu hd hout hk
    obtain ⟨_, e0, bi17, bi15, rfl, hc18, hc16⟩ := hd 0 rfl
    obtain ⟨v22, g23, rfl, rfl, ho24⟩ := hI
    refine st_gs [[(b4, .cells [.int .i64 1, .int .i64 1, .int .u32 0, .int .i64 0, .int .i64 1, v1].toArray 47 (0, 0))], g23] rfl ?_
    refine st_ord [1, 0] [g23, [(b4, .cells [.int .i64 1, .int .i64 1, .int .u32 0, .int .i64 0, .int .i64 1, v1].toArray 47 (0, 0))]] rfl ?_
    refine st_freeze (fun τ25 hl26 hg27 => ?_)
    have hs28 := ho24.freeze hl26 hg27
    refine st_call (foot := []) rfl rfl rfl rfl (evs_cons e0 (evs_cons (hu (by decide)) rfl)) rfl (callV_fn z_en22 (frame_Codec_Pack_ok hr30 τ25 (hc18.up hl26) (hc16.up hl26) hs28)) ?_
    rintro vτ31 τ31 gsτ31 hl32 ⟨v33, rfl, rfl, hs34⟩
    exact hk _ _ [] (hl26.trans hl32) ⟨v33, rfl, hs34⟩ rfl
  · intro ρ' τ Fv rs hl hd hout hk
    obtain ⟨_, e3, v33, rfl, hs34⟩ := hd 3 rfl
    refine st_flat (gs := [[(b4, .cells [.int .i64 1, .int .i64 1, .int .u32 0, .int .i64 0, .int .i64 1, v1].toArray 47 (0, 0))]]) (fun pool hp => ?_)
    refine o_move rfl rfl rfl e3 ?_
    exact st_unflat (gs := [[(b4, .cells [.int .i64 1, .int .i64 1, .int .u32 0, .int .i64 0, .int .i64 1, v1].toArray 47 (0, 0))]]) hp (hk _ _ (Sto.Le.refl _) ⟨v33, rfl, hs34⟩)
  · intro ρ' τ Fv rs hl hd hout hk
    obtain ⟨_, e4, v33, rfl, hs34⟩ := hd 4 rfl
    refine st_flat (gs := [[(b4, .cells [.int .i64 1, .int .i64 1, .int .u32 0, .int .i64 0, .int .i64 1, v1].toArray 47 (0, 0))]]) (fun pool hp => ?_)
    refine o_extract rfl rfl rfl e4 rfl ?_
    exact st_unflat (gs := [[(b4, .cells [.int .i64 1, .int .i64 1, .int .u32 0, .int .i64 0, .int .i64 1, v1].toArray 47 (0, 0))]]) hp (hk _ _ (Sto.Le.refl _) ⟨v33, rfl, hs34⟩)
  · intro ρ' τ Fv rs hl hd hout hk
    obtain ⟨_, e4, v33, rfl, hs34⟩ := hd 4 rfl
    refine st_flat (gs := [[(b4, .cells [.int .i64 1, .int .i64 1, .int .u32 0, .int .i64 0, .int .i64 1, v1].toArray 47 (0, 0))]]) (fun pool hp => ?_)
    refine o_extract rfl rfl rfl e4 rfl ?_
    exact st_unflat (gs := [[(b4, .cells [.int .i64 1, .int .i64 1, .int .u32 0, .int .i64 0, .int .i64 1, v1].toArray 47 (0, 0))]]) hp (hk _ _ (Sto.Le.refl _) rfl)
  · intro ρ' τ Fv rs hl hd hout hk
    obtain ⟨_, e5, v33, rfl, hs34⟩ := hd 5 rfl
    refine st_flat (gs := [[(b4, .cells [.int .i64 1, .int .i64 1, .int .u32 0, .int .i64 0, .int .i64 1, v1].toArray 47 (0, 0))]]) (fun pool hp => ?_)
    refine o_assign rfl rfl rfl e5 ?_
    exact st_unflat (gs := [[(b4, .cells [.int .i64 1, .int .i64 1, .int .u32 0, .int .i64 0, .int .i64 1, v1].toArray 47 (0, 0))]]) hp (hk _ _ (Sto.Le.refl _) ⟨v33, rfl, hs34⟩)
  intro ρ' τ35 vals u Fv hl35 hI hu hv hout
  have l6 : Eng.look ρ' 13 = some (.int .i64 r29.2) := (hv 6 (by decide)).1.trans (congrArg some (show vals 6 = .int .i64 r29.2 from Eq.symm (hv 6 (by decide)).2))
  obtain ⟨l7, v33, t7, hs34⟩ := hv 7 (by decide)
  replace l7 : Eng.look ρ' 2 = some (v33) := l7.trans (congrArg some (Eq.symm t7))
  obtain rfl := hI
  refine st_gs [[(b4, .cells [.int .i64 1, .int .i64 1, .int .u32 0, .int .i64 0, .int .i64 1, v1].toArray 47 (0, 0))]] rfl ?_
  refine st_env (ρ' := [(13, .int .i64 r29.2), (2, v33), (0, .bool false)]) ⟨l6, l7, (hout 0 rfl).trans rfl, trivial⟩ ?_
  refine o_assign rfl rfl rfl rfl ?_
  refine st_end ?_
  refine st_seq ?_
  refine st_cut (fun ρ τ36 gs => ∃ (s36 : Bool), law08_known_j1 s36 r ∧ τ35.Le τ36 ∧ ρ = [(0, .bool s36)] ∧ gs = []) ?_ (fun hk36 => ?_)
  · rintro ρ36 τ36 gs36 ⟨s36, h, hl36, rfl, rfl⟩
    obtain rfl := Eq.symm h
    exact st_ret (gs' := []) Try.func25 rfl (List.Sublist.refl _) ((hl6.trans hl35).trans hl36) ⟨rfl, rfl⟩
  refine st_region ?_
  refine o_move rfl rfl rfl rfl ?_
  refine o_ibin (v := .bool (decide (r29.2 = 0))) rfl rfl rfl rfl rfl rfl ?_
  refine o_moveB rfl rfl rfl rfl (fun hc => ?_) (fun hc => ?_)
  · replace h := (if_pos hc).mp h
    refine o_move rfl rfl rfl rfl ?_
    refine o_lenI rfl rfl rfl z_slT45 rfl hs34 ?_
    refine o_ibin (v := .bool (decide ((r29.1.length : Int) = 16))) rfl rfl rfl rfl rfl rfl ?_
    refine o_pick rfl rfl rfl rfl rfl ?_
    refine o_moveB rfl rfl rfl rfl (fun hc => ?_) (fun hc => ?_)
    · replace h := (if_pos hc).mp h
      obtain ⟨r37, hr38, h⟩ := h
      refine st_call (foot := []) rfl rfl rfl rfl rfl rfl (callV_fn z_en23 (frame_Wire_ok hr38 τ35)) ?_
      rintro vτ39 τ39 gsτ39 hl40 ⟨rfl, rfl⟩
      refine o_ibin (v := .bool (decide (r37 = 16))) rfl rfl rfl rfl rfl rfl ?_
      refine o_pick rfl rfl rfl rfl rfl ?_
      refine o_moveB rfl rfl rfl rfl (fun hc => ?_) (fun hc => ?_)
      · replace h := (if_pos hc).mp h
        obtain ⟨r41, hr42, h⟩ := h
        refine st_call (foot := []) rfl rfl rfl rfl rfl rfl (callV_fn z_en24 (frame_Room_ok hr42 τ39)) ?_
        rintro vτ43 τ43 gsτ43 hl44 ⟨rfl, rfl⟩
        refine o_ibin (v := .bool (decide (r41 = 1))) rfl rfl rfl rfl rfl rfl ?_
        refine o_pick rfl rfl rfl rfl rfl ?_
        refine o_moveB rfl rfl rfl rfl (fun hc => ?_) (fun hc => ?_)
        · replace h := (if_pos hc).mp h
          obtain ⟨r45, hr46, h⟩ := h
          refine st_call (foot := []) rfl rfl rfl rfl rfl rfl (callV_fn z_en24 (frame_Room_ok hr46 τ43)) ?_
          rintro vτ47 τ47 gsτ47 hl48 ⟨rfl, rfl⟩
          refine o_ibin (v := .bool (decide (r45 = 242))) rfl rfl rfl rfl rfl rfl ?_
          refine o_pick rfl rfl rfl rfl rfl ?_
          refine o_moveB rfl rfl rfl rfl (fun hc => ?_) (fun hc => ?_)
          · replace h := (if_pos hc).mp h
            obtain ⟨r49, hr50, h⟩ := h
            refine st_call (foot := []) rfl rfl rfl rfl rfl rfl (callV_fn z_en24 (frame_Room_ok hr50 τ47)) ?_
            rintro vτ51 τ51 gsτ51 hl52 ⟨rfl, rfl⟩
            refine o_ibin (v := .bool (decide (r49 = 0))) rfl rfl rfl rfl rfl rfl ?_
            refine o_pick rfl rfl rfl rfl rfl ?_
            refine o_assign rfl rfl rfl rfl ?_
            refine st_end ?_
            refine st_env (ρ' := [(0, .bool (decide (r49 = 0)))]) ⟨rfl, trivial⟩ ?_
            refine st_ord [] [] rfl ?_
            exact hk36 _ _ _ ⟨(decide (r49 = 0)), h, (((hl40.trans hl44).trans hl48).trans hl52), rfl, rfl⟩
          · replace h := (if_neg (ne_t hc)).mp h
            refine st_pass rfl rfl rfl rfl rfl rfl ?_
            refine st_pass rfl rfl rfl rfl rfl rfl ?_
            refine o_pick rfl rfl rfl rfl rfl ?_
            refine o_assign rfl rfl rfl rfl ?_
            refine st_end ?_
            refine st_env (ρ' := [(0, .bool false)]) ⟨rfl, trivial⟩ ?_
            refine st_ord [] [] rfl ?_
            exact hk36 _ _ _ ⟨false, h, ((hl40.trans hl44).trans hl48), rfl, rfl⟩
        · replace h := (if_neg (ne_t hc)).mp h
          refine st_pass rfl rfl rfl rfl rfl rfl ?_
          refine st_pass rfl rfl rfl rfl rfl rfl ?_
          refine o_pick rfl rfl rfl rfl rfl ?_
          refine o_move rfl rfl rfl rfl ?_
          refine st_pass rfl rfl rfl rfl rfl rfl ?_
          refine st_pass rfl rfl rfl rfl rfl rfl ?_
          refine o_pick rfl rfl rfl rfl rfl ?_
          refine o_assign rfl rfl rfl rfl ?_
          refine st_end ?_
          refine st_env (ρ' := [(0, .bool false)]) ⟨rfl, trivial⟩ ?_
          refine st_ord [] [] rfl ?_
          exact hk36 _ _ _ ⟨false, h, (hl40.trans hl44), rfl, rfl⟩
      · replace h := (if_neg (ne_t hc)).mp h
        refine st_pass rfl rfl rfl rfl rfl rfl ?_
        refine st_pass rfl rfl rfl rfl rfl rfl ?_
        refine o_pick rfl rfl rfl rfl rfl ?_
        refine o_move rfl rfl rfl rfl ?_
        refine st_pass rfl rfl rfl rfl rfl rfl ?_
        refine st_pass rfl rfl rfl rfl rfl rfl ?_
        refine o_pick rfl rfl rfl rfl rfl ?_
        refine o_move rfl rfl rfl rfl ?_
        refine st_pass rfl rfl rfl rfl rfl rfl ?_
        refine st_pass rfl rfl rfl rfl rfl rfl ?_
        refine o_pick rfl rfl rfl rfl rfl ?_
        refine o_assign rfl rfl rfl rfl ?_
        refine st_end ?_
        refine st_env (ρ' := [(0, .bool false)]) ⟨rfl, trivial⟩ ?_
        refine st_ord [] [] rfl ?_
        exact hk36 _ _ _ ⟨false, h, hl40, rfl, rfl⟩
    · replace h := (if_neg (ne_t hc)).mp h
      refine st_pass rfl rfl rfl rfl rfl rfl ?_
      refine st_pass rfl rfl rfl rfl rfl rfl ?_
      refine o_pick rfl rfl rfl rfl rfl ?_
      refine o_move rfl rfl rfl rfl ?_
      refine st_pass rfl rfl rfl rfl rfl rfl ?_
      refine st_pass rfl rfl rfl rfl rfl rfl ?_
      refine o_pick rfl rfl rfl rfl rfl ?_
      refine o_move rfl rfl rfl rfl ?_
      refine st_pass rfl rfl rfl rfl rfl rfl ?_
      refine st_pass rfl rfl rfl rfl rfl rfl ?_
      refine o_pick rfl rfl rfl rfl rfl ?_
      refine o_move rfl rfl rfl rfl ?_
      refine st_pass rfl rfl rfl rfl rfl rfl ?_
      refine st_pass rfl rfl rfl rfl rfl rfl ?_
      refine o_pick rfl rfl rfl rfl rfl ?_
      refine o_assign rfl rfl rfl rfl ?_
      refine st_end ?_
      refine st_env (ρ' := [(0, .bool false)]) ⟨rfl, trivial⟩ ?_
      refine st_ord [] [] rfl ?_
      exact hk36 _ _ _ ⟨false, h, (Sto.Le.refl _), rfl, rfl⟩
  · replace h := (if_neg (ne_t hc)).mp h
    refine st_pass rfl rfl rfl rfl rfl rfl ?_
    refine st_pass rfl rfl rfl rfl rfl rfl ?_
    refine st_pass rfl rfl rfl rfl rfl rfl ?_
    refine o_pick rfl rfl rfl rfl rfl ?_
    refine o_move rfl rfl rfl rfl ?_
    refine st_pass rfl rfl rfl rfl rfl rfl ?_
    refine st_pass rfl rfl rfl rfl rfl rfl ?_
    refine o_pick rfl rfl rfl rfl rfl ?_
    refine o_move rfl rfl rfl rfl ?_
    refine st_pass rfl rfl rfl rfl rfl rfl ?_
    refine st_pass rfl rfl rfl rfl rfl rfl ?_
    refine o_pick rfl rfl rfl rfl rfl ?_
    refine o_move rfl rfl rfl rfl ?_
    refine st_pass rfl rfl rfl rfl rfl rfl ?_
    refine st_pass rfl rfl rfl rfl rfl rfl ?_
    refine o_pick rfl rfl rfl rfl rfl ?_
    refine o_move rfl rfl rfl rfl ?_
    refine st_pass rfl rfl rfl rfl rfl rfl ?_
    refine st_pass rfl rfl rfl rfl rfl rfl ?_
    refine o_pick rfl rfl rfl rfl rfl ?_
    refine o_assign rfl rfl rfl rfl ?_
    refine st_end ?_
    refine st_env (ρ' := [(0, .bool false)]) ⟨rfl, trivial⟩ ?_
    refine st_ord [] [] rfl ?_
    exact hk36 _ _ _ ⟨false, h, (Sto.Le.refl _), rfl, rfl⟩
theorem crc_Open_ok {a0 : List Int} {a1 : List Int} {bi1 : Nat} {v3 : Value} {r : List Int × Int} (h : crc_Open a0 a1 r) (σ : Sto) (hc2 : CelN σ ⟨bi1, 0, none⟩ (cellsN (Value.int .u32) 0 1024 a0)) (hs4 : Sl (kI .u8) σ v3 a1) :
    Does Try.prog 53 [.pointer (some ⟨bi1, 0, none⟩), v3] σ [] (fun v τ gs => ∃ (v52 : Value), gs = [] ∧ .tuple [v52, .int .i64 r.2].toArray = v ∧ Sl (kI .u8) τ v52 r.1) := by
  refine call_of Try.func53 Try.ntmps53 rfl rfl (fun cs fs => ?_)
  refine st_seq ?_
  refine st_region ?_
  refine o_assign rfl rfl rfl rfl ?_
  refine o_assign rfl rfl rfl rfl ?_
  refine st_end ?_
  refine st_seq ?_
  refine st_region ?_
  refine o_move rfl rfl rfl rfl ?_
  refine o_lenI rfl rfl rfl z_slT45 rfl hs4 ?_
  refine o_ibin (v := .int .i64 (IntKind.i64.wrap ((a1.length : Int) - 4))) rfl rfl rfl rfl rfl rfl ?_
  refine o_assign rfl rfl rfl rfl ?_
  refine st_end ?_
  refine st_seq ?_
  refine st_block ?_
  refine st_seq ?_
  refine st_region ?_
  refine o_move rfl rfl rfl rfl ?_
  refine o_ptrNil (b := false) rfl rfl rfl Try.underlying94 rfl rfl rfl ?_
  refine o_assign rfl rfl rfl rfl ?_
  refine st_end ?_
  refine st_condF rfl ?_
  refine st_seq ?_
  refine st_region ?_
  refine o_move rfl rfl rfl rfl ?_
  refine o_ibin (v := .bool (decide ((IntKind.i64.wrap ((a1.length : Int) - 4)) < 0))) rfl rfl rfl rfl rfl rfl ?_
  refine o_assign rfl rfl rfl rfl ?_
  refine st_end ?_
  refine st_cond rfl (fun hc => ?_) (fun hc => ?_)
  · replace h := (if_pos hc).mp h
    refine st_seq ?_
    refine st_region ?_
    refine o_assign rfl rfl rfl rfl ?_
    refine o_assign rfl rfl rfl rfl ?_
    refine st_end ?_
    obtain rfl := Eq.symm h
    exact st_ret (gs' := []) Try.func53 rfl (List.Sublist.refl _) (Sto.Le.refl _) ⟨_, rfl, rfl, Sl.nil⟩
  · replace h := (if_neg (ne_t hc)).mp h
    refine st_skip ?_
    refine st_inBlock ?_
    refine st_seq ?_
    refine st_region ?_
    refine o_move rfl rfl rfl rfl ?_
    refine o_move rfl rfl rfl rfl ?_
    refine o_move rfl rfl rfl rfl ?_
    obtain ⟨hf5, h⟩ := h
    obtain ⟨hf6, h⟩ := h
    obtain ⟨hf7, h⟩ := h
    obtain ⟨hf8, h⟩ := h
    refine o_slice (L := 0) (H := (IntKind.i64.wrap ((a1.length : Int) - 4))) rfl rfl rfl z_slT45 rfl rfl hs4 rfl ⟨_, rfl⟩ (by decide) hf5 hf6 ⟨_, _, rfl, hf7, hf8⟩ (by simp) (fun v9 hs10 => ?_)
    refine o_assign rfl rfl rfl rfl ?_
    refine st_end ?_
    refine st_seq ?_
    refine st_seq ?_
    obtain ⟨r21, hr22, h⟩ := h
    obtain ⟨r25, hr26, h⟩ := h
    obtain ⟨hf29, h⟩ := h
    obtain ⟨hf30, h⟩ := h
    obtain ⟨hf31, h⟩ := h
    obtain ⟨hf34, h⟩ := h
    refine st_draw2 (gs := []) (F0 := []) 11 2 (tlS [none, none, some 0, some 1, none, none, none, none, none, none, none]) (tlN [0, 23, 24]) (tl [fun τ v => (.pointer (some ⟨bi1, 0, none⟩) : Value) = v,
    fun τ v => (v9 : Value) = v,
    fun _ _ => True,
    fun τ v => (.int .u32 r21 : Value) = v,
    fun τ v => (.agg [.int .u8 (r25.getD 0 0), .int .u8 (r25.getD 1 0), .int .u8 (r25.getD 2 0), .int .u8 (r25.getD 3 0)].toArray : Value) = v,
    fun τ v => (v3 : Value) = v,
    fun τ v => (.int .i64 (IntKind.i64.wrap ((a1.length : Int) - 4)) : Value) = v,
    fun τ v => ∃ (v32 : Value), (v32 : Value) = v ∧ Sl (kI .u8) τ v32 ((a1.drop (IntKind.i64.wrap ((a1.length : Int) - 4)).toNat).take (((a1.length : Int) : Int) - (IntKind.i64.wrap ((a1.length : Int) - 4))).toNat),
    fun τ v => ∃ (b35 : Nat) (of36 : Nat) (vsb35 : List Value), (.pointer (some ⟨b35, of36, none⟩) : Value) = v ∧ CelN τ ⟨b35, of36, none⟩ vsb35 ∧ (kA .u8 4).rep τ vsb35 ((a1.drop (IntKind.i64.wrap ((a1.length : Int) - 4)).toNat).take (((a1.length : Int) : Int) - (IntKind.i64.wrap ((a1.length : Int) - 4))).toNat),
    fun τ v => (.agg [.int .u8 (((a1.drop (IntKind.i64.wrap ((a1.length : Int) - 4)).toNat).take (((a1.length : Int) : Int) - (IntKind.i64.wrap ((a1.length : Int) - 4))).toNat).getD 0 0), .int .u8 (((a1.drop (IntKind.i64.wrap ((a1.length : Int) - 4)).toNat).take (((a1.length : Int) : Int) - (IntKind.i64.wrap ((a1.length : Int) - 4))).toNat).getD 1 0), .int .u8 (((a1.drop (IntKind.i64.wrap ((a1.length : Int) - 4)).toNat).take (((a1.length : Int) : Int) - (IntKind.i64.wrap ((a1.length : Int) - 4))).toNat).getD 2 0), .int .u8 (((a1.drop (IntKind.i64.wrap ((a1.length : Int) - 4)).toNat).take (((a1.length : Int) : Int) - (IntKind.i64.wrap ((a1.length : Int) - 4))).toNat).getD 3 0)].toArray : Value) = v,
    fun τ v => (.bool (!(eqN 4 0 r25 ((a1.drop (IntKind.i64.wrap ((a1.length : Int) - 4)).toNat).take (((a1.length : Int) : Int) - (IntKind.i64.wrap ((a1.length : Int) - 4))).toNat))) : Value) = v]) (tlI [fun τ u F => F = [],
    fun τ u F => ∃ (v14 : Value) (g15 : Grp), F = [g15] ∧ v14 = u ∧ Ow (kSl (kI .u8)) 45 τ v14 [((a1.drop (0 : Int).toNat).take (((IntKind.i64.wrap ((a1.length : Int) - 4)) : Int) - 0).toNat)] g15,
    fun τ u F => F = []]) z_mix rfl (tl_mono ⟨fun _ _ _ _ h => h, ⟨fun _ _ _ _ h => h, ⟨fun _ _ _ _ _ => trivial, ⟨fun _ _ _ _ h => h, ⟨fun _ _ _ _ h => h, ⟨fun _ _ _ _ h => h, ⟨fun _ _ _ _ h => h, ⟨fun _ _ _ hl ⟨v32, hv, hs33⟩ => ⟨v32, hv, hs33.up hl⟩, ⟨fun _ _ _ hl ⟨b35, of36, vsb35, hv, hc37, hrepb35⟩ => ⟨b35, of36, vsb35, hv, hc37.up hl, Kd.mono _ hl hrepb35⟩, ⟨fun _ _ _ _ h => h, ⟨fun _ _ _ _ h => h, trivial⟩⟩⟩⟩⟩⟩⟩⟩⟩⟩⟩) (tlI_mono ⟨fun _ _ _ _ hl h => h, ⟨fun _ _ _ _ hl h => (let ⟨v14, g15, hF, hU, ho16⟩ := h; ⟨v14, g15, hF, hU, ho16.up hl⟩), ⟨fun _ _ _ _ hl h => h, trivial⟩⟩⟩) rfl (rowSd rfl) rfl (allB_cons (allB_cons (allB_cons (allB_cons (allB_cons (allB_cons (allB_cons (allB_cons (allB_cons (allB_cons (allB_cons allB_nil ?_) ?_) ?_) ?_) ?_) ?_) ?_) ?_) ?_) ?_) ?_) ?_
    · intro ρ' τ Fv rs hl hd hout hk
      refine st_flat (gs := []) (fun pool hp => ?_)
      refine o_move rfl rfl rfl ((hout 0 rfl).trans rfl) ?_
      exact st_unflat (gs := []) hp (hk _ _ (Sto.Le.refl _) rfl)
    · intro ρ' τ Fv rs hl hd hout hk
      refine st_flat (gs := []) (fun pool hp => ?_)
      refine o_move rfl rfl rfl ((hout 7 rfl).trans rfl) ?_
      exact st_unflat (gs := []) hp (hk _ _ (Sto.Le.refl _) rfl)
    · intro ρ' τ u Fv rs hl hI hu hd hout hk
      obtain ⟨_, e1, rfl⟩ := hd 1 rfl
      have hI0 := hI
      obtain rfl := hI
      refine st_gs [] rfl ?_
      refine o_lit (dk := (kSl (kI .u8))) (xs := [((a1.drop (0 : Int).toNat).take (((IntKind.i64.wrap ((a1.length : Int) - 4)) : Int) - 0).toNat)]) (ps := [(0, [v9])]) (cs := [v9]) rfl rfl rfl z_slT100 z_zero45 ⟨rfl, ⟨_, e1, (oneL_sl (hs10.up hl))⟩, trivial⟩ rfl rfl rfl rfl (Kd.Many.cons (a := [v9]) ⟨_, rfl, (hs10.up hl)⟩ Kd.Many.nil) (fun v11 g12 ho13 => ?_)
      exact hk _ _ [g12] (Sto.Le.refl _) trivial ⟨v11, g12, rfl, rfl, ho13⟩
    · intro ρ' τ u Fv rs hl hI hu hd hout hk
      obtain ⟨_, e0, rfl⟩ := hd 0 rfl
      obtain ⟨v14, g15, rfl, rfl, ho16⟩ := hI
      refine st_gs [g15] rfl ?_
      refine st_freeze (fun τ17 hl18 hg19 => ?_)
      have hs20 := ho16.freeze hl18 hg19
      refine st_call (foot := []) rfl rfl rfl rfl (evs_cons e0 (evs_cons (hu (by decide)) rfl)) rfl (callV_fn z_en77 (crc_Table_Sum_ok hr22 τ17 (hc2.up (hl.trans hl18)) hs20)) ?_
      rintro vτ23 τ23 gsτ23 hl24 ⟨rfl, rfl⟩
      exact hk _ _ [] (hl18.trans hl24) rfl rfl
    · intro ρ' τ Fv rs hl hd hout hk
      obtain ⟨_, e3, rfl⟩ := hd 3 rfl
      refine st_flat (gs := []) (fun pool hp => ?_)
      refine st_call (foot := []) rfl rfl rfl rfl (evs_cons e3 rfl) rfl (callV_fn z_en76 (crc_bytes_ok hr26 τ)) ?_
      rintro vτ27 τ27 gsτ27 hl28 ⟨rfl, rfl⟩
      exact st_unflat (gs := []) hp (hk _ _ hl28 rfl)
    · intro ρ' τ Fv rs hl hd hout hk
      refine st_flat (gs := []) (fun pool hp => ?_)
      refine o_move rfl rfl rfl ((hout 1 rfl).trans rfl) ?_
      exact st_unflat (gs := []) hp (hk _ _ (Sto.Le.refl _) rfl)
    · intro ρ' τ Fv rs hl hd hout hk
      refine st_flat (gs := []) (fun pool hp => ?_)
      refine o_move rfl rfl rfl ((hout 6 rfl).trans rfl) ?_
      exact st_unflat (gs := []) hp (hk _ _ (Sto.Le.refl _) rfl)
    · intro ρ' τ Fv rs hl hd hout hk
      obtain ⟨_, e5, rfl⟩ := hd 5 rfl
      obtain ⟨_, e6, rfl⟩ := hd 6 rfl
      refine st_flat (gs := []) (fun pool hp => ?_)
      refine o_slice (L := (IntKind.i64.wrap ((a1.length : Int) - 4))) (H := (a1.length : Int)) rfl rfl rfl z_slT45 rfl e5 (hs4.up hl) ⟨_, e6⟩ rfl hf29 hf30 hf31 trivial (by simp) (fun v32 hs33 => ?_)
      exact st_unflat (gs := []) hp (hk _ _ (Sto.Le.refl _) ⟨v32, rfl, hs33⟩)
    · intro ρ' τ Fv rs hl hd hout hk
      obtain ⟨_, e7, v32, rfl, hs33⟩ := hd 7 rfl
      refine st_flat (gs := []) (fun pool hp => ?_)
      refine o_toArr (dk := (kI .u8)) rfl rfl rfl z_arr136 e7 hs33 rfl hf34 (fun b35 of36 csb35 hcsb35 hmb35 => ?_)
      obtain ⟨vsb35, hc37, hrepb35⟩ : ∃ vs, CelN τ ⟨b35, of36, none⟩ vs ∧ Kd.rep (kA .u8 4) τ vs ((a1.drop (IntKind.i64.wrap ((a1.length : Int) - 4)).toNat).take (((a1.length : Int) : Int) - (IntKind.i64.wrap ((a1.length : Int) - 4))).toNat) := ⟨_, celn_arr hcsb35 hmb35 hf34, rfl⟩
      exact st_unflat (gs := []) hp (hk _ _ (Sto.Le.refl _) ⟨b35, of36, vsb35, rfl, hc37, hrepb35⟩)
    · intro ρ' τ Fv rs hl hd hout hk
      obtain ⟨_, e8, b35, of36, vsb35, rfl, hc37, hrepb35⟩ := hd 8 rfl
      refine st_flat (gs := []) (fun pool hp => ?_)
      have hrepb35 := hrepb35
      obtain rfl := hrepb35
      refine o_loadIN (vs := [.int .u8 (((a1.drop (IntKind.i64.wrap ((a1.length : Int) - 4)).toNat).take (((a1.length : Int) : Int) - (IntKind.i64.wrap ((a1.length : Int) - 4))).toNat).getD 0 0), .int .u8 (((a1.drop (IntKind.i64.wrap ((a1.length : Int) - 4)).toNat).take (((a1.length : Int) : Int) - (IntKind.i64.wrap ((a1.length : Int) - 4))).toNat).getD 1 0), .int .u8 (((a1.drop (IntKind.i64.wrap ((a1.length : Int) - 4)).toNat).take (((a1.length : Int) : Int) - (IntKind.i64.wrap ((a1.length : Int) - 4))).toNat).getD 2 0), .int .u8 (((a1.drop (IntKind.i64.wrap ((a1.length : Int) - 4)).toNat).take (((a1.length : Int) : Int) - (IntKind.i64.wrap ((a1.length : Int) - 4))).toNat).getD 3 0)]) rfl rfl rfl z_agg136 e8 rfl (celn_part 0 rfl hc37) ?_
      exact st_unflat (gs := []) hp (hk _ _ (Sto.Le.refl _) rfl)
    · intro ρ' τ Fv rs hl hd hout hk
      obtain ⟨_, e4, rfl⟩ := hd 4 rfl
      obtain ⟨_, e9, rfl⟩ := hd 9 rfl
      refine st_flat (gs := []) (fun pool hp => ?_)
      refine o_aggEq (b := (eqN 4 0 r25 ((a1.drop (IntKind.i64.wrap ((a1.length : Int) - 4)).toNat).take (((a1.length : Int) : Int) - (IntKind.i64.wrap ((a1.length : Int) - 4))).toNat))) (e := (!(eqN 4 0 r25 ((a1.drop (IntKind.i64.wrap ((a1.length : Int) - 4)).toNat).take (((a1.length : Int) : Int) - (IntKind.i64.wrap ((a1.length : Int) - 4))).toNat)))) rfl rfl rfl z_eqg136 e4 e9 (fun w => by exact eq_arr (xs := r25) (ys := ((a1.drop (IntKind.i64.wrap ((a1.length : Int) - 4)).toNat).take (((a1.length : Int) : Int) - (IntKind.i64.wrap ((a1.length : Int) - 4))).toNat)) Try.underlying136 Try.underlying5 z_info5 z_cell5) rfl ?_
      exact st_unflat (gs := []) hp (hk _ _ (Sto.Le.refl _) rfl)
    intro ρ' τ38 vals u Fv hl38 hI hu hv hout
    have l10 : Eng.look ρ' 31 = some (.bool (!(eqN 4 0 r25 ((a1.drop (IntKind.i64.wrap ((a1.length : Int) - 4)).toNat).take (((a1.length : Int) : Int) - (IntKind.i64.wrap ((a1.length : Int) - 4))).toNat)))) := (hv 10 (by decide)).1.trans (congrArg some (show vals 10 = .bool (!(eqN 4 0 r25 ((a1.drop (IntKind.i64.wrap ((a1.length : Int) - 4)).toNat).take (((a1.length : Int) : Int) - (IntKind.i64.wrap ((a1.length : Int) - 4))).toNat))) from Eq.symm (hv 10 (by decide)).2))
    obtain rfl := hI
    refine st_gs [] rfl ?_
    refine st_env (ρ' := [(31, .bool (!(eqN 4 0 r25 ((a1.drop (IntKind.i64.wrap ((a1.length : Int) - 4)).toNat).take (((a1.length : Int) : Int) - (IntKind.i64.wrap ((a1.length : Int) - 4))).toNat)))), (4, .slice none 0 0), (5, .int .i64 0), (7, v9)]) ⟨l10, (hout 4 rfl).trans rfl, (hout 5 rfl).trans rfl, (hout 7 rfl).trans rfl, trivial⟩ ?_
    refine st_end ?_
    refine st_cond rfl (fun hc => ?_) (fun hc => ?_)
    · replace h := (if_pos hc).mp h
      refine st_seq ?_
      refine st_region ?_
      refine o_assign rfl rfl rfl rfl ?_
      refine o_assign rfl rfl rfl rfl ?_
      refine st_end ?_
      obtain rfl := Eq.symm h
      exact st_ret (gs' := []) Try.func53 rfl (List.Sublist.refl _) hl38 ⟨_, rfl, rfl, Sl.nil⟩
    · replace h := (if_neg (ne_t hc)).mp h
      refine st_skip ?_
      refine st_seq ?_
      refine st_region ?_
      refine o_lit (dk := (kI .u8)) (xs := ([] : List Int)) (ps := []) (cs := []) rfl rfl rfl z_slT45 z_zero5 trivial rfl rfl rfl rfl Kd.Many.nil (fun v39 g40 ho41 => ?_)
      refine o_move rfl rfl rfl rfl ?_
      obtain ⟨hf45, h⟩ := h
      obtain ⟨hf46, h⟩ := h
      refine o_append (dk := (kI .u8)) (xs := ([] : List Int)) (ys := ((a1.drop (0 : Int).toNat).take (((IntKind.i64.wrap ((a1.length : Int) - 4)) : Int) - 0).toNat)) rfl rfl rfl rfl z_slT45 rfl ho41 rfl (Sl.src (hs10.up hl38)) hf45 hf46 (fun v42 g43 ho44 => ?_)
      refine o_assign rfl rfl rfl rfl ?_
      refine o_assign rfl rfl rfl rfl ?_
      refine st_end ?_
      refine st_freeze (fun τ47 hl48 hg49 => ?_)
      have hs50 := ho44.freeze hl48 hg49
      obtain rfl := Eq.symm h
      exact st_ret (gs' := []) Try.func53 rfl (List.Sublist.refl _) (hl38.trans hl48) ⟨_, rfl, rfl, hs50⟩
theorem lens_New_ok {a0 : List Int} {v1 : Value} {r : (List Int × Int × Int)} (h : lens_New a0 r) (σ : Sto) (hs2 : Sl (kI .u8) σ v1 a0) :
    Does Try.prog 54 [v1] σ [] (fun v τ gs => ∃ (b15 : Nat) (v16 : Value), gs = [[(b15, .cells [v16, .int .i64 r.2.1, .int .i64 r.2.2].toArray 140 (0, 0))]] ∧ .pointer (some ⟨b15, 0, none⟩) = v ∧ Sl (kI .u8) τ v16 r.1) := by
  refine call_of Try.func54 Try.ntmps54 rfl rfl (fun cs fs => ?_)
  refine st_seq ?_
  refine st_region ?_
  refine o_assign rfl rfl rfl rfl ?_
  refine st_end ?_
  refine st_seq ?_
  refine st_region ?_
  refine o_move rfl rfl rfl rfl ?_
  obtain ⟨hf6, h⟩ := h
  obtain ⟨hf7, h⟩ := h
  refine st_addNil ?_
  refine o_append (dk := (kI .u8)) (xs := ([] : List Int)) (ys := a0) rfl rfl rfl rfl z_slT45 rfl Ow.nil rfl (Sl.src hs2) hf6 hf7 (fun v3 g4 ho5 => ?_)
  refine o_build (ps := [(0, [v3])]) (cs := [v3, .int .i64 0, .int .i64 0]) rfl rfl rfl z_struct140 ⟨rfl, ⟨_, rfl, (oneL_ow ho5)⟩, trivial⟩ rfl ?_
  refine o_box (cs := [v3, .int .i64 0, .int .i64 0]) rfl rfl rfl rfl rfl (fun b8 => ?_)
  refine o_assign rfl rfl rfl rfl ?_
  refine st_end ?_
  refine st_ord [1, 0] [g4, [(b8, .cells [v3, .int .i64 0, .int .i64 0].toArray 140 (0, 0))]] rfl ?_
  refine st_freeze (fun τ9 hl10 hg11 => ?_)
  have hs12 := ho5.freeze hl10 hg11
  obtain rfl := Eq.symm h
  exact st_ret (gs' := [[(b8, .cells [v3, .int .i64 0, .int .i64 0].toArray 140 (0, 0))]]) Try.func54 rfl (List.Sublist.refl _) hl10 ⟨_, _, rfl, rfl, hs12⟩
theorem lens_Lens_Err_ok {a0 : List Int × Int × Int} {ba0 : Nat} {v1 : Value} {r : Int} (h : lens_Lens_Err a0 r) (σ : Sto) (hs2 : Sl (kI .u8) σ v1 a0.1) :
    Does Try.prog 79 [.pointer (some ⟨ba0, 0, none⟩)] σ [[(ba0, .cells [v1, .int .i64 a0.2.1, .int .i64 a0.2.2].toArray 140 (0, 0))]] (fun v τ gs => gs = [[(ba0, .cells [v1, .int .i64 a0.2.1, .int .i64 a0.2.2].toArray 140 (0, 0))]] ∧ .int .i64 r = v) := by
  refine call_of Try.func79 Try.ntmps79 rfl rfl (fun cs fs => ?_)
  refine st_seq ?_
  refine st_region ?_
  refine o_assign rfl rfl rfl rfl ?_
  refine st_end ?_
  refine st_seq ?_
  refine st_seq ?_
  refine st_region ?_
  refine o_move rfl rfl rfl rfl ?_
  refine o_ptrNil (b := false) rfl rfl rfl Try.underlying103 rfl rfl rfl ?_
  refine st_end ?_
  refine st_condF rfl ?_
  refine st_skip ?_
  refine st_seq ?_
  refine st_region ?_
  refine o_move rfl rfl rfl rfl ?_
  refine o_nilCheck rfl rfl rfl rfl ?_
  refine o_fieldAddr rfl rfl rfl z_field140_2 rfl ?_
  refine o_load (j := 0) (v := .int .i64 a0.2.2) rfl rfl rfl z_sc39 rfl rfl rfl ?_
  refine o_assign rfl rfl rfl rfl ?_
  refine st_end ?_
  obtain rfl := Eq.symm h
  exact st_ret (gs' := [[(ba0, .cells [v1, .int .i64 a0.2.1, .int .i64 a0.2.2].toArray 140 (0, 0))]]) Try.func79 rfl (List.Sublist.refl _) (Sto.Le.refl _) ⟨rfl, rfl⟩
theorem lens_Lens_left_ok {a0 : List Int × Int × Int} {ba0 : Nat} {v1 : Value} {r : List Int} (h : lens_Lens_left a0 r) (σ : Sto) (hs2 : Sl (kI .u8) σ v1 a0.1) :
    Does Try.prog 96 [.pointer (some ⟨ba0, 0, none⟩)] σ [[(ba0, .cells [v1, .int .i64 a0.2.1, .int .i64 a0.2.2].toArray 140 (0, 0))]] (fun v τ gs => ∃ (v11 : Value), gs = [[(ba0, .cells [v1, .int .i64 a0.2.1, .int .i64 a0.2.2].toArray 140 (0, 0))]] ∧ v11 = v ∧ Sl (kI .u8) τ v11 r) := by
  refine call_of Try.func96 Try.ntmps96 rfl rfl (fun cs fs => ?_)
  refine st_seq ?_
  refine st_region ?_
  refine o_assign rfl rfl rfl rfl ?_
  refine st_end ?_
  refine st_seq ?_
  obtain ⟨hf3, h⟩ := h
  obtain ⟨hf4, h⟩ := h
  obtain ⟨hf5, h⟩ := h
  obtain ⟨hf6, h⟩ := h
  obtain ⟨hf7, h⟩ := h
  refine st_draw 19 (tl [fun τ v => (.pointer (some ⟨ba0, 0, none⟩) : Value) = v,
    fun τ v => (.pointer (some ⟨ba0, 0, none⟩) : Value) = v,
    fun τ v => (.pointer (some ⟨ba0, 0, none⟩) : Value) = v,
    fun τ v => (v1 : Value) = v,
    fun τ v => (.pointer (some ⟨ba0, 0, none⟩) : Value) = v,
    fun τ v => (.pointer (some ⟨ba0, 0, none⟩) : Value) = v,
    fun τ v => (.pointer (some ⟨ba0, 1, none⟩) : Value) = v,
    fun τ v => (.int .i64 a0.2.1 : Value) = v,
    fun τ v => (.pointer (some ⟨ba0, 0, none⟩) : Value) = v,
    fun τ v => (.pointer (some ⟨ba0, 0, none⟩) : Value) = v,
    fun τ v => (.pointer (some ⟨ba0, 0, none⟩) : Value) = v,
    fun τ v => (v1 : Value) = v,
    fun τ v => (.int .i64 (a0.1.length : Int) : Value) = v,
    fun τ v => (.pointer (some ⟨ba0, 0, none⟩) : Value) = v,
    fun τ v => (.pointer (some ⟨ba0, 0, none⟩) : Value) = v,
    fun τ v => (.pointer (some ⟨ba0, 0, none⟩) : Value) = v,
    fun τ v => (v1 : Value) = v,
    fun τ v => (.int .i64 (a0.1.length : Int) : Value) = v,
    fun τ v => ∃ (v8 : Value), (v8 : Value) = v ∧ Sl (kI .u8) τ v8 ((a0.1.drop a0.2.1.toNat).take (((a0.1.length : Int) : Int) - a0.2.1).toNat)]) (fun _ _ => []) z_mix rfl (tl_mono ⟨fun _ _ _ _ h => h, ⟨fun _ _ _ _ h => h, ⟨fun _ _ _ _ h => h, ⟨fun _ _ _ _ h => h, ⟨fun _ _ _ _ h => h, ⟨fun _ _ _ _ h => h, ⟨fun _ _ _ _ h => h, ⟨fun _ _ _ _ h => h, ⟨fun _ _ _ _ h => h, ⟨fun _ _ _ _ h => h, ⟨fun _ _ _ _ h => h, ⟨fun _ _ _ _ h => h, ⟨fun _ _ _ _ h => h, ⟨fun _ _ _ _ h => h, ⟨fun _ _ _ _ h => h, ⟨fun _ _ _ _ h => h, ⟨fun _ _ _ _ h => h, ⟨fun _ _ _ _ h => h, ⟨fun _ _ _ hl ⟨v8, hv, hs9⟩ => ⟨v8, hv, hs9.up hl⟩, trivial⟩⟩⟩⟩⟩⟩⟩⟩⟩⟩⟩⟩⟩⟩⟩⟩⟩⟩⟩) (allB_cons (allB_cons (allB_cons (allB_cons (allB_cons (allB_cons (allB_cons (allB_cons (allB_cons (allB_cons (allB_cons (allB_cons (allB_cons (allB_cons (allB_cons (allB_cons (allB_cons (allB_cons (allB_cons allB_nil ?_) ?_) ?_) ?_) ?_) ?_) ?_) ?_) ?_) ?_) ?_) ?_) ?_) ?_) ?_) ?_) ?_) ?_) ?_) ?_
  · intro ρ' τ pool rs hl hd hout hk
    refine o_move rfl rfl rfl ((hout 0 rfl).trans rfl) ?_
    exact st_addNil (hk _ _ (Sto.Le.refl _) rfl)
  · intro ρ' τ pool rs hl hd hout hk
    obtain ⟨_, e0, rfl⟩ := hd 0 rfl
    refine o_nilCheck rfl rfl rfl e0 ?_
    exact st_addNil (hk _ _ (Sto.Le.refl _) rfl)
  · intro ρ' τ pool rs hl hd hout hk
    obtain ⟨_, e1, rfl⟩ := hd 1 rfl
    refine o_fieldAddr rfl rfl rfl z_field140_0 e1 ?_
    exact st_addNil (hk _ _ (Sto.Le.refl _) rfl)
  · intro ρ' τ pool rs hl hd hout hk
    obtain ⟨_, e2, rfl⟩ := hd 2 rfl
    refine o_load (j := 0) (v := v1) rfl rfl rfl z_sc45 e2 rfl rfl ?_
    exact st_addNil (hk _ _ (Sto.Le.refl _) rfl)
  · intro ρ' τ pool rs hl hd hout hk
    refine o_move rfl rfl rfl ((hout 0 rfl).trans rfl) ?_
    exact st_addNil (hk _ _ (Sto.Le.refl _) rfl)
  · intro ρ' τ pool rs hl hd hout hk
    obtain ⟨_, e4, rfl⟩ := hd 4 rfl
    refine o_nilCheck rfl rfl rfl e4 ?_
    exact st_addNil (hk _ _ (Sto.Le.refl _) rfl)
  · intro ρ' τ pool rs hl hd hout hk
    obtain ⟨_, e5, rfl⟩ := hd 5 rfl
    refine o_fieldAddr rfl rfl rfl z_field140_1 e5 ?_
    exact st_addNil (hk _ _ (Sto.Le.refl _) rfl)
  · intro ρ' τ pool rs hl hd hout hk
    obtain ⟨_, e6, rfl⟩ := hd 6 rfl
    refine o_load (j := 0) (v := .int .i64 a0.2.1) rfl rfl rfl z_sc3 e6 rfl rfl ?_
    exact st_addNil (hk _ _ (Sto.Le.refl _) rfl)
  · intro ρ' τ pool rs hl hd hout hk
    refine o_move rfl rfl rfl ((hout 0 rfl).trans rfl) ?_
    exact st_addNil (hk _ _ (Sto.Le.refl _) rfl)
  · intro ρ' τ pool rs hl hd hout hk
    obtain ⟨_, e8, rfl⟩ := hd 8 rfl
    refine o_nilCheck rfl rfl rfl e8 ?_
    exact st_addNil (hk _ _ (Sto.Le.refl _) rfl)
  · intro ρ' τ pool rs hl hd hout hk
    obtain ⟨_, e9, rfl⟩ := hd 9 rfl
    refine o_fieldAddr rfl rfl rfl z_field140_0 e9 ?_
    exact st_addNil (hk _ _ (Sto.Le.refl _) rfl)
  · intro ρ' τ pool rs hl hd hout hk
    obtain ⟨_, e10, rfl⟩ := hd 10 rfl
    refine o_load (j := 0) (v := v1) rfl rfl rfl z_sc45 e10 rfl rfl ?_
    exact st_addNil (hk _ _ (Sto.Le.refl _) rfl)
  · intro ρ' τ pool rs hl hd hout hk
    obtain ⟨_, e11, rfl⟩ := hd 11 rfl
    refine o_lenI rfl rfl rfl z_slT45 e11 (hs2.up hl) ?_
    exact st_addNil (hk _ _ (Sto.Le.refl _) rfl)
  · intro ρ' τ pool rs hl hd hout hk
    refine o_move rfl rfl rfl ((hout 0 rfl).trans rfl) ?_
    exact st_addNil (hk _ _ (Sto.Le.refl _) rfl)
  · intro ρ' τ pool rs hl hd hout hk
    obtain ⟨_, e13, rfl⟩ := hd 13 rfl
    refine o_nilCheck rfl rfl rfl e13 ?_
    exact st_addNil (hk _ _ (Sto.Le.refl _) rfl)
  · intro ρ' τ pool rs hl hd hout hk
    obtain ⟨_, e14, rfl⟩ := hd 14 rfl
    refine o_fieldAddr rfl rfl rfl z_field140_0 e14 ?_
    exact st_addNil (hk _ _ (Sto.Le.refl _) rfl)
  · intro ρ' τ pool rs hl hd hout hk
    obtain ⟨_, e15, rfl⟩ := hd 15 rfl
    refine o_load (j := 0) (v := v1) rfl rfl rfl z_sc45 e15 rfl rfl ?_
    exact st_addNil (hk _ _ (Sto.Le.refl _) rfl)
  · intro ρ' τ pool rs hl hd hout hk
    obtain ⟨_, e16, rfl⟩ := hd 16 rfl
    refine o_lenI rfl rfl rfl z_slT45 e16 (hs2.up hl) ?_
    exact st_addNil (hk _ _ (Sto.Le.refl _) rfl)
  · intro ρ' τ pool rs hl hd hout hk
    obtain ⟨_, e3, rfl⟩ := hd 3 rfl
    obtain ⟨_, e7, rfl⟩ := hd 7 rfl
    obtain ⟨_, e12, rfl⟩ := hd 12 rfl
    obtain ⟨_, e17, rfl⟩ := hd 17 rfl
    refine o_slice (L := a0.2.1) (H := (a0.1.length : Int)) rfl rfl rfl z_slT45 rfl e3 (hs2.up hl) ⟨_, e7⟩ ⟨_, e12⟩ hf3 hf4 hf5 ⟨_, _, e17, hf6, hf7⟩ (by simp) (fun v8 hs9 => ?_)
    exact st_addNil (hk _ _ (Sto.Le.refl _) ⟨v8, rfl, hs9⟩)
  intro ρ' τ10 vals hl10 hv hout
  obtain ⟨l18, v8, t18, hs9⟩ := hv 18 (by decide)
  replace l18 : Eng.look ρ' 21 = some (v8) := l18.trans (congrArg some (Eq.symm t18))
  refine st_ord [0] [[(ba0, .cells [v1, .int .i64 a0.2.1, .int .i64 a0.2.2].toArray 140 (0, 0))]] rfl ?_
  refine st_env (ρ' := [(21, v8), (2, .slice none 0 0)]) ⟨l18, (hout 2 rfl).trans rfl, trivial⟩ ?_
  refine o_assign rfl rfl rfl rfl ?_
  refine st_end ?_
  obtain rfl := Eq.symm h
  exact st_ret (gs' := [[(ba0, .cells [v1, .int .i64 a0.2.1, .int .i64 a0.2.2].toArray 140 (0, 0))]]) Try.func96 rfl (List.Sublist.refl _) hl10 ⟨_, rfl, rfl, hs9⟩
theorem lens_Lens_Left_ok {a0 : List Int × Int × Int} {ba0 : Nat} {v1 : Value} {r : Int} (h : lens_Lens_Left a0 r) (σ : Sto) (hs2 : Sl (kI .u8) σ v1 a0.1) :
    Does Try.prog 80 [.pointer (some ⟨ba0, 0, none⟩)] σ [[(ba0, .cells [v1, .int .i64 a0.2.1, .int .i64 a0.2.2].toArray 140 (0, 0))]] (fun v τ gs => gs = [[(ba0, .cells [v1, .int .i64 a0.2.1, .int .i64 a0.2.2].toArray 140 (0, 0))]] ∧ .int .i64 r = v) := by
  refine call_of Try.func80 Try.ntmps80 rfl rfl (fun cs fs => ?_)
  refine st_seq ?_
  refine st_region ?_
  refine o_assign rfl rfl rfl rfl ?_
  refine st_end ?_
  refine st_seq ?_
  refine st_seq ?_
  refine st_region ?_
  refine o_move rfl rfl rfl rfl ?_
  refine o_ptrNil (b := false) rfl rfl rfl Try.underlying103 rfl rfl rfl ?_
  refine st_end ?_
  refine st_condF rfl ?_
  refine st_skip ?_
  refine st_seq ?_
  refine st_region ?_
  refine o_move rfl rfl rfl rfl ?_
  obtain ⟨r3, hr4, h⟩ := h
  refine st_call (foot := [[(ba0, .cells [v1, .int .i64 a0.2.1, .int .i64 a0.2.2].toArray 140 (0, 0))]]) rfl rfl rfl rfl rfl rfl (callV_fn z_en96 (lens_Lens_left_ok hr4 σ hs2)) ?_
  rintro vτ5 τ5 gsτ5 hl6 ⟨v7, rfl, rfl, hs8⟩
  refine o_lenI rfl rfl rfl z_slT45 rfl hs8 ?_
  refine o_assign rfl rfl rfl rfl ?_
  refine st_end ?_
  obtain rfl := Eq.symm h
  exact st_ret (gs' := [[(ba0, .cells [v1, .int .i64 a0.2.1, .int .i64 a0.2.2].toArray 140 (0, 0))]]) Try.func80 rfl (List.Sublist.refl _) hl6 ⟨rfl, rfl⟩
theorem slices_Backward_byte_byte_1_ok {c0 : List Int} {bc0 : Nat} {v1 : Value} {σ0 : Sto} (hc0_0 : Cel σ0 ⟨bc0, 0, none⟩ (v1)) (hs2 : Sl (kI .u8) σ0 v1 c0) :
    IterV Try.prog (fun _ x vx => vx = [.int .i64 x.1, .int .u8 x.2]) (.func (.func 108) #[] [.pointer (some ⟨bc0, 0, none⟩)].toArray) σ0 [] (fun (_ : Unit) _ f => f = []) (slices_Backward_byte_byte_1 c0) := by
  intro S Y I y hyc hyo hIm hY s s' o hR σ g hle hIg
  obtain ⟨r, hr0⟩ : ∃ r, r = (s', o) := ⟨_, rfl⟩
  rw [← hr0] at hR
  have h := hR
  refine callV_of (caps := [.pointer (some ⟨bc0, 0, none⟩)]) z_en108 ?_
  refine call_of Try.func108 Try.ntmps108 rfl rfl (fun cs fs => ?_)
  refine st_ord [0] [g] rfl ?_
  refine st_seq ?_
  refine st_region ?_
  refine o_loadI (v := v1) rfl rfl rfl z_sc45 rfl (Cel.up hc0_0 hle) ?_
  refine o_lenI rfl rfl rfl z_slT45 rfl (hs2.up hle) ?_
  refine o_ibin (v := .int .i64 (IntKind.i64.wrap ((c0.length : Int) - 1))) rfl rfl rfl rfl rfl rfl ?_
  refine o_assign rfl rfl rfl rfl ?_
  refine st_end ?_
  obtain ⟨e3, hL3, hA3⟩ := h
  refine st_env (ρ' := [(0, y), (1, .pointer (some ⟨bc0, 0, none⟩)), (3, .int .i64 (IntKind.i64.wrap ((c0.length : Int) - 1)))]) ⟨rfl, rfl, rfl, trivial⟩ ?_
  refine st_loop hL3 (fun (s3 : S × Int) ρ τ3 gs => σ.Le τ3 ∧ ∃ (g4 : Grp), ρ = [(0, y), (1, .pointer (some ⟨bc0, 0, none⟩)), (3, .int .i64 s3.2)] ∧ gs = [g4] ∧ I s3.1 τ3 g4) ⟨Sto.Le.refl _, g, rfl, rfl, hIg⟩ ?_
  rintro s3 o3 h he3 ρ3 τ3 gs3 ⟨hl3, g4, rfl, rfl, hI5⟩ hn3
  refine st_seq ?_
  refine st_seq ?_
  refine st_region ?_
  refine o_move rfl rfl rfl rfl ?_
  refine o_ibin (v := .bool (decide (0 ≤ s3.2))) rfl rfl rfl rfl rfl rfl ?_
  refine st_end ?_
  refine st_cond rfl (fun hc => ?_) (fun hc => ?_)
  · replace h := (if_pos hc).mp h
    refine st_skip ?_
    refine st_seq ?_
    refine st_block ?_
    refine st_seq ?_
    refine st_region ?_
    refine o_move rfl rfl rfl rfl ?_
    refine o_move rfl rfl rfl rfl ?_
    refine o_loadI (v := v1) rfl rfl rfl z_sc45 rfl (Cel.up hc0_0 (hle.trans hl3)) ?_
    refine o_move rfl rfl rfl rfl ?_
    obtain ⟨q6, hf7, h⟩ := h
    refine o_index rfl rfl rfl z_slT45 rfl rfl (hs2.up (hle.trans hl3)) rfl hf7 (fun b8 of9 vs hc10 hrep => ?_)
    obtain rfl := hrep
    refine o_loadI (v := .int .u8 q6) rfl rfl rfl z_sc5 rfl (hc10 0 _ rfl) ?_
    obtain ⟨y11, u12, hy13, h⟩ := h
    refine st_call (foot := [g4]) rfl rfl rfl rfl rfl rfl (hY (s3.2, q6) s3.1 _ _ _ _ _ (hle.trans hl3) hy13 rfl hI5) ?_
    rintro vτ14 τ14 gsτ14 hl15 ⟨rfl, g16, rfl, hI17⟩
    refine o_not rfl rfl rfl rfl ?_
    refine st_end ?_
    refine st_cond rfl (fun hc => ?_) (fun hc => ?_)
    · replace h := (if_pos hc).mp h
      obtain rfl := he3 _ h
      replace h := hA3
      obtain rfl := Eq.symm h
      cases hr0
      exact st_ret (gs' := [g16, []]) Try.func108 rfl (by simp) (hl3.trans hl15) ⟨g16, _, rfl, hI17, rfl⟩
    · replace h := (if_neg (ne_t hc)).mp h
      refine st_skip ?_
      refine st_inBlock ?_
      refine st_region ?_
      refine o_move rfl rfl rfl rfl ?_
      refine o_ibin (v := .int .i64 (IntKind.i64.wrap (s3.2 - 1))) rfl rfl rfl rfl rfl rfl ?_
      refine o_assign rfl rfl rfl rfl ?_
      refine st_end ?_
      refine st_env (ρ' := [(0, y), (1, .pointer (some ⟨bc0, 0, none⟩)), (3, .int .i64 (IntKind.i64.wrap (s3.2 - 1)))]) ⟨rfl, rfl, rfl, trivial⟩ ?_
      exact hn3 _ _ _ _ h ⟨(hl3.trans hl15), g16, rfl, rfl, hI17⟩
  · replace h := (if_neg (ne_t hc)).mp h
    refine st_exit rfl ?_
    obtain rfl := he3 _ h
    replace h := hA3
    obtain rfl := Eq.symm h
    cases hr0
    exact st_fin (gs' := [g4, []]) Try.func108 rfl (by simp) hl3 ⟨g4, _, rfl, hI5, rfl⟩
theorem slices_Backward_byte_byte_ok {a0 : List Int} {v1 : Value} {r : (((S : Type) → ((Int × Int) → S → Bool × S → Prop) → S → S × Unit → Prop))} (h : slices_Backward_byte_byte a0 r) (σ : Sto) (hs2 : Sl (kI .u8) σ v1 a0) :
    Does Try.prog 99 [v1] σ [] (fun v τ gs => ∃ (f7 : Nat) (q8 : Array Value), gs = [] ∧ .func (.func f7) #[] q8 = v ∧ IterV Try.prog (fun _ x vx => vx = [.int .i64 x.1, .int .u8 x.2]) (.func (.func f7) #[] q8) τ [] (fun (_ : Unit) _ f => f = []) r) := by
  refine call_of Try.func99 Try.ntmps99 rfl rfl (fun cs fs => ?_)
  refine st_seq ?_
  refine st_region ?_
  refine o_box (cs := [v1]) rfl rfl rfl rfl (oneL_sl hs2) (fun b3 => ?_)
  refine o_assign rfl rfl rfl rfl ?_
  refine st_end ?_
  refine st_seq ?_
  refine st_region ?_
  refine st_freeze (fun τ4 hl5 hg6 => ?_)
  refine o_func rfl rfl rfl rfl rfl ?_
  refine o_assign rfl rfl rfl rfl ?_
  refine st_end ?_
  obtain rfl := Eq.symm h
  exact st_ret (gs' := []) Try.func99 rfl (List.Sublist.refl _) hl5 ⟨_, _, rfl, rfl, (slices_Backward_byte_byte_1_ok (cel_of hg6 rfl) (hs2.up hl5))⟩
theorem lens_Lens_word_1_ok {a0 : List Int} {c0 : Int} {c1 : Int} {v1 : Value} {bc0 : Nat} {bc1 : Nat} {r : Int × Int × Int} (h : lens_Lens_word_1 a0 c0 c1 r) (σ : Sto) (hs2 : Sl (kI .u8) σ v1 a0) :
    Does Try.prog 98 [v1, .pointer (some ⟨bc0, 0, none⟩), .pointer (some ⟨bc1, 0, none⟩)] σ [[(bc0, .cells [.int .i64 c0].toArray 3 (0, 0))], [(bc1, .cells [.int .u32 c1].toArray 22 (0, 0))]] (fun v τ gs => gs = [[(bc0, .cells [.int .i64 c0].toArray 3 (0, 0))], [(bc1, .cells [.int .u32 r.2.2].toArray 22 (0, 0))]] ∧ .tuple [.int .i64 r.1, .int .i64 r.2.1].toArray = v) := by
  refine call_of Try.func98 Try.ntmps98 rfl rfl (fun cs fs => ?_)
  refine st_seq ?_
  refine st_region ?_
  refine o_assign rfl rfl rfl rfl ?_
  refine o_assign rfl rfl rfl rfl ?_
  refine st_end ?_
  refine st_seq ?_
  refine st_seq ?_
  refine st_region ?_
  refine o_move rfl rfl rfl rfl ?_
  refine o_lenI rfl rfl rfl z_slT45 rfl hs2 ?_
  refine o_load (j := 0) (v := .int .i64 c0) rfl rfl rfl z_sc3 rfl rfl rfl ?_
  refine o_ibin (v := .bool (decide ((a0.length : Int) < c0))) rfl rfl rfl rfl rfl rfl ?_
  refine st_end ?_
  refine st_cond rfl (fun hc => ?_) (fun hc => ?_)
  · replace h := (if_pos hc).mp h
    refine st_seq ?_
    refine st_region ?_
    refine o_assign rfl rfl rfl rfl ?_
    refine o_assign rfl rfl rfl rfl ?_
    refine st_end ?_
    obtain rfl := Eq.symm h
    exact st_ret (gs' := [[(bc0, .cells [.int .i64 c0].toArray 3 (0, 0))], [(bc1, .cells [.int .u32 c1].toArray 22 (0, 0))]]) Try.func98 rfl (List.Sublist.refl _) (Sto.Le.refl _) ⟨rfl, rfl⟩
  · replace h := (if_neg (ne_t hc)).mp h
    refine st_skip ?_
    refine st_seq ?_
    refine st_seq ?_
    refine st_region ?_
    refine o_move rfl rfl rfl rfl ?_
    refine o_load (j := 0) (v := .int .i64 c0) rfl rfl rfl z_sc3 rfl rfl rfl ?_
    obtain ⟨hf3, h⟩ := h
    obtain ⟨hf4, h⟩ := h
    refine o_slice (L := 0) (H := c0) rfl rfl rfl z_slT45 rfl rfl hs2 rfl ⟨_, rfl⟩ (by decide) hf3 hf4 trivial (by simp) (fun v5 hs6 => ?_)
    obtain ⟨r7, hr8, h⟩ := h
    refine st_call (foot := []) rfl rfl rfl rfl rfl rfl (callV_fn z_en99 (slices_Backward_byte_byte_ok hr8 σ hs6)) ?_
    rintro vτ9 τ9 gsτ9 hl10 ⟨f11, q12, rfl, rfl, hit13⟩
    refine st_end ?_
    refine st_block ?_
    obtain ⟨t14, w14, hR14, hA14⟩ := h
    refine st_env (ρ' := [(1, .pointer (some ⟨bc0, 0, none⟩)), (2, .pointer (some ⟨bc1, 0, none⟩)), (4, .int .i64 0), (5, .int .i64 0), (15, .func (.func f11) #[] q12)]) ⟨rfl, rfl, rfl, rfl, rfl, trivial⟩ ?_
    refine st_addNil ?_
    refine st_range (B := lens_Lens_word_1_l1) (s0 := c1) ranges_fctx rfl hit13 (Sto.Le.refl _) hR14 rfl (fun _ _ _ h => by cases h; rfl) (fun (s14 : Int) τ14 gs => τ9.Le τ14 ∧ gs = [[(bc0, .cells [.int .i64 c0].toArray 3 (0, 0))], [(bc1, .cells [.int .u32 s14].toArray 22 (0, 0))]]) (fun _ _ _ _ => False) (fun _ _ _ _ hl ⟨hb, hg⟩ => ⟨hb.trans hl, hg⟩) (fun _ _ _ _ _ _ h => h.elim) ⟨Sto.Le.refl _, rfl⟩ ?_ ?_ ?_
    · rintro x14 s14 o14 τ14 gs14 vx14 hl14 h rfl ⟨hb14, rfl⟩ l14 rc14 caller14 cs14 fs14
      refine st_region ?_
      refine o_assign rfl rfl rfl rfl ?_
      refine st_end ?_
      refine st_begin ?_
      refine st_block ?_
      refine st_region ?_
      refine o_load (j := 1) (v := .int .u32 s14) rfl rfl rfl z_sc22 rfl rfl rfl ?_
      refine o_shl rfl rfl rfl rfl rfl (by decide) ?_
      refine o_move rfl rfl rfl rfl ?_
      refine o_conv rfl rfl rfl Try.underlying5 Try.underlying22 rfl ?_
      refine o_ibin (v := .int .u32 (ior .u32 (ishl .u32 s14 8) (IntKind.u32.wrap x14.2))) rfl rfl rfl rfl rfl rfl ?_
      refine o_store (j := 1) (vs := [.int .u32 (ior .u32 (ishl .u32 s14 8) (IntKind.u32.wrap x14.2))]) (cs' := [.int .u32 (ior .u32 (ishl .u32 s14 8) (IntKind.u32.wrap x14.2))]) rfl rfl rfl z_size22 rfl rfl rfl (ones_cons rfl ones_nil) rfl rfl rfl ?_
      refine st_gs [[(bc0, .cells [.int .i64 c0].toArray 3 (0, 0))], [(bc1, .cells [.int .u32 (ior .u32 (ishl .u32 s14 8) (IntKind.u32.wrap x14.2))].toArray 22 (0, 0))]] rfl ?_
      refine st_end ?_
      refine st_inBlock ?_
      exact st_rend (List.Sublist.refl _) (Sto.Le.refl _) ⟨_, h, hl14, rfl⟩
    · rintro p15 τ16 gs14 f14 ht hl17 ⟨hb, rfl⟩ rfl
      subst ht
      replace h := hA14
      refine st_ord [1, 1] [[(bc0, .cells [.int .i64 c0].toArray 3 (0, 0))], [(bc1, .cells [.int .u32 p15].toArray 22 (0, 0))]] rfl ?_
      refine st_inBlock ?_
      refine st_seq ?_
      refine st_region ?_
      refine o_load (j := 0) (v := .int .i64 c0) rfl rfl rfl z_sc3 rfl rfl rfl ?_
      refine o_assign rfl rfl rfl rfl ?_
      refine o_assign rfl rfl rfl rfl ?_
      refine st_end ?_
      obtain rfl := Eq.symm h
      exact st_ret (gs' := [[(bc0, .cells [.int .i64 c0].toArray 3 (0, 0))], [(bc1, .cells [.int .u32 p15].toArray 22 (0, 0))]]) Try.func98 rfl (List.Sublist.refl _) (hl10.trans hl17) ⟨rfl, rfl⟩
    · exact fun _ _ _ _ _ _ _ h => h.elim
theorem lens_Lens_read__lens_Lens_word_1_ok {a0 : List Int × Int × Int} {a1_0 : Int} {a1_1 : Int} {ba0 : Nat} {v1 : Value} {ba1_0 : Nat} {ba1_1 : Nat} {r : Bool × (List Int × Int × Int) × Int} (h : lens_Lens_read__lens_Lens_word_1 a0 a1_0 a1_1 r) (σ : Sto) (hs2 : Sl (kI .u8) σ v1 a0.1) :
    Does Try.prog 97 [.pointer (some ⟨ba0, 0, none⟩), .func (.func 98) #[] [.pointer (some ⟨ba1_0, 0, none⟩), .pointer (some ⟨ba1_1, 0, none⟩)].toArray] σ [[(ba0, .cells [v1, .int .i64 a0.2.1, .int .i64 a0.2.2].toArray 140 (0, 0))], [(ba1_0, .cells [.int .i64 a1_0].toArray 3 (0, 0))], [(ba1_1, .cells [.int .u32 a1_1].toArray 22 (0, 0))]] (fun v τ gs => ∃ (v13 : Value), gs = [[(ba0, .cells [v13, .int .i64 r.2.1.2.1, .int .i64 r.2.1.2.2].toArray 140 (0, 0))], [(ba1_0, .cells [.int .i64 a1_0].toArray 3 (0, 0))], [(ba1_1, .cells [.int .u32 r.2.2].toArray 22 (0, 0))]] ∧ .bool r.1 = v ∧ Sl (kI .u8) τ v13 r.2.1.1) := by
  refine call_of Try.func97 Try.ntmps97 rfl rfl (fun cs fs => ?_)
  refine st_seq ?_
  refine st_region ?_
  refine o_assign rfl rfl rfl rfl ?_
  refine st_end ?_
  refine st_seq ?_
  refine st_seq ?_
  refine st_region ?_
  refine o_move rfl rfl rfl rfl ?_
  refine o_ptrNil (b := false) rfl rfl rfl Try.underlying103 rfl rfl rfl ?_
  refine o_move rfl rfl rfl rfl ?_
  refine o_move rfl rfl rfl rfl ?_
  refine o_nilCheck rfl rfl rfl rfl ?_
  refine o_fieldAddr rfl rfl rfl z_field140_2 rfl ?_
  refine o_load (j := 0) (v := .int .i64 a0.2.2) rfl rfl rfl z_sc39 rfl rfl rfl ?_
  refine o_ibin (v := .bool (!(decide (a0.2.2 = 0)))) rfl rfl rfl rfl rfl rfl ?_
  refine o_pick rfl rfl rfl rfl rfl ?_
  refine st_end ?_
  refine st_cond rfl (fun hc => ?_) (fun hc => ?_)
  · replace h := (if_pos hc).mp h
    refine st_seq ?_
    refine st_region ?_
    refine o_assign rfl rfl rfl rfl ?_
    refine st_end ?_
    obtain rfl := Eq.symm h
    exact st_ret (gs' := [[(ba0, .cells [v1, .int .i64 a0.2.1, .int .i64 a0.2.2].toArray 140 (0, 0))], [(ba1_0, .cells [.int .i64 a1_0].toArray 3 (0, 0))], [(ba1_1, .cells [.int .u32 a1_1].toArray 22 (0, 0))]]) Try.func97 rfl (List.Sublist.refl _) (Sto.Le.refl _) ⟨_, rfl, rfl, hs2⟩
  · replace h := (if_neg (ne_t hc)).mp h
    refine st_skip ?_
    refine st_seq ?_
    refine st_region ?_
    refine o_move rfl rfl rfl rfl ?_
    refine o_move rfl rfl rfl rfl ?_
    obtain ⟨r3, hr4, h⟩ := h
    refine st_call (foot := [[(ba0, .cells [v1, .int .i64 a0.2.1, .int .i64 a0.2.2].toArray 140 (0, 0))]]) rfl rfl rfl rfl rfl rfl (callV_fn z_en96 (lens_Lens_left_ok hr4 σ hs2)) ?_
    rintro vτ5 τ5 gsτ5 hl6 ⟨v7, rfl, rfl, hs8⟩
    obtain ⟨r9, hr10, h⟩ := h
    refine st_ord [1, 1, 0] [[(ba1_0, .cells [.int .i64 a1_0].toArray 3 (0, 0))], [(ba1_1, .cells [.int .u32 a1_1].toArray 22 (0, 0))], [(ba0, .cells [v1, .int .i64 a0.2.1, .int .i64 a0.2.2].toArray 140 (0, 0))]] rfl ?_
    refine st_call (foot := [[(ba1_0, .cells [.int .i64 a1_0].toArray 3 (0, 0))], [(ba1_1, .cells [.int .u32 a1_1].toArray 22 (0, 0))]]) rfl rfl rfl rfl rfl rfl (callV_of2 (caps := [.pointer (some ⟨ba1_0, 0, none⟩), .pointer (some ⟨ba1_1, 0, none⟩)]) z_en98 (lens_Lens_word_1_ok hr10 τ5 hs8) rfl) ?_
    rintro vτ11 τ11 gsτ11 hl12 ⟨rfl, rfl⟩
    refine o_move rfl rfl rfl rfl ?_
    refine o_extract rfl rfl rfl rfl rfl ?_
    refine o_extract rfl rfl rfl rfl rfl ?_
    refine o_assign rfl rfl rfl rfl ?_
    refine o_assign rfl rfl rfl rfl ?_
    refine st_end ?_
    refine st_seq ?_
    refine st_seq ?_
    refine st_region ?_
    refine o_move rfl rfl rfl rfl ?_
    refine o_ibin (v := .bool (!(decide (r9.2.1 = 0)))) rfl rfl rfl rfl rfl rfl ?_
    refine st_end ?_
    refine st_cond rfl (fun hc => ?_) (fun hc => ?_)
    · replace h := (if_pos hc).mp h
      refine st_seq ?_
      refine st_region ?_
      refine o_move rfl rfl rfl rfl ?_
      refine o_move rfl rfl rfl rfl ?_
      refine o_nilCheck rfl rfl rfl rfl ?_
      refine o_fieldAddr rfl rfl rfl z_field140_2 rfl ?_
      refine o_store (j := 2) (vs := [.int .i64 r9.2.1]) (cs' := [v1, .int .i64 a0.2.1, .int .i64 r9.2.1]) rfl rfl rfl z_size39 rfl rfl rfl (ones_cons rfl ones_nil) rfl rfl rfl ?_
      refine st_gs [[(ba1_0, .cells [.int .i64 a1_0].toArray 3 (0, 0))], [(ba1_1, .cells [.int .u32 r9.2.2].toArray 22 (0, 0))], [(ba0, .cells [v1, .int .i64 a0.2.1, .int .i64 r9.2.1].toArray 140 (0, 0))]] rfl ?_
      refine st_end ?_
      refine st_seq ?_
      refine st_region ?_
      refine o_assign rfl rfl rfl rfl ?_
      refine st_end ?_
      refine st_ord [2, 0, 0] [[(ba0, .cells [v1, .int .i64 a0.2.1, .int .i64 r9.2.1].toArray 140 (0, 0))], [(ba1_0, .cells [.int .i64 a1_0].toArray 3 (0, 0))], [(ba1_1, .cells [.int .u32 r9.2.2].toArray 22 (0, 0))]] rfl ?_
      obtain rfl := Eq.symm h
      exact st_ret (gs' := [[(ba0, .cells [v1, .int .i64 a0.2.1, .int .i64 r9.2.1].toArray 140 (0, 0))], [(ba1_0, .cells [.int .i64 a1_0].toArray 3 (0, 0))], [(ba1_1, .cells [.int .u32 r9.2.2].toArray 22 (0, 0))]]) Try.func97 rfl (List.Sublist.refl _) (hl6.trans hl12) ⟨_, rfl, rfl, (hs2.up (hl6.trans hl12))⟩
    · replace h := (if_neg (ne_t hc)).mp h
      refine st_skip ?_
      refine st_seq ?_
      refine st_region ?_
      refine o_move rfl rfl rfl rfl ?_
      refine o_nilCheck rfl rfl rfl rfl ?_
      refine o_fieldAddr rfl rfl rfl z_field140_1 rfl ?_
      refine o_load (j := 2) (v := .int .i64 a0.2.1) rfl rfl rfl z_sc3 rfl rfl rfl ?_
      refine o_move rfl rfl rfl rfl ?_
      refine o_ibin (v := .int .i64 (IntKind.i64.wrap (a0.2.1 + r9.1))) rfl rfl rfl rfl rfl rfl ?_
      refine o_nilCheck rfl rfl rfl rfl ?_
      refine o_fieldAddr rfl rfl rfl z_field140_1 rfl ?_
      refine o_store (j := 2) (vs := [.int .i64 (IntKind.i64.wrap (a0.2.1 + r9.1))]) (cs' := [v1, .int .i64 (IntKind.i64.wrap (a0.2.1 + r9.1)), .int .i64 a0.2.2]) rfl rfl rfl z_size3 rfl rfl rfl (ones_cons rfl ones_nil) rfl rfl rfl ?_
      refine st_gs [[(ba1_0, .cells [.int .i64 a1_0].toArray 3 (0, 0))], [(ba1_1, .cells [.int .u32 r9.2.2].toArray 22 (0, 0))], [(ba0, .cells [v1, .int .i64 (IntKind.i64.wrap (a0.2.1 + r9.1)), .int .i64 a0.2.2].toArray 140 (0, 0))]] rfl ?_
      refine st_end ?_
      refine st_seq ?_
      refine st_region ?_
      refine o_assign rfl rfl rfl rfl ?_
      refine st_end ?_
      refine st_ord [2, 0, 0] [[(ba0, .cells [v1, .int .i64 (IntKind.i64.wrap (a0.2.1 + r9.1)), .int .i64 a0.2.2].toArray 140 (0, 0))], [(ba1_0, .cells [.int .i64 a1_0].toArray 3 (0, 0))], [(ba1_1, .cells [.int .u32 r9.2.2].toArray 22 (0, 0))]] rfl ?_
      obtain rfl := Eq.symm h
      exact st_ret (gs' := [[(ba0, .cells [v1, .int .i64 (IntKind.i64.wrap (a0.2.1 + r9.1)), .int .i64 a0.2.2].toArray 140 (0, 0))], [(ba1_0, .cells [.int .i64 a1_0].toArray 3 (0, 0))], [(ba1_1, .cells [.int .u32 r9.2.2].toArray 22 (0, 0))]]) Try.func97 rfl (List.Sublist.refl _) (hl6.trans hl12) ⟨_, rfl, rfl, (hs2.up (hl6.trans hl12))⟩
theorem lens_Lens_word_ok {a0 : List Int × Int × Int} {a1 : Int} {ba0 : Nat} {v1 : Value} {r : Int × (List Int × Int × Int)} (h : lens_Lens_word a0 a1 r) (σ : Sto) (hs2 : Sl (kI .u8) σ v1 a0.1) :
    Does Try.prog 81 [.pointer (some ⟨ba0, 0, none⟩), .int .i64 a1] σ [[(ba0, .cells [v1, .int .i64 a0.2.1, .int .i64 a0.2.2].toArray 140 (0, 0))]] (fun v τ gs => ∃ (v11 : Value), gs = [[(ba0, .cells [v11, .int .i64 r.2.2.1, .int .i64 r.2.2.2].toArray 140 (0, 0))]] ∧ .int .u32 r.1 = v ∧ Sl (kI .u8) τ v11 r.2.1) := by
  refine call_of Try.func81 Try.ntmps81 rfl rfl (fun cs fs => ?_)
  refine st_seq ?_
  refine st_region ?_
  refine o_box (cs := [.int .i64 a1]) rfl rfl rfl rfl rfl (fun b3 => ?_)
  refine o_assign rfl rfl rfl rfl ?_
  refine st_end ?_
  refine st_seq ?_
  refine st_region ?_
  refine o_alloc rfl rfl rfl z_zero22 (fun b4 => ?_)
  refine o_store (j := 0) (vs := [.int .u32 0]) (cs' := [.int .u32 0]) rfl rfl rfl z_size22 rfl rfl rfl (ones_cons rfl ones_nil) rfl rfl rfl ?_
  refine st_gs [[(b4, .cells [.int .u32 0].toArray 22 (0, 0))], [(b3, .cells [.int .i64 a1].toArray 3 (0, 0))], [(ba0, .cells [v1, .int .i64 a0.2.1, .int .i64 a0.2.2].toArray 140 (0, 0))]] rfl ?_
  refine st_end ?_
  refine st_seq ?_
  refine st_region ?_
  refine o_move rfl rfl rfl rfl ?_
  refine o_func rfl rfl rfl rfl rfl ?_
  obtain ⟨r5, hr6, h⟩ := h
  refine st_ord [2, 1, 0] [[(ba0, .cells [v1, .int .i64 a0.2.1, .int .i64 a0.2.2].toArray 140 (0, 0))], [(b3, .cells [.int .i64 a1].toArray 3 (0, 0))], [(b4, .cells [.int .u32 0].toArray 22 (0, 0))]] rfl ?_
  refine st_call (foot := [[(ba0, .cells [v1, .int .i64 a0.2.1, .int .i64 a0.2.2].toArray 140 (0, 0))], [(b3, .cells [.int .i64 a1].toArray 3 (0, 0))], [(b4, .cells [.int .u32 0].toArray 22 (0, 0))]]) rfl rfl rfl rfl rfl rfl (callV_fn z_en97 (lens_Lens_read__lens_Lens_word_1_ok hr6 σ hs2)) ?_
  rintro vτ7 τ7 gsτ7 hl8 ⟨v9, rfl, rfl, hs10⟩
  refine st_end ?_
  refine st_seq ?_
  refine st_region ?_
  refine o_load (j := 2) (v := .int .u32 r5.2.2) rfl rfl rfl z_sc22 rfl rfl rfl ?_
  refine o_assign rfl rfl rfl rfl ?_
  refine st_end ?_
  refine st_ord [0] [[(ba0, .cells [v9, .int .i64 r5.2.1.2.1, .int .i64 r5.2.1.2.2].toArray 140 (0, 0))]] rfl ?_
  obtain rfl := Eq.symm h
  exact st_ret (gs' := [[(ba0, .cells [v9, .int .i64 r5.2.1.2.1, .int .i64 r5.2.1.2.2].toArray 140 (0, 0))]]) Try.func81 rfl (List.Sublist.refl _) hl8 ⟨_, rfl, rfl, hs10⟩
theorem ref04_Of_ok {a0 : Int} {r : List Bool} (h : ref04_Of a0 r) (σ : Sto)  :
    Does Try.prog 100 [.int .u32 a0] σ [] (fun v τ gs => gs = [] ∧ .agg (cellsN Value.bool false 32 r).toArray = v) := by
  refine call_of Try.func100 Try.ntmps100 rfl rfl (fun cs fs => ?_)
  refine st_seq ?_
  refine st_region ?_
  refine o_alloc rfl rfl rfl z_zero166 (fun b1 => ?_)
  refine st_end ?_
  refine st_seq ?_
  refine st_region ?_
  refine o_alloc rfl rfl rfl z_zero166 (fun b2 => ?_)
  refine st_end ?_
  refine st_seq ?_
  refine st_cut (fun ρ τ3 gs => ∃ (s3 : List Bool), ref04_Of_j1 s3 r ∧ σ.Le τ3 ∧ ρ = [(2, .pointer (some ⟨b1, 0, none⟩)), (3, .pointer (some ⟨b2, 0, none⟩))] ∧ gs = [[(b1, .cells (cellsN Value.bool false 32 (List.replicate 32 false)).toArray 166 (0, 0))], [(b2, .cells (cellsN Value.bool false 32 s3).toArray 166 (0, 0))]]) ?_ (fun hk3 => ?_)
  · rintro ρ3 τ3 gs3 ⟨s3, h, hl3, rfl, rfl⟩
    refine st_seq ?_
    refine st_region ?_
    refine o_loadN (j := 1) (vs := (cellsN Value.bool false 32 s3)) rfl rfl rfl z_agg166 rfl rfl rfl ?_
    refine o_store (j := 0) (vs := (cellsN Value.bool false 32 s3)) (cs' := (cellsN Value.bool false 32 s3)) rfl rfl rfl z_size166 rfl rfl rfl ones_cellsNB rfl rfl rfl ?_
    refine st_gs [[(b1, .cells (cellsN Value.bool false 32 s3).toArray 166 (0, 0))], [(b2, .cells (cellsN Value.bool false 32 s3).toArray 166 (0, 0))]] rfl ?_
    refine st_end ?_
    obtain rfl := Eq.symm h
    exact st_retC (gs' := []) [.agg (cellsN Value.bool false 32 s3).toArray] Try.func100 ⟨⟨_, _, _, _, rfl, mem_flat 0 rfl, fun w hw => cellOfN (vs := (cellsN Value.bool false 32 s3)) z_agg166 rfl w hw⟩, trivial⟩ (by simp) hl3 ⟨rfl, rfl⟩
  refine st_seq ?_
  refine st_region ?_
  refine o_assign rfl rfl rfl rfl ?_
  refine st_end ?_
  obtain ⟨e4, hL4, hA4⟩ := h
  refine st_env (ρ' := [(0, .int .u32 a0), (2, .pointer (some ⟨b1, 0, none⟩)), (3, .pointer (some ⟨b2, 0, none⟩)), (4, .int .i64 0)]) ⟨rfl, rfl, rfl, rfl, trivial⟩ ?_
  refine st_ord [1, 0] [[(b1, .cells (cellsN Value.bool false 32 (List.replicate 32 false)).toArray 166 (0, 0))], [(b2, .cells (cellsN Value.bool false 32 (List.replicate 32 false)).toArray 166 (0, 0))]] rfl ?_
  refine st_loop hL4 (fun (s4 : Int × Int × List Bool) ρ τ4 gs => σ.Le τ4 ∧ ρ = [(0, .int .u32 s4.1), (2, .pointer (some ⟨b1, 0, none⟩)), (3, .pointer (some ⟨b2, 0, none⟩)), (4, .int .i64 s4.2.1)] ∧ gs = [[(b1, .cells (cellsN Value.bool false 32 (List.replicate 32 false)).toArray 166 (0, 0))], [(b2, .cells (cellsN Value.bool false 32 s4.2.2).toArray 166 (0, 0))]]) ⟨Sto.Le.refl _, rfl, rfl⟩ ?_
  rintro s4 o4 h he4 ρ4 τ4 gs4 ⟨hl4, rfl, rfl⟩ hn4
  refine st_seq ?_
  refine st_seq ?_
  refine st_region ?_
  refine o_move rfl rfl rfl rfl ?_
  refine o_ibin (v := .bool (decide (s4.2.1 < 32))) rfl rfl rfl rfl rfl rfl ?_
  refine st_end ?_
  refine st_cond rfl (fun hc => ?_) (fun hc => ?_)
  · replace h := (if_pos hc).mp h
    refine st_skip ?_
    refine st_seq ?_
    refine st_block ?_
    refine st_seq ?_
    refine st_region ?_
    refine o_move rfl rfl rfl rfl ?_
    refine o_move rfl rfl rfl rfl ?_
    refine o_rem rfl rfl rfl rfl rfl (by decide) ?_
    refine o_ibin (v := .bool (decide ((s4.1.tmod 2) = 1))) rfl rfl rfl rfl rfl rfl ?_
    obtain ⟨hf5, h⟩ := h
    obtain ⟨hf6, h⟩ := h
    refine o_indexA rfl rfl rfl z_arr166 rfl rfl hf5 hf6 ?_
    refine o_storeB (j := 1) (q := s4.2.1.toNat) (f := Value.bool) (zz := false) (a := (decide ((s4.1.tmod 2) = 1))) (l := 32) (xs := s4.2.2) rfl rfl rfl z_size4 rfl rfl rfl rfl rfl (by omega) (by omega) ?_
    refine st_gs [[(b1, .cells (cellsN Value.bool false 32 (List.replicate 32 false)).toArray 166 (0, 0))], [(b2, .cells (cellsN Value.bool false 32 (putN 32 false s4.2.2 s4.2.1.toNat (decide ((s4.1.tmod 2) = 1)))).toArray 166 (0, 0))]] rfl ?_
    refine st_end ?_
    refine st_region ?_
    refine o_move rfl rfl rfl rfl ?_
    refine o_quo rfl rfl rfl rfl rfl (by decide) ?_
    refine o_assign rfl rfl rfl rfl ?_
    refine st_end ?_
    refine st_inBlock ?_
    refine st_region ?_
    refine o_move rfl rfl rfl rfl ?_
    refine o_ibin (v := .int .i64 (IntKind.i64.wrap (s4.2.1 + 1))) rfl rfl rfl rfl rfl rfl ?_
    refine o_assign rfl rfl rfl rfl ?_
    refine st_end ?_
    refine st_env (ρ' := [(0, .int .u32 (IntKind.u32.wrap (s4.1.tdiv 2))), (2, .pointer (some ⟨b1, 0, none⟩)), (3, .pointer (some ⟨b2, 0, none⟩)), (4, .int .i64 (IntKind.i64.wrap (s4.2.1 + 1)))]) ⟨rfl, rfl, rfl, rfl, trivial⟩ ?_
    exact hn4 _ _ _ _ h ⟨hl4, rfl, rfl⟩
  · replace h := (if_neg (ne_t hc)).mp h
    refine st_exit rfl ?_
    obtain rfl := he4 _ h
    replace h := hA4
    refine st_env (ρ' := [(2, .pointer (some ⟨b1, 0, none⟩)), (3, .pointer (some ⟨b2, 0, none⟩))]) ⟨rfl, rfl, trivial⟩ ?_
    exact hk3 _ _ _ ⟨s4.2.2, h, hl4, rfl, rfl⟩
theorem ref04_Xor_ok {a0 : List Bool} {a1 : List Bool} {r : List Bool} (h : ref04_Xor a0 a1 r) (σ : Sto)  :
    Does Try.prog 102 [.agg (cellsN Value.bool false 32 a0).toArray, .agg (cellsN Value.bool false 32 a1).toArray] σ [] (fun v τ gs => gs = [] ∧ .agg (cellsN Value.bool false 32 r).toArray = v) := by
  refine call_of Try.func102 Try.ntmps102 rfl rfl (fun cs fs => ?_)
  refine st_seq ?_
  refine st_region ?_
  refine o_box (cs := (cellsN Value.bool false 32 a0)) rfl rfl rfl rfl rfl (fun b1 => ?_)
  refine o_box (cs := (cellsN Value.bool false 32 a1)) rfl rfl rfl rfl rfl (fun b2 => ?_)
  refine o_alloc rfl rfl rfl z_zero166 (fun b3 => ?_)
  refine st_end ?_
  refine st_seq ?_
  refine st_cut (fun ρ τ4 gs => ∃ (s4 : List Bool), ref04_Xor_j1 s4 r ∧ σ.Le τ4 ∧ ρ = [(2, .pointer (some ⟨b1, 0, none⟩)), (4, .pointer (some ⟨b3, 0, none⟩))] ∧ gs = [[(b1, .cells (cellsN Value.bool false 32 s4).toArray 166 (0, 0))], [(b3, .cells (cellsN Value.bool false 32 (List.replicate 32 false)).toArray 166 (0, 0))]]) ?_ (fun hk4 => ?_)
  · rintro ρ4 τ4 gs4 ⟨s4, h, hl4, rfl, rfl⟩
    refine st_seq ?_
    refine st_region ?_
    refine o_loadN (j := 0) (vs := (cellsN Value.bool false 32 s4)) rfl rfl rfl z_agg166 rfl rfl rfl ?_
    refine o_store (j := 1) (vs := (cellsN Value.bool false 32 s4)) (cs' := (cellsN Value.bool false 32 s4)) rfl rfl rfl z_size166 rfl rfl rfl ones_cellsNB rfl rfl rfl ?_
    refine st_gs [[(b1, .cells (cellsN Value.bool false 32 s4).toArray 166 (0, 0))], [(b3, .cells (cellsN Value.bool false 32 s4).toArray 166 (0, 0))]] rfl ?_
    refine st_end ?_
    obtain rfl := Eq.symm h
    exact st_retC (gs' := []) [.agg (cellsN Value.bool false 32 s4).toArray] Try.func102 ⟨⟨_, _, _, _, rfl, mem_flat 1 rfl, fun w hw => cellOfN (vs := (cellsN Value.bool false 32 s4)) z_agg166 rfl w hw⟩, trivial⟩ (by simp) hl4 ⟨rfl, rfl⟩
  refine st_seq ?_
  refine st_region ?_
  refine o_assign rfl rfl rfl rfl ?_
  refine st_end ?_
  obtain ⟨e5, hL5, hA5⟩ := h
  refine st_env (ρ' := [(2, .pointer (some ⟨b1, 0, none⟩)), (3, .pointer (some ⟨b2, 0, none⟩)), (4, .pointer (some ⟨b3, 0, none⟩)), (5, .int .i64 0)]) ⟨rfl, rfl, rfl, rfl, trivial⟩ ?_
  refine st_ord [2, 1, 0] [[(b1, .cells (cellsN Value.bool false 32 a0).toArray 166 (0, 0))], [(b2, .cells (cellsN Value.bool false 32 a1).toArray 166 (0, 0))], [(b3, .cells (cellsN Value.bool false 32 (List.replicate 32 false)).toArray 166 (0, 0))]] rfl ?_
  refine st_loop hL5 (fun (s5 : Int × List Bool) ρ τ5 gs => σ.Le τ5 ∧ ρ = [(2, .pointer (some ⟨b1, 0, none⟩)), (3, .pointer (some ⟨b2, 0, none⟩)), (4, .pointer (some ⟨b3, 0, none⟩)), (5, .int .i64 s5.1)] ∧ gs = [[(b1, .cells (cellsN Value.bool false 32 s5.2).toArray 166 (0, 0))], [(b2, .cells (cellsN Value.bool false 32 a1).toArray 166 (0, 0))], [(b3, .cells (cellsN Value.bool false 32 (List.replicate 32 false)).toArray 166 (0, 0))]]) ⟨Sto.Le.refl _, rfl, rfl⟩ ?_
  rintro s5 o5 h he5 ρ5 τ5 gs5 ⟨hl5, rfl, rfl⟩ hn5
  refine st_seq ?_
  refine st_seq ?_
  refine st_region ?_
  refine o_move rfl rfl rfl rfl ?_
  refine o_ibin (v := .bool (decide (s5.1 < 32))) rfl rfl rfl rfl rfl rfl ?_
  refine st_end ?_
  refine st_cond rfl (fun hc => ?_) (fun hc => ?_)
  · replace h := (if_pos hc).mp h
    refine st_skip ?_
    refine st_seq ?_
    refine st_block ?_
    obtain ⟨hf6, h⟩ := h
    obtain ⟨hf7, h⟩ := h
    obtain ⟨hf8, h⟩ := h
    obtain ⟨hf9, h⟩ := h
    refine st_draw 8 (tl [fun τ v => (.int .i64 s5.1 : Value) = v,
    fun τ v => (.int .i64 s5.1 : Value) = v,
    fun τ v => (.pointer (some ⟨b1, 0 + s5.1.toNat * 1, none⟩) : Value) = v,
    fun τ v => (.bool (s5.2.getD s5.1.toNat false) : Value) = v,
    fun τ v => (.int .i64 s5.1 : Value) = v,
    fun τ v => (.pointer (some ⟨b2, 0 + s5.1.toNat * 1, none⟩) : Value) = v,
    fun τ v => (.bool (a1.getD s5.1.toNat false) : Value) = v,
    fun τ v => (.bool (!(decide ((s5.2.getD s5.1.toNat false) = (a1.getD s5.1.toNat false)))) : Value) = v]) (fun _ _ => []) z_mix rfl (tl_mono ⟨fun _ _ _ _ h => h, ⟨fun _ _ _ _ h => h, ⟨fun _ _ _ _ h => h, ⟨fun _ _ _ _ h => h, ⟨fun _ _ _ _ h => h, ⟨fun _ _ _ _ h => h, ⟨fun _ _ _ _ h => h, ⟨fun _ _ _ _ h => h, trivial⟩⟩⟩⟩⟩⟩⟩⟩) (allB_cons (allB_cons (allB_cons (allB_cons (allB_cons (allB_cons (allB_cons (allB_cons allB_nil ?_) ?_) ?_) ?_) ?_) ?_) ?_) ?_) ?_
    · intro ρ' τ pool rs hl hd hout hk
      refine o_move rfl rfl rfl ((hout 5 rfl).trans rfl) ?_
      exact st_addNil (hk _ _ (Sto.Le.refl _) rfl)
    · intro ρ' τ pool rs hl hd hout hk
      refine o_move rfl rfl rfl ((hout 5 rfl).trans rfl) ?_
      exact st_addNil (hk _ _ (Sto.Le.refl _) rfl)
    · intro ρ' τ pool rs hl hd hout hk
      obtain ⟨_, e1, rfl⟩ := hd 1 rfl
      refine o_indexA rfl rfl rfl z_arr166 ((hout 2 rfl).trans rfl) e1 hf6 hf7 ?_
      exact st_addNil (hk _ _ (Sto.Le.refl _) rfl)
    · intro ρ' τ pool rs hl hd hout hk
      obtain ⟨_, e2, rfl⟩ := hd 2 rfl
      refine o_loadB (j := 0) (q := s5.1.toNat) (f := Value.bool) (zz := false) (l := 32) (xs := s5.2) rfl rfl rfl z_sc4 e2 rfl (by omega) (by omega) ?_
      exact st_addNil (hk _ _ (Sto.Le.refl _) rfl)
    · intro ρ' τ pool rs hl hd hout hk
      refine o_move rfl rfl rfl ((hout 5 rfl).trans rfl) ?_
      exact st_addNil (hk _ _ (Sto.Le.refl _) rfl)
    · intro ρ' τ pool rs hl hd hout hk
      obtain ⟨_, e4, rfl⟩ := hd 4 rfl
      refine o_indexA rfl rfl rfl z_arr166 ((hout 3 rfl).trans rfl) e4 hf8 hf9 ?_
      exact st_addNil (hk _ _ (Sto.Le.refl _) rfl)
    · intro ρ' τ pool rs hl hd hout hk
      obtain ⟨_, e5, rfl⟩ := hd 5 rfl
      refine o_loadB (j := 1) (q := s5.1.toNat) (f := Value.bool) (zz := false) (l := 32) (xs := a1) rfl rfl rfl z_sc4 e5 rfl (by omega) (by omega) ?_
      exact st_addNil (hk _ _ (Sto.Le.refl _) rfl)
    · intro ρ' τ pool rs hl hd hout hk
      obtain ⟨_, e3, rfl⟩ := hd 3 rfl
      obtain ⟨_, e6, rfl⟩ := hd 6 rfl
      refine o_beq (e := (!(decide ((s5.2.getD s5.1.toNat false) = (a1.getD s5.1.toNat false))))) rfl rfl rfl Try.underlying4 e3 e6 rfl ?_
      exact st_addNil (hk _ _ (Sto.Le.refl _) rfl)
    intro ρ' τ10 vals hl10 hv hout
    have l0 : Eng.look ρ' 10 = some (.int .i64 s5.1) := (hv 0 (by decide)).1.trans (congrArg some (show vals 0 = .int .i64 s5.1 from Eq.symm (hv 0 (by decide)).2))
    have l7 : Eng.look ρ' 17 = some (.bool (!(decide ((s5.2.getD s5.1.toNat false) = (a1.getD s5.1.toNat false))))) := (hv 7 (by decide)).1.trans (congrArg some (show vals 7 = .bool (!(decide ((s5.2.getD s5.1.toNat false) = (a1.getD s5.1.toNat false)))) from Eq.symm (hv 7 (by decide)).2))
    refine st_ord [0, 0, 0] [[(b1, .cells (cellsN Value.bool false 32 s5.2).toArray 166 (0, 0))], [(b2, .cells (cellsN Value.bool false 32 a1).toArray 166 (0, 0))], [(b3, .cells (cellsN Value.bool false 32 (List.replicate 32 false)).toArray 166 (0, 0))]] rfl ?_
    refine st_env (ρ' := [(10, .int .i64 s5.1), (17, .bool (!(decide ((s5.2.getD s5.1.toNat false) = (a1.getD s5.1.toNat false))))), (2, .pointer (some ⟨b1, 0, none⟩)), (3, .pointer (some ⟨b2, 0, none⟩)), (4, .pointer (some ⟨b3, 0, none⟩)), (5, .int .i64 s5.1)]) ⟨l0, l7, (hout 2 rfl).trans rfl, (hout 3 rfl).trans rfl, (hout 4 rfl).trans rfl, (hout 5 rfl).trans rfl, trivial⟩ ?_
    obtain ⟨hf11, h⟩ := h
    obtain ⟨hf12, h⟩ := h
    refine o_indexA rfl rfl rfl z_arr166 rfl rfl hf11 hf12 ?_
    refine o_storeB (j := 0) (q := s5.1.toNat) (f := Value.bool) (zz := false) (a := (!(decide ((s5.2.getD s5.1.toNat false) = (a1.getD s5.1.toNat false))))) (l := 32) (xs := s5.2) rfl rfl rfl z_size4 rfl rfl rfl rfl rfl (by omega) (by omega) ?_
    refine st_gs [[(b1, .cells (cellsN Value.bool false 32 (putN 32 false s5.2 s5.1.toNat (!(decide ((s5.2.getD s5.1.toNat false) = (a1.getD s5.1.toNat false)))))).toArray 166 (0, 0))], [(b2, .cells (cellsN Value.bool false 32 a1).toArray 166 (0, 0))], [(b3, .cells (cellsN Value.bool false 32 (List.replicate 32 false)).toArray 166 (0, 0))]] rfl ?_
    refine st_end ?_
    refine st_inBlock ?_
    refine st_region ?_
    refine o_move rfl rfl rfl rfl ?_
    refine o_ibin (v := .int .i64 (IntKind.i64.wrap (s5.1 + 1))) rfl rfl rfl rfl rfl rfl ?_
    refine o_assign rfl rfl rfl rfl ?_
    refine st_end ?_
    refine st_env (ρ' := [(2, .pointer (some ⟨b1, 0, none⟩)), (3, .pointer (some ⟨b2, 0, none⟩)), (4, .pointer (some ⟨b3, 0, none⟩)), (5, .int .i64 (IntKind.i64.wrap (s5.1 + 1)))]) ⟨rfl, rfl, rfl, rfl, trivial⟩ ?_
    exact hn5 _ _ _ _ h ⟨(hl5.trans hl10), rfl, rfl⟩
  · replace h := (if_neg (ne_t hc)).mp h
    refine st_exit rfl ?_
    obtain rfl := he5 _ h
    replace h := hA5
    refine st_env (ρ' := [(2, .pointer (some ⟨b1, 0, none⟩)), (4, .pointer (some ⟨b3, 0, none⟩))]) ⟨rfl, rfl, trivial⟩ ?_
    refine st_ord [0, 1] [[(b1, .cells (cellsN Value.bool false 32 s5.2).toArray 166 (0, 0))], [(b3, .cells (cellsN Value.bool false 32 (List.replicate 32 false)).toArray 166 (0, 0))]] rfl ?_
    exact hk4 _ _ _ ⟨s5.2, h, hl5, rfl, rfl⟩
theorem ref04_Shift_ok {a0 : List Bool} {r : List Bool} (h : ref04_Shift a0 r) (σ : Sto)  :
    Does Try.prog 101 [.agg (cellsN Value.bool false 32 a0).toArray] σ [] (fun v τ gs => gs = [] ∧ .agg (cellsN Value.bool false 32 r).toArray = v) := by
  refine call_of Try.func101 Try.ntmps101 rfl rfl (fun cs fs => ?_)
  refine st_seq ?_
  refine st_region ?_
  refine o_box (cs := (cellsN Value.bool false 32 a0)) rfl rfl rfl rfl rfl (fun b1 => ?_)
  refine o_alloc rfl rfl rfl z_zero166 (fun b2 => ?_)
  refine st_end ?_
  refine st_seq ?_
  refine st_region ?_
  obtain ⟨r3, hr4, h⟩ := h
  refine st_call (foot := []) rfl rfl rfl rfl rfl rfl (callV_fn z_en100 (ref04_Of_ok hr4 σ)) ?_
  rintro vτ5 τ5 gsτ5 hl6 ⟨rfl, rfl⟩
  refine o_alloc rfl rfl rfl z_zero166 (fun b7 => ?_)
  refine o_store (j := 0) (vs := (cellsN Value.bool false 32 r3)) (cs' := (cellsN Value.bool false 32 r3)) rfl rfl rfl z_size166 rfl rfl rfl ones_cellsNB rfl rfl rfl ?_
  refine st_gs [[(b7, .cells (cellsN Value.bool false 32 r3).toArray 166 (0, 0))], [(b2, .cells (cellsN Value.bool false 32 (List.replicate 32 false)).toArray 166 (0, 0))], [(b1, .cells (cellsN Value.bool false 32 a0).toArray 166 (0, 0))]] rfl ?_
  refine st_end ?_
  refine st_seq ?_
  refine st_cut (fun ρ τ8 gs => ∃ (s8 : List Bool), ref04_Shift_j1 s8 r ∧ τ5.Le τ8 ∧ ρ = [(1, .pointer (some ⟨b1, 0, none⟩)), (2, .pointer (some ⟨b2, 0, none⟩))] ∧ gs = [[(b1, .cells (cellsN Value.bool false 32 s8).toArray 166 (0, 0))], [(b2, .cells (cellsN Value.bool false 32 (List.replicate 32 false)).toArray 166 (0, 0))]]) ?_ (fun hk8 => ?_)
  · rintro ρ8 τ8 gs8 ⟨s8, h, hl8, rfl, rfl⟩
    refine st_seq ?_
    refine st_region ?_
    refine o_loadN (j := 0) (vs := (cellsN Value.bool false 32 s8)) rfl rfl rfl z_agg166 rfl rfl rfl ?_
    refine o_store (j := 1) (vs := (cellsN Value.bool false 32 s8)) (cs' := (cellsN Value.bool false 32 s8)) rfl rfl rfl z_size166 rfl rfl rfl ones_cellsNB rfl rfl rfl ?_
    refine st_gs [[(b1, .cells (cellsN Value.bool false 32 s8).toArray 166 (0, 0))], [(b2, .cells (cellsN Value.bool false 32 s8).toArray 166 (0, 0))]] rfl ?_
    refine st_end ?_
    obtain rfl := Eq.symm h
    exact st_retC (gs' := []) [.agg (cellsN Value.bool false 32 s8).toArray] Try.func101 ⟨⟨_, _, _, _, rfl, mem_flat 1 rfl, fun w hw => cellOfN (vs := (cellsN Value.bool false 32 s8)) z_agg166 rfl w hw⟩, trivial⟩ (by simp) (hl6.trans hl8) ⟨rfl, rfl⟩
  refine st_seq ?_
  refine st_region ?_
  refine o_assign rfl rfl rfl rfl ?_
  refine st_end ?_
  obtain ⟨e9, hL9, hA9⟩ := h
  refine st_env (ρ' := [(1, .pointer (some ⟨b1, 0, none⟩)), (2, .pointer (some ⟨b2, 0, none⟩)), (3, .pointer (some ⟨b7, 0, none⟩)), (4, .int .i64 0)]) ⟨rfl, rfl, rfl, rfl, trivial⟩ ?_
  refine st_ord [2, 1, 0] [[(b1, .cells (cellsN Value.bool false 32 a0).toArray 166 (0, 0))], [(b2, .cells (cellsN Value.bool false 32 (List.replicate 32 false)).toArray 166 (0, 0))], [(b7, .cells (cellsN Value.bool false 32 r3).toArray 166 (0, 0))]] rfl ?_
  refine st_loop hL9 (fun (s9 : Int × List Bool) ρ τ9 gs => τ5.Le τ9 ∧ ρ = [(1, .pointer (some ⟨b1, 0, none⟩)), (2, .pointer (some ⟨b2, 0, none⟩)), (3, .pointer (some ⟨b7, 0, none⟩)), (4, .int .i64 s9.1)] ∧ gs = [[(b1, .cells (cellsN Value.bool false 32 s9.2).toArray 166 (0, 0))], [(b2, .cells (cellsN Value.bool false 32 (List.replicate 32 false)).toArray 166 (0, 0))], [(b7, .cells (cellsN Value.bool false 32 r3).toArray 166 (0, 0))]]) ⟨Sto.Le.refl _, rfl, rfl⟩ ?_
  rintro s9 o9 h he9 ρ9 τ9 gs9 ⟨hl9, rfl, rfl⟩ hn9
  refine st_seq ?_
  refine st_seq ?_
  refine st_region ?_
  refine o_move rfl rfl rfl rfl ?_
  refine o_ibin (v := .bool (decide (s9.1 < 8))) rfl rfl rfl rfl rfl rfl ?_
  refine st_end ?_
  refine st_cond rfl (fun hc => ?_) (fun hc => ?_)
  · replace h := (if_pos hc).mp h
    refine st_skip ?_
    refine st_seq ?_
    refine st_cut (fun ρ τ10 gs => ∃ (s10 : List Bool), ref04_Shift_j3 s9 s10 o9 ∧ τ9.Le τ10 ∧ ρ = [(1, .pointer (some ⟨b1, 0, none⟩)), (2, .pointer (some ⟨b2, 0, none⟩)), (3, .pointer (some ⟨b7, 0, none⟩)), (4, .int .i64 s9.1)] ∧ gs = [[(b1, .cells (cellsN Value.bool false 32 s10).toArray 166 (0, 0))], [(b2, .cells (cellsN Value.bool false 32 (List.replicate 32 false)).toArray 166 (0, 0))], [(b7, .cells (cellsN Value.bool false 32 r3).toArray 166 (0, 0))]]) ?_ (fun hk10 => ?_)
    · rintro ρ10 τ10 gs10 ⟨s10, h, hl10, rfl, rfl⟩
      refine st_region ?_
      refine o_move rfl rfl rfl rfl ?_
      refine o_ibin (v := .int .i64 (IntKind.i64.wrap (s9.1 + 1))) rfl rfl rfl rfl rfl rfl ?_
      refine o_assign rfl rfl rfl rfl ?_
      refine st_end ?_
      refine st_env (ρ' := [(1, .pointer (some ⟨b1, 0, none⟩)), (2, .pointer (some ⟨b2, 0, none⟩)), (3, .pointer (some ⟨b7, 0, none⟩)), (4, .int .i64 (IntKind.i64.wrap (s9.1 + 1)))]) ⟨rfl, rfl, rfl, rfl, trivial⟩ ?_
      exact hn9 _ _ _ _ h ⟨(hl9.trans hl10), rfl, rfl⟩
    refine st_block ?_
    refine st_seq ?_
    refine st_region ?_
    refine o_indexA rfl rfl rfl z_arr166 rfl rfl (by decide) (by decide) ?_
    refine o_loadB (j := 0) (q := 0) (f := Value.bool) (zz := false) (l := 32) (xs := s9.2) rfl rfl rfl z_sc4 rfl rfl (by omega) (by omega) ?_
    refine o_assign rfl rfl rfl rfl ?_
    refine st_end ?_
    refine st_seq ?_
    refine st_cut (fun ρ τ11 gs => ∃ (s11 : List Bool), ref04_Shift_j4 r3 s9 s11 o9 ∧ τ9.Le τ11 ∧ ρ = [(1, .pointer (some ⟨b1, 0, none⟩)), (2, .pointer (some ⟨b2, 0, none⟩)), (3, .pointer (some ⟨b7, 0, none⟩)), (4, .int .i64 s9.1), (5, .bool (s9.2.getD 0 false))] ∧ gs = [[(b1, .cells (cellsN Value.bool false 32 s11).toArray 166 (0, 0))], [(b2, .cells (cellsN Value.bool false 32 (List.replicate 32 false)).toArray 166 (0, 0))], [(b7, .cells (cellsN Value.bool false 32 r3).toArray 166 (0, 0))]]) ?_ (fun hk11 => ?_)
    · rintro ρ11 τ11 gs11 ⟨s11, h, hl11, rfl, rfl⟩
      refine st_seq ?_
      refine st_region ?_
      refine o_indexA rfl rfl rfl z_arr166 rfl rfl (by decide) (by decide) ?_
      refine o_storeB (j := 0) (q := 31) (f := Value.bool) (zz := false) (a := false) (l := 32) (xs := s11) rfl rfl rfl z_size4 rfl rfl rfl rfl rfl (by omega) (by omega) ?_
      refine st_gs [[(b1, .cells (cellsN Value.bool false 32 (putN 32 false s11 31 false)).toArray 166 (0, 0))], [(b2, .cells (cellsN Value.bool false 32 (List.replicate 32 false)).toArray 166 (0, 0))], [(b7, .cells (cellsN Value.bool false 32 r3).toArray 166 (0, 0))]] rfl ?_
      refine st_end ?_
      refine st_seq ?_
      refine st_region ?_
      refine o_move rfl rfl rfl rfl ?_
      refine st_end ?_
      refine st_cond rfl (fun hc => ?_) (fun hc => ?_)
      · replace h := (if_pos hc).mp h
        refine st_region ?_
        refine o_loadN (j := 0) (vs := (cellsN Value.bool false 32 (putN 32 false s11 31 false))) rfl rfl rfl z_agg166 rfl rfl rfl ?_
        refine o_loadN (j := 2) (vs := (cellsN Value.bool false 32 r3)) rfl rfl rfl z_agg166 rfl rfl rfl ?_
        obtain ⟨r12, hr13, h⟩ := h
        refine st_call (foot := []) rfl rfl rfl rfl rfl rfl (callV_fn z_en102 (ref04_Xor_ok hr13 τ11)) ?_
        rintro vτ14 τ14 gsτ14 hl15 ⟨rfl, rfl⟩
        refine o_store (j := 0) (vs := (cellsN Value.bool false 32 r12)) (cs' := (cellsN Value.bool false 32 r12)) rfl rfl rfl z_size166 rfl rfl rfl ones_cellsNB rfl rfl rfl ?_
        refine st_gs [[(b1, .cells (cellsN Value.bool false 32 r12).toArray 166 (0, 0))], [(b2, .cells (cellsN Value.bool false 32 (List.replicate 32 false)).toArray 166 (0, 0))], [(b7, .cells (cellsN Value.bool false 32 r3).toArray 166 (0, 0))]] rfl ?_
        refine st_end ?_
        refine st_inBlock ?_
        refine st_env (ρ' := [(1, .pointer (some ⟨b1, 0, none⟩)), (2, .pointer (some ⟨b2, 0, none⟩)), (3, .pointer (some ⟨b7, 0, none⟩)), (4, .int .i64 s9.1)]) ⟨rfl, rfl, rfl, rfl, trivial⟩ ?_
        exact hk10 _ _ _ ⟨r12, h, (hl11.trans hl15), rfl, rfl⟩
      · replace h := (if_neg (ne_t hc)).mp h
        refine st_skip ?_
        refine st_inBlock ?_
        refine st_env (ρ' := [(1, .pointer (some ⟨b1, 0, none⟩)), (2, .pointer (some ⟨b2, 0, none⟩)), (3, .pointer (some ⟨b7, 0, none⟩)), (4, .int .i64 s9.1)]) ⟨rfl, rfl, rfl, rfl, trivial⟩ ?_
        exact hk10 _ _ _ ⟨(putN 32 false s11 31 false), h, hl11, rfl, rfl⟩
    refine st_seq ?_
    refine st_region ?_
    refine o_assign rfl rfl rfl rfl ?_
    refine st_end ?_
    obtain ⟨e16, hL16, hA16⟩ := h
    refine st_env (ρ' := [(1, .pointer (some ⟨b1, 0, none⟩)), (2, .pointer (some ⟨b2, 0, none⟩)), (3, .pointer (some ⟨b7, 0, none⟩)), (4, .int .i64 s9.1), (5, .bool (s9.2.getD 0 false)), (6, .int .i64 0)]) ⟨rfl, rfl, rfl, rfl, rfl, rfl, trivial⟩ ?_
    refine st_loop hL16 (fun (s16 : Int × List Bool) ρ τ16 gs => τ9.Le τ16 ∧ ρ = [(1, .pointer (some ⟨b1, 0, none⟩)), (2, .pointer (some ⟨b2, 0, none⟩)), (3, .pointer (some ⟨b7, 0, none⟩)), (4, .int .i64 s9.1), (5, .bool (s9.2.getD 0 false)), (6, .int .i64 s16.1)] ∧ gs = [[(b1, .cells (cellsN Value.bool false 32 s16.2).toArray 166 (0, 0))], [(b2, .cells (cellsN Value.bool false 32 (List.replicate 32 false)).toArray 166 (0, 0))], [(b7, .cells (cellsN Value.bool false 32 r3).toArray 166 (0, 0))]]) ⟨Sto.Le.refl _, rfl, rfl⟩ ?_
    rintro s16 o16 h he16 ρ16 τ16 gs16 ⟨hl16, rfl, rfl⟩ hn16
    refine st_seq ?_
    refine st_seq ?_
    refine st_region ?_
    refine o_move rfl rfl rfl rfl ?_
    refine o_ibin (v := .bool (decide (s16.1 < 31))) rfl rfl rfl rfl rfl rfl ?_
    refine st_end ?_
    refine st_cond rfl (fun hc => ?_) (fun hc => ?_)
    · replace h := (if_pos hc).mp h
      refine st_skip ?_
      refine st_seq ?_
      refine st_block ?_
      refine st_region ?_
      refine o_move rfl rfl rfl rfl ?_
      refine o_move rfl rfl rfl rfl ?_
      refine o_ibin (v := .int .i64 (IntKind.i64.wrap (s16.1 + 1))) rfl rfl rfl rfl rfl rfl ?_
      obtain ⟨hf17, h⟩ := h
      obtain ⟨hf18, h⟩ := h
      refine o_indexA rfl rfl rfl z_arr166 rfl rfl hf17 hf18 ?_
      refine o_loadB (j := 0) (q := (IntKind.i64.wrap (s16.1 + 1)).toNat) (f := Value.bool) (zz := false) (l := 32) (xs := s16.2) rfl rfl rfl z_sc4 rfl rfl (by omega) (by omega) ?_
      obtain ⟨hf19, h⟩ := h
      obtain ⟨hf20, h⟩ := h
      refine o_indexA rfl rfl rfl z_arr166 rfl rfl hf19 hf20 ?_
      refine o_storeB (j := 0) (q := s16.1.toNat) (f := Value.bool) (zz := false) (a := (s16.2.getD ((IntKind.i64.wrap (s16.1 + 1)).toNat) false)) (l := 32) (xs := s16.2) rfl rfl rfl z_size4 rfl rfl rfl rfl rfl (by omega) (by omega) ?_
      refine st_gs [[(b1, .cells (cellsN Value.bool false 32 (putN 32 false s16.2 s16.1.toNat (s16.2.getD ((IntKind.i64.wrap (s16.1 + 1)).toNat) false))).toArray 166 (0, 0))], [(b2, .cells (cellsN Value.bool false 32 (List.replicate 32 false)).toArray 166 (0, 0))], [(b7, .cells (cellsN Value.bool false 32 r3).toArray 166 (0, 0))]] rfl ?_
      refine st_end ?_
      refine st_inBlock ?_
      refine st_region ?_
      refine o_move rfl rfl rfl rfl ?_
      refine o_ibin (v := .int .i64 (IntKind.i64.wrap (s16.1 + 1))) rfl rfl rfl rfl rfl rfl ?_
      refine o_assign rfl rfl rfl rfl ?_
      refine st_end ?_
      refine st_env (ρ' := [(1, .pointer (some ⟨b1, 0, none⟩)), (2, .pointer (some ⟨b2, 0, none⟩)), (3, .pointer (some ⟨b7, 0, none⟩)), (4, .int .i64 s9.1), (5, .bool (s9.2.getD 0 false)), (6, .int .i64 (IntKind.i64.wrap (s16.1 + 1)))]) ⟨rfl, rfl, rfl, rfl, rfl, rfl, trivial⟩ ?_
      exact hn16 _ _ _ _ h ⟨hl16, rfl, rfl⟩
    · replace h := (if_neg (ne_t hc)).mp h
      refine st_exit rfl ?_
      obtain rfl := he16 _ h
      replace h := hA16
      refine st_env (ρ' := [(1, .pointer (some ⟨b1, 0, none⟩)), (2, .pointer (some ⟨b2, 0, none⟩)), (3, .pointer (some ⟨b7, 0, none⟩)), (4, .int .i64 s9.1), (5, .bool (s9.2.getD 0 false))]) ⟨rfl, rfl, rfl, rfl, rfl, trivial⟩ ?_
      exact hk11 _ _ _ ⟨s16.2, h, hl16, rfl, rfl⟩
  · replace h := (if_neg (ne_t hc)).mp h
    refine st_exit rfl ?_
    obtain rfl := he9 _ h
    replace h := hA9
    refine st_env (ρ' := [(1, .pointer (some ⟨b1, 0, none⟩)), (2, .pointer (some ⟨b2, 0, none⟩))]) ⟨rfl, rfl, trivial⟩ ?_
    refine st_ord [0, 0] [[(b1, .cells (cellsN Value.bool false 32 s9.2).toArray 166 (0, 0))], [(b2, .cells (cellsN Value.bool false 32 (List.replicate 32 false)).toArray 166 (0, 0))]] rfl ?_
    exact hk8 _ _ _ ⟨s9.2, h, hl9, rfl, rfl⟩
theorem ref04_Word_ok {a0 : List Bool} {r : Int} (h : ref04_Word a0 r) (σ : Sto)  :
    Does Try.prog 103 [.agg (cellsN Value.bool false 32 a0).toArray] σ [] (fun v τ gs => gs = [] ∧ .int .u32 r = v) := by
  refine call_of Try.func103 Try.ntmps103 rfl rfl (fun cs fs => ?_)
  refine st_seq ?_
  refine st_region ?_
  refine o_box (cs := (cellsN Value.bool false 32 a0)) rfl rfl rfl rfl rfl (fun b1 => ?_)
  refine o_assign rfl rfl rfl rfl ?_
  refine st_end ?_
  refine st_seq ?_
  refine st_region ?_
  refine o_assign rfl rfl rfl rfl ?_
  refine st_end ?_
  refine st_seq ?_
  refine st_cut (fun ρ τ2 gs => ∃ (s2 : Int), ref04_Word_j1 s2 r ∧ σ.Le τ2 ∧ ρ = [(2, .int .u32 0), (3, .int .u32 s2)] ∧ gs = []) ?_ (fun hk2 => ?_)
  · rintro ρ2 τ2 gs2 ⟨s2, h, hl2, rfl, rfl⟩
    refine st_seq ?_
    refine st_region ?_
    refine o_move rfl rfl rfl rfl ?_
    refine o_assign rfl rfl rfl rfl ?_
    refine st_end ?_
    obtain rfl := Eq.symm h
    exact st_ret (gs' := []) Try.func103 rfl (List.Sublist.refl _) hl2 ⟨rfl, rfl⟩
  refine st_seq ?_
  refine st_region ?_
  refine o_assign rfl rfl rfl rfl ?_
  refine st_end ?_
  obtain ⟨e3, hL3, hA3⟩ := h
  refine st_env (ρ' := [(1, .pointer (some ⟨b1, 0, none⟩)), (2, .int .u32 0), (3, .int .u32 0), (4, .int .i64 31)]) ⟨rfl, rfl, rfl, rfl, trivial⟩ ?_
  refine st_loop hL3 (fun (s3 : Int × Int) ρ τ3 gs => σ.Le τ3 ∧ ρ = [(1, .pointer (some ⟨b1, 0, none⟩)), (2, .int .u32 0), (3, .int .u32 s3.1), (4, .int .i64 s3.2)] ∧ gs = [[(b1, .cells (cellsN Value.bool false 32 a0).toArray 166 (0, 0))]]) ⟨Sto.Le.refl _, rfl, rfl⟩ ?_
  rintro s3 o3 h he3 ρ3 τ3 gs3 ⟨hl3, rfl, rfl⟩ hn3
  refine st_seq ?_
  refine st_seq ?_
  refine st_region ?_
  refine o_move rfl rfl rfl rfl ?_
  refine o_ibin (v := .bool (decide (0 ≤ s3.2))) rfl rfl rfl rfl rfl rfl ?_
  refine st_end ?_
  refine st_cond rfl (fun hc => ?_) (fun hc => ?_)
  · replace h := (if_pos hc).mp h
    refine st_skip ?_
    refine st_seq ?_
    refine st_cut (fun ρ τ4 gs => ∃ (s4 : Int), ref04_Word_j3 s3 s4 o3 ∧ τ3.Le τ4 ∧ ρ = [(1, .pointer (some ⟨b1, 0, none⟩)), (2, .int .u32 0), (3, .int .u32 s4), (4, .int .i64 s3.2)] ∧ gs = [[(b1, .cells (cellsN Value.bool false 32 a0).toArray 166 (0, 0))]]) ?_ (fun hk4 => ?_)
    · rintro ρ4 τ4 gs4 ⟨s4, h, hl4, rfl, rfl⟩
      refine st_region ?_
      refine o_move rfl rfl rfl rfl ?_
      refine o_ibin (v := .int .i64 (IntKind.i64.wrap (s3.2 - 1))) rfl rfl rfl rfl rfl rfl ?_
      refine o_assign rfl rfl rfl rfl ?_
      refine st_end ?_
      refine st_env (ρ' := [(1, .pointer (some ⟨b1, 0, none⟩)), (2, .int .u32 0), (3, .int .u32 s4), (4, .int .i64 (IntKind.i64.wrap (s3.2 - 1)))]) ⟨rfl, rfl, rfl, rfl, trivial⟩ ?_
      exact hn3 _ _ _ _ h ⟨(hl3.trans hl4), rfl, rfl⟩
    refine st_block ?_
    refine st_seq ?_
    refine st_region ?_
    refine o_move rfl rfl rfl rfl ?_
    refine o_ibin (v := .int .u32 (IntKind.u32.wrap (2 * s3.1))) rfl rfl rfl rfl rfl rfl ?_
    refine o_assign rfl rfl rfl rfl ?_
    refine st_end ?_
    refine st_seq ?_
    refine st_region ?_
    refine o_move rfl rfl rfl rfl ?_
    obtain ⟨hf5, h⟩ := h
    obtain ⟨hf6, h⟩ := h
    refine o_indexA rfl rfl rfl z_arr166 rfl rfl hf5 hf6 ?_
    refine o_loadB (j := 0) (q := s3.2.toNat) (f := Value.bool) (zz := false) (l := 32) (xs := a0) rfl rfl rfl z_sc4 rfl rfl (by omega) (by omega) ?_
    refine st_end ?_
    refine st_cond rfl (fun hc => ?_) (fun hc => ?_)
    · replace h := (if_pos hc).mp h
      refine st_region ?_
      refine o_move rfl rfl rfl rfl ?_
      refine o_ibin (v := .int .u32 (IntKind.u32.wrap ((IntKind.u32.wrap (2 * s3.1)) + 1))) rfl rfl rfl rfl rfl rfl ?_
      refine o_assign rfl rfl rfl rfl ?_
      refine st_end ?_
      refine st_inBlock ?_
      refine st_env (ρ' := [(1, .pointer (some ⟨b1, 0, none⟩)), (2, .int .u32 0), (3, .int .u32 (IntKind.u32.wrap ((IntKind.u32.wrap (2 * s3.1)) + 1))), (4, .int .i64 s3.2)]) ⟨rfl, rfl, rfl, rfl, trivial⟩ ?_
      exact hk4 _ _ _ ⟨(IntKind.u32.wrap ((IntKind.u32.wrap (2 * s3.1)) + 1)), h, (Sto.Le.refl _), rfl, rfl⟩
    · replace h := (if_neg (ne_t hc)).mp h
      refine st_skip ?_
      refine st_inBlock ?_
      refine st_env (ρ' := [(1, .pointer (some ⟨b1, 0, none⟩)), (2, .int .u32 0), (3, .int .u32 (IntKind.u32.wrap (2 * s3.1))), (4, .int .i64 s3.2)]) ⟨rfl, rfl, rfl, rfl, trivial⟩ ?_
      exact hk4 _ _ _ ⟨(IntKind.u32.wrap (2 * s3.1)), h, (Sto.Le.refl _), rfl, rfl⟩
  · replace h := (if_neg (ne_t hc)).mp h
    refine st_exit rfl ?_
    obtain rfl := he3 _ h
    replace h := hA3
    refine st_env (ρ' := [(2, .int .u32 0), (3, .int .u32 s3.1)]) ⟨rfl, rfl, trivial⟩ ?_
    refine st_ord [] [] rfl ?_
    exact hk2 _ _ _ ⟨s3.1, h, hl3, rfl, rfl⟩
end Go.Rel
