import Derived.Test.YtgokdchgjpneoaaDoorURel
import Derived.Test.YtgokdchgjpneoaaDoorUFacts
import Derived.Test.YtgokdchgjpneoaaDoorUWalk1
/-! The walks. -/
set_option linter.unusedVariables false
set_option linter.unusedSimpArgs false
set_option maxRecDepth 4000
set_option maxHeartbeats 4000000
namespace Go.Rel
open Go Go.Eng Go.Proofs
theorem law08_FramePacks_ok {a0 : List ((Int × Int × Int × Int × Int) × List Int)} {v1 : Value} {r : Bool} (h : law08_FramePacks a0 r) (σ : Sto) (hs2 : Sl (kP (kP (kI .i64) (kP (kI .i64) (kP (kI .u32) (kP (kI .i64) (kI .i64))))) (kSl (kI .u8))) σ v1 a0) (hT : Tab Tryd.prog σ) :
    Does Tryd.prog 9 [v1] σ [] (fun v τ gs => gs = [] ∧ .bool r = v) := by
  refine call_of Tryd.func9 Tryd.ntmps9 rfl rfl (fun cs fs => ?_)
  refine st_seq ?_
  refine st_region ?_
  refine o_alloc rfl rfl rfl z_zero4 (fun b3 => ?_)
  refine st_end ?_
  refine st_seq ?_
  refine st_region ?_
  obtain ⟨r4, hr5, h⟩ := h
  refine st_call (foot := []) rfl rfl rfl rfl rfl rfl (callV_fn z_en40 (frame_New_ok hr5 σ)) ?_
  rintro vτ6 τ6 gsτ6 hl7 ⟨bi10, bi8, rfl, rfl, hc11, hc9⟩
  refine o_assign rfl rfl rfl rfl ?_
  refine st_end ?_
  refine st_seq ?_
  refine st_region ?_
  refine o_alloc rfl rfl rfl z_zero80 (fun b12 => ?_)
  refine st_end ?_
  refine st_seq ?_
  refine st_region ?_
  refine o_assign rfl rfl rfl rfl ?_
  refine st_end ?_
  refine st_seq ?_
  refine st_region ?_
  refine o_assign rfl rfl rfl rfl ?_
  refine st_end ?_
  refine st_seq ?_
  refine st_cut (fun ρ τ13 gs => ∃ (s13 : (List ((Int × Int × Int × Int × Int) × List Int)) × Int × (List ((Int × Int × Int × Int × Int) × List Int))) (v14 : Value) (g15 : Grp) (v17 : Value) (g18 : Grp), law08_FramePacks_j1 r4 s13 r ∧ τ6.Le τ13 ∧ ρ = [(2, .pointer (some ⟨b3, 0, none⟩)), (3, .pointer (some ⟨bi8, 0, none⟩)), (4, .pointer (some ⟨b12, 0, none⟩)), (5, v14), (6, .int .i64 s13.2.1)] ∧ gs = [[(b3, .cells [.bool false].toArray 4 (0, 0))], [(b12, .cells [v17].toArray 80 (0, 0))], g15, g18] ∧ Ow (kP (kP (kI .i64) (kP (kI .i64) (kP (kI .u32) (kP (kI .i64) (kI .i64))))) (kSl (kI .u8))) 91 τ13 v14 s13.1 g15 ∧ Ow (kP (kP (kI .i64) (kP (kI .i64) (kP (kI .u32) (kP (kI .i64) (kI .i64))))) (kSl (kI .u8))) 87 τ13 v17 s13.2.2 g18) ?_ (fun hk13 => ?_)
  · rintro ρ13 τ13 gs13 ⟨s13, v14, g15, v17, g18, h, hl13, rfl, rfl, ho16, ho19⟩
    refine st_seq ?_
    refine st_region ?_
    refine o_move rfl rfl rfl rfl ?_
    refine o_load (j := 1) (v := v17) rfl rfl rfl z_sc80 rfl rfl rfl ?_
    obtain ⟨r25, hr26, h⟩ := h
    refine st_ord [3, 0, 0, 0] [g18, [(b3, .cells [.bool false].toArray 4 (0, 0))], [(b12, .cells [v17].toArray 80 (0, 0))], g15] rfl ?_
    refine st_freeze (fun τ20 hl21 hg22 => ?_)
    have hs23 := ho19.freeze hl21 hg22
    refine st_call (foot := []) rfl rfl rfl rfl rfl rfl (callV_fn z_en49 (frame_Codec_Pack_ok hr26 τ20 (hc11.up (hl13.trans hl21)) (hc9.up (hl13.trans hl21)) hs23)) ?_
    rintro vτ27 τ27 gsτ27 hl28 ⟨v29, rfl, rfl, hs30⟩
    refine o_move rfl rfl rfl rfl ?_
    refine o_extract rfl rfl rfl rfl rfl ?_
    refine o_extract rfl rfl rfl rfl rfl ?_
    refine o_assign rfl rfl rfl rfl ?_
    refine o_assign rfl rfl rfl rfl ?_
    refine st_end ?_
    refine st_seq ?_
    refine st_seq ?_
    refine st_cut (fun ρ τ31 gs => ∃ (s31 : Bool), law08_FramePacks_j2 r4 s13 r25 s31 r ∧ τ27.Le τ31 ∧ ρ = [(2, .pointer (some ⟨b3, 0, none⟩)), (3, .pointer (some ⟨bi8, 0, none⟩)), (4, .pointer (some ⟨b12, 0, none⟩)), (5, v14), (6, .int .i64 s13.2.1), (10, v29), (11, .int .i64 r25.2), (92, .bool s31)] ∧ gs = [[(b3, .cells [.bool false].toArray 4 (0, 0))], [(b12, .cells [v17].toArray 80 (0, 0))], g15]) ?_ (fun hk31 => ?_)
    · rintro ρ31 τ31 gs31 ⟨s31, h, hl31, rfl, rfl⟩
      refine st_cond rfl (fun hc => ?_) (fun hc => ?_)
      · replace h := (if_pos hc).mp h
        refine st_seq ?_
        refine st_cut (fun ρ τ32 gs => ∃ (s32 : Bool), law08_FramePacks_j3 s32 r ∧ τ31.Le τ32 ∧ ρ = [(2, .pointer (some ⟨b3, 0, none⟩)), (3, .pointer (some ⟨bi8, 0, none⟩)), (4, .pointer (some ⟨b12, 0, none⟩)), (5, v14), (10, v29)] ∧ gs = [[(b3, .cells [.bool s32].toArray 4 (0, 0))], [(b12, .cells [v17].toArray 80 (0, 0))], g15]) ?_ (fun hk32 => ?_)
        · rintro ρ32 τ32 gs32 ⟨s32, h, hl32, rfl, rfl⟩
          obtain rfl := Eq.symm h
          exact st_retC (gs' := []) [.bool s32] Tryd.func9 ⟨⟨_, _, _, _, rfl, mem_flat 0 rfl, fun w hw => cellOf z_sc4 rfl w hw⟩, trivial⟩ (by simp) (((((hl7.trans hl13).trans hl21).trans hl28).trans hl31).trans hl32) ⟨rfl, rfl⟩
        refine st_region ?_
        obtain ⟨r33, hr34, h⟩ := h
        refine st_call (foot := []) rfl rfl rfl rfl rfl rfl (callV_fn z_en50 (law08_known_ok hr34 τ31)) ?_
        rintro vτ35 τ35 gsτ35 hl36 ⟨rfl, rfl⟩
        refine o_moveB rfl rfl rfl rfl (fun hc => ?_) (fun hc => ?_)
        · replace h := (if_pos hc).mp h
          refine o_move rfl rfl rfl rfl ?_
          refine o_move rfl rfl rfl rfl ?_
          refine o_ibin (v := .bool (decide (r25.2 = s13.2.1))) rfl rfl rfl rfl rfl rfl ?_
          refine o_pick rfl rfl rfl rfl rfl ?_
          refine o_moveB rfl rfl rfl rfl (fun hc => ?_) (fun hc => ?_)
          · replace h := (if_pos hc).mp h
            refine o_move rfl rfl rfl rfl ?_
            refine o_lenI rfl rfl rfl z_slT67 rfl (hs30.up (hl31.trans hl36)) ?_
            refine o_ibin (v := .bool (decide ((r25.1.length : Int) = 0))) rfl rfl rfl rfl rfl rfl ?_
            refine o_pick rfl rfl rfl rfl rfl ?_
            refine o_store (j := 0) (vs := [.bool (decide ((r25.1.length : Int) = 0))]) (cs' := [.bool (decide ((r25.1.length : Int) = 0))]) rfl rfl rfl z_size4 rfl rfl rfl (ones_cons rfl ones_nil) rfl rfl rfl ?_
            refine st_gs [[(b3, .cells [.bool (decide ((r25.1.length : Int) = 0))].toArray 4 (0, 0))], [(b12, .cells [v17].toArray 80 (0, 0))], g15] rfl ?_
            refine st_end ?_
            refine st_env (ρ' := [(2, .pointer (some ⟨b3, 0, none⟩)), (3, .pointer (some ⟨bi8, 0, none⟩)), (4, .pointer (some ⟨b12, 0, none⟩)), (5, v14), (10, v29)]) ⟨rfl, rfl, rfl, rfl, rfl, trivial⟩ ?_
            exact hk32 _ _ _ ⟨(decide ((r25.1.length : Int) = 0)), h, hl36, rfl, rfl⟩
          · replace h := (if_neg (ne_t hc)).mp h
            refine st_pass rfl rfl rfl rfl rfl rfl ?_
            refine st_pass rfl rfl rfl rfl rfl rfl ?_
            refine st_pass rfl rfl rfl rfl rfl rfl ?_
            refine o_pick rfl rfl rfl rfl rfl ?_
            refine o_store (j := 0) (vs := [.bool false]) (cs' := [.bool false]) rfl rfl rfl z_size4 rfl rfl rfl (ones_cons rfl ones_nil) rfl rfl rfl ?_
            refine st_gs [[(b3, .cells [.bool false].toArray 4 (0, 0))], [(b12, .cells [v17].toArray 80 (0, 0))], g15] rfl ?_
            refine st_end ?_
            refine st_env (ρ' := [(2, .pointer (some ⟨b3, 0, none⟩)), (3, .pointer (some ⟨bi8, 0, none⟩)), (4, .pointer (some ⟨b12, 0, none⟩)), (5, v14), (10, v29)]) ⟨rfl, rfl, rfl, rfl, rfl, trivial⟩ ?_
            exact hk32 _ _ _ ⟨false, h, hl36, rfl, rfl⟩
        · replace h := (if_neg (ne_t hc)).mp h
          refine st_pass rfl rfl rfl rfl rfl rfl ?_
          refine st_pass rfl rfl rfl rfl rfl rfl ?_
          refine st_pass rfl rfl rfl rfl rfl rfl ?_
          refine o_pick rfl rfl rfl rfl rfl ?_
          refine o_move rfl rfl rfl rfl ?_
          refine st_pass rfl rfl rfl rfl rfl rfl ?_
          refine st_pass rfl rfl rfl rfl rfl rfl ?_
          refine st_pass rfl rfl rfl rfl rfl rfl ?_
          refine o_pick rfl rfl rfl rfl rfl ?_
          refine o_store (j := 0) (vs := [.bool false]) (cs' := [.bool false]) rfl rfl rfl z_size4 rfl rfl rfl (ones_cons rfl ones_nil) rfl rfl rfl ?_
          refine st_gs [[(b3, .cells [.bool false].toArray 4 (0, 0))], [(b12, .cells [v17].toArray 80 (0, 0))], g15] rfl ?_
          refine st_end ?_
          refine st_env (ρ' := [(2, .pointer (some ⟨b3, 0, none⟩)), (3, .pointer (some ⟨bi8, 0, none⟩)), (4, .pointer (some ⟨b12, 0, none⟩)), (5, v14), (10, v29)]) ⟨rfl, rfl, rfl, rfl, rfl, trivial⟩ ?_
          exact hk32 _ _ _ ⟨false, h, hl36, rfl, rfl⟩
      · replace h := (if_neg (ne_t hc)).mp h
        refine st_skip ?_
        refine st_seq ?_
        refine st_region ?_
        refine o_alloc rfl rfl rfl z_zero3 (fun b37 => ?_)
        refine o_store (j := 0) (vs := [.int .i64 0]) (cs' := [.int .i64 0]) rfl rfl rfl z_size3 rfl rfl rfl (ones_cons rfl ones_nil) rfl rfl rfl ?_
        refine st_gs [[(b37, .cells [.int .i64 0].toArray 3 (0, 0))], [(b3, .cells [.bool false].toArray 4 (0, 0))], [(b12, .cells [v17].toArray 80 (0, 0))], g15] rfl ?_
        refine st_end ?_
        refine st_seq ?_
        refine st_region ?_
        refine o_move rfl rfl rfl rfl ?_
        refine o_move rfl rfl rfl rfl ?_
        obtain ⟨r38, hr39, h⟩ := h
        refine st_call (foot := []) rfl rfl rfl rfl rfl rfl (callV_fn z_en51 (frame_Codec_Frames_ok hr39 τ31 (hc11.up (((hl13.trans hl21).trans hl28).trans hl31)) (hc9.up (((hl13.trans hl21).trans hl28).trans hl31)) (hs30.up hl31))) ?_
        rintro vτ40 τ40 gsτ40 hl41 ⟨f42, q43, rfl, rfl, hit44⟩
        refine o_assign rfl rfl rfl rfl ?_
        refine st_end ?_
        refine st_seq ?_
        refine st_seq ?_
        refine st_region ?_
        refine o_move rfl rfl rfl rfl ?_
        refine o_fnNil (b := false) rfl rfl rfl Tryd.underlying102 rfl rfl rfl ?_
        refine st_end ?_
        refine st_condF rfl ?_
        refine st_skip ?_
        refine st_seq ?_
        refine st_seq ?_
        refine st_region ?_
        refine o_move rfl rfl rfl rfl ?_
        refine st_end ?_
        refine st_block ?_
        obtain ⟨t45, w45, hR45, hA45⟩ := h
        refine st_env (ρ' := [(2, .pointer (some ⟨b3, 0, none⟩)), (4, .pointer (some ⟨b12, 0, none⟩)), (5, v14), (10, v29), (12, .pointer (some ⟨b37, 0, none⟩)), (109, .func (.func f42) #[] q43)]) ⟨rfl, rfl, rfl, rfl, rfl, rfl, trivial⟩ ?_
        refine st_ord [1, 1, 0, 0] [[(b3, .cells [.bool false].toArray 4 (0, 0))], [(b12, .cells [v17].toArray 80 (0, 0))], [(b37, .cells [.int .i64 0].toArray 3 (0, 0))], g15] rfl ?_
        refine st_addNil ?_
        refine st_range (B := law08_FramePacks_l4 s13) (s0 := 0) ranges_fctx rfl hit44 (Sto.Le.refl _) hR45 rfl (fun _ _ _ h => by obtain ⟨_, rfl, _⟩ := h; rfl) (fun (s45 : Int) τ45 gs => τ40.Le τ45 ∧ gs = [[(b3, .cells [.bool false].toArray 4 (0, 0))], [(b12, .cells [v17].toArray 80 (0, 0))], [(b37, .cells [.int .i64 s45].toArray 3 (0, 0))], g15]) (fun (p62 : Int) cd τ63 gs => cd = .ret ∧ τ40.Le τ63 ∧ gs = [[(b3, .cells [.bool false].toArray 4 (0, 0))], [(b12, .cells [v17].toArray 80 (0, 0))], [(b37, .cells [.int .i64 p62].toArray 3 (0, 0))], g15]) (fun _ _ _ _ hl ⟨hb, hg⟩ => ⟨hb.trans hl, hg⟩) (fun _ _ _ _ _ hl ⟨hc, hb, hg⟩ => ⟨hc, hb.trans hl, hg⟩) ⟨Sto.Le.refl _, rfl⟩ ?_ ?_ ?_
        · rintro x45 s45 o45 τ45 gs45 vx45 hl45 h ⟨v46, rfl, hs47⟩ ⟨hb45, rfl⟩ l45 rc45 caller45 cs45 fs45
          refine st_seq ?_
          refine st_region ?_
          refine o_alloc rfl rfl rfl z_zero87 (fun b48 => ?_)
          refine o_store (j := 0) (vs := [.int .i64 x45.1.1.1, .int .i64 x45.1.1.2.1, .int .u32 x45.1.1.2.2.1, .int .i64 x45.1.1.2.2.2.1, .int .i64 x45.1.1.2.2.2.2, v46]) (cs' := [.int .i64 x45.1.1.1, .int .i64 x45.1.1.2.1, .int .u32 x45.1.1.2.2.1, .int .i64 x45.1.1.2.2.2.1, .int .i64 x45.1.1.2.2.2.2, v46]) rfl rfl rfl z_size87 rfl rfl rfl (ones_cons rfl (ones_cons rfl (ones_cons rfl (ones_cons rfl (ones_cons rfl (ones_cons hs47.one' ones_nil)))))) rfl rfl rfl ?_
          refine st_gs [[(b48, .cells [.int .i64 x45.1.1.1, .int .i64 x45.1.1.2.1, .int .u32 x45.1.1.2.2.1, .int .i64 x45.1.1.2.2.2.1, .int .i64 x45.1.1.2.2.2.2, v46].toArray 87 (0, 0))], [(b3, .cells [.bool false].toArray 4 (0, 0))], [(b12, .cells [v17].toArray 80 (0, 0))], [(b37, .cells [.int .i64 s45].toArray 3 (0, 0))], g15] rfl ?_
          refine st_end ?_
          refine st_region ?_
          refine o_assign rfl rfl rfl rfl ?_
          refine st_end ?_
          refine st_begin ?_
          refine st_block ?_
          refine st_seq ?_
          refine st_seq ?_
          obtain ⟨q49, hf50, h⟩ := h
          obtain ⟨r57, hr58, h⟩ := h
          refine st_draw 17 (tl [fun τ v => (.int .i64 s45 : Value) = v,
    fun τ v => (v17 : Value) = v,
    fun τ v => (.int .i64 (s13.2.2.length : Int) : Value) = v,
    fun τ v => (.bool (decide ((s13.2.2.length : Int) ≤ s45)) : Value) = v,
    fun τ v => (.bool (decide ((s13.2.2.length : Int) ≤ s45)) : Value) = v,
    fun τ v => (((decide ((s13.2.2.length : Int) ≤ s45)) = false) → (.int .i64 x45.2 : Value) = v) ∧ (¬ ((decide ((s13.2.2.length : Int) ≤ s45)) = false) → v = undef),
    fun τ v => (((decide ((s13.2.2.length : Int) ≤ s45)) = false) → (.bool (!(decide (x45.2 = 0))) : Value) = v) ∧ (¬ ((decide ((s13.2.2.length : Int) ≤ s45)) = false) → v = undef),
    fun τ v => (.bool ((decide ((s13.2.2.length : Int) ≤ s45)) || (!(decide (x45.2 = 0)))) : Value) = v,
    fun τ v => (.bool ((decide ((s13.2.2.length : Int) ≤ s45)) || (!(decide (x45.2 = 0)))) : Value) = v,
    fun τ v => ((((decide ((s13.2.2.length : Int) ≤ s45)) || (!(decide (x45.2 = 0)))) = false) → (.agg [.int .i64 x45.1.1.1, .int .i64 x45.1.1.2.1, .int .u32 x45.1.1.2.2.1, .int .i64 x45.1.1.2.2.2.1, .int .i64 x45.1.1.2.2.2.2, v46].toArray : Value) = v) ∧ (¬ (((decide ((s13.2.2.length : Int) ≤ s45)) || (!(decide (x45.2 = 0)))) = false) → v = undef),
    fun τ v => ((((decide ((s13.2.2.length : Int) ≤ s45)) || (!(decide (x45.2 = 0)))) = false) → (v17 : Value) = v) ∧ (¬ (((decide ((s13.2.2.length : Int) ≤ s45)) || (!(decide (x45.2 = 0)))) = false) → v = undef),
    fun τ v => ((((decide ((s13.2.2.length : Int) ≤ s45)) || (!(decide (x45.2 = 0)))) = false) → (.int .i64 s45 : Value) = v) ∧ (¬ (((decide ((s13.2.2.length : Int) ≤ s45)) || (!(decide (x45.2 = 0)))) = false) → v = undef),
    fun τ v => ((((decide ((s13.2.2.length : Int) ≤ s45)) || (!(decide (x45.2 = 0)))) = false) → ∃ (b51 : Nat) (of52 : Nat) (vsb51 : List Value), (.pointer (some ⟨b51, of52, none⟩) : Value) = v ∧ CelN τ ⟨b51, of52, none⟩ vsb51 ∧ (kP (kP (kI .i64) (kP (kI .i64) (kP (kI .u32) (kP (kI .i64) (kI .i64))))) (kSl (kI .u8))).rep τ vsb51 q49) ∧ (¬ (((decide ((s13.2.2.length : Int) ≤ s45)) || (!(decide (x45.2 = 0)))) = false) → v = undef),
    fun τ v => ((((decide ((s13.2.2.length : Int) ≤ s45)) || (!(decide (x45.2 = 0)))) = false) → ∃ (v53 : Value), (.agg [.int .i64 q49.1.1, .int .i64 q49.1.2.1, .int .u32 q49.1.2.2.1, .int .i64 q49.1.2.2.2.1, .int .i64 q49.1.2.2.2.2, v53].toArray : Value) = v ∧ Sl (kI .u8) τ v53 q49.2) ∧ (¬ (((decide ((s13.2.2.length : Int) ≤ s45)) || (!(decide (x45.2 = 0)))) = false) → v = undef),
    fun τ v => ((((decide ((s13.2.2.length : Int) ≤ s45)) || (!(decide (x45.2 = 0)))) = false) → (.bool r57 : Value) = v) ∧ (¬ (((decide ((s13.2.2.length : Int) ≤ s45)) || (!(decide (x45.2 = 0)))) = false) → v = undef),
    fun τ v => ((((decide ((s13.2.2.length : Int) ≤ s45)) || (!(decide (x45.2 = 0)))) = false) → (.bool (!r57) : Value) = v) ∧ (¬ (((decide ((s13.2.2.length : Int) ≤ s45)) || (!(decide (x45.2 = 0)))) = false) → v = undef),
    fun τ v => (.bool (((decide ((s13.2.2.length : Int) ≤ s45)) || (!(decide (x45.2 = 0)))) || (!r57)) : Value) = v]) (fun _ _ => []) z_mix rfl (tl_mono ⟨fun _ _ _ _ h => h, ⟨fun _ _ _ _ h => h, ⟨fun _ _ _ _ h => h, ⟨fun _ _ _ _ h => h, ⟨fun _ _ _ _ h => h, ⟨fun _ _ _ _ h => h, ⟨fun _ _ _ _ h => h, ⟨fun _ _ _ _ h => h, ⟨fun _ _ _ _ h => h, ⟨fun _ _ _ _ h => h, ⟨fun _ _ _ _ h => h, ⟨fun _ _ _ _ h => h, ⟨fun _ _ _ hl ⟨h1, h2⟩ => ⟨fun hC => let ⟨b51, of52, vsb51, hv, hc54, hrepb51⟩ := h1 hC; ⟨b51, of52, vsb51, hv, hc54.up hl, Kd.mono _ hl hrepb51⟩, h2⟩, ⟨fun _ _ _ hl ⟨h1, h2⟩ => ⟨fun hC => let ⟨v53, hv, hs56⟩ := h1 hC; ⟨v53, hv, hs56.up hl⟩, h2⟩, ⟨fun _ _ _ _ h => h, ⟨fun _ _ _ _ h => h, ⟨fun _ _ _ _ h => h, trivial⟩⟩⟩⟩⟩⟩⟩⟩⟩⟩⟩⟩⟩⟩⟩⟩⟩) (allB_cons (allB_cons (allB_cons (allB_cons (allB_cons (allB_cons (allB_cons (allB_cons (allB_cons (allB_cons (allB_cons (allB_cons (allB_cons (allB_cons (allB_cons (allB_cons (allB_cons allB_nil ?_) ?_) ?_) ?_) ?_) ?_) ?_) ?_) ?_) ?_) ?_) ?_) ?_) ?_) ?_) ?_) ?_) ?_
          · intro ρ' τ pool rs hl hd hout hk
            refine o_load (j := 3) (v := .int .i64 s45) rfl rfl rfl z_sc3 ((hout 12 rfl).trans rfl) rfl rfl ?_
            exact st_addNil (hk _ _ (Sto.Le.refl _) rfl)
          · intro ρ' τ pool rs hl hd hout hk
            refine o_load (j := 2) (v := v17) rfl rfl rfl z_sc80 ((hout 4 rfl).trans rfl) rfl rfl ?_
            exact st_addNil (hk _ _ (Sto.Le.refl _) rfl)
          · intro ρ' τ pool rs hl hd hout hk
            obtain ⟨_, e1, rfl⟩ := hd 1 rfl
            refine o_lenI rfl rfl rfl z_slT80 e1 (hs23.up ((((hl28.trans hl31).trans hl41).trans hl45).trans hl)) ?_
            exact st_addNil (hk _ _ (Sto.Le.refl _) rfl)
          · intro ρ' τ pool rs hl hd hout hk
            obtain ⟨_, e0, rfl⟩ := hd 0 rfl
            obtain ⟨_, e2, rfl⟩ := hd 2 rfl
            refine o_ibin (v := .bool (decide ((s13.2.2.length : Int) ≤ s45))) rfl rfl rfl e0 e2 rfl ?_
            exact st_addNil (hk _ _ (Sto.Le.refl _) rfl)
          · intro ρ' τ pool rs hl hd hout hk
            obtain ⟨_, e3, rfl⟩ := hd 3 rfl
            refine o_move rfl rfl rfl e3 ?_
            exact st_addNil (hk _ _ (Sto.Le.refl _) rfl)
          · intro ρ' τ pool rs hl hd hout hk
            obtain ⟨_, e4, rfl⟩ := hd 4 rfl
            by_cases hG : (decide ((s13.2.2.length : Int) ≤ s45)) = false
            · have hC := hG
              refine o_move rfl (wants_of rfl e4 hG) rfl ((hout 15 rfl).trans rfl) ?_
              exact st_addNil (hk _ _ (Sto.Le.refl _) ⟨fun _ => rfl, fun hn => absurd hC hn⟩)
            · refine st_pass rfl rfl rfl e4 (beq_off hG) rfl ?_
              exact st_addNil (hk _ _ (Sto.Le.refl _) ⟨fun h => absurd h hG, fun _ => rfl⟩)
          · intro ρ' τ pool rs hl hd hout hk
            obtain ⟨_, e4, rfl⟩ := hd 4 rfl
            obtain ⟨w5, e5, t5⟩ := hd 5 rfl
            by_cases hG : (decide ((s13.2.2.length : Int) ≤ s45)) = false
            · have hC := hG
              obtain ⟨rfl⟩ := t5.1 hC
              refine o_ibin (v := .bool (!(decide (x45.2 = 0)))) rfl (wants_of rfl e4 hG) rfl e5 rfl rfl ?_
              exact st_addNil (hk _ _ (Sto.Le.refl _) ⟨fun _ => rfl, fun hn => absurd hC hn⟩)
            · refine st_pass rfl rfl rfl e4 (beq_off hG) rfl ?_
              exact st_addNil (hk _ _ (Sto.Le.refl _) ⟨fun h => absurd h hG, fun _ => rfl⟩)
          · intro ρ' τ pool rs hl hd hout hk
            obtain ⟨_, e4, rfl⟩ := hd 4 rfl
            obtain ⟨w6, e6, t6⟩ := hd 6 rfl
            refine o_pickOr rfl rfl rfl e4 rfl (fun hp => e6.trans (congrArg some (Eq.symm (t6.1 hp)))) ?_
            exact st_addNil (hk _ _ (Sto.Le.refl _) rfl)
          · intro ρ' τ pool rs hl hd hout hk
            obtain ⟨_, e7, rfl⟩ := hd 7 rfl
            refine o_move rfl rfl rfl e7 ?_
            exact st_addNil (hk _ _ (Sto.Le.refl _) rfl)
          · intro ρ' τ pool rs hl hd hout hk
            obtain ⟨_, e8, rfl⟩ := hd 8 rfl
            by_cases hG : ((decide ((s13.2.2.length : Int) ≤ s45)) || (!(decide (x45.2 = 0)))) = false
            · have hC := hG
              refine o_loadN (j := 0) (vs := [.int .i64 x45.1.1.1, .int .i64 x45.1.1.2.1, .int .u32 x45.1.1.2.2.1, .int .i64 x45.1.1.2.2.2.1, .int .i64 x45.1.1.2.2.2.2, v46]) rfl (wants_of rfl e8 hG) rfl z_agg87 ((hout 14 rfl).trans rfl) rfl rfl ?_
              exact st_addNil (hk _ _ (Sto.Le.refl _) ⟨fun _ => rfl, fun hn => absurd hC hn⟩)
            · refine st_pass rfl rfl rfl e8 (beq_off hG) rfl ?_
              exact st_addNil (hk _ _ (Sto.Le.refl _) ⟨fun h => absurd h hG, fun _ => rfl⟩)
          · intro ρ' τ pool rs hl hd hout hk
            obtain ⟨_, e8, rfl⟩ := hd 8 rfl
            by_cases hG : ((decide ((s13.2.2.length : Int) ≤ s45)) || (!(decide (x45.2 = 0)))) = false
            · have hC := hG
              refine o_load (j := 2) (v := v17) rfl (wants_of rfl e8 hG) rfl z_sc80 ((hout 4 rfl).trans rfl) rfl rfl ?_
              exact st_addNil (hk _ _ (Sto.Le.refl _) ⟨fun _ => rfl, fun hn => absurd hC hn⟩)
            · refine st_pass rfl rfl rfl e8 (beq_off hG) rfl ?_
              exact st_addNil (hk _ _ (Sto.Le.refl _) ⟨fun h => absurd h hG, fun _ => rfl⟩)
          · intro ρ' τ pool rs hl hd hout hk
            obtain ⟨_, e8, rfl⟩ := hd 8 rfl
            by_cases hG : ((decide ((s13.2.2.length : Int) ≤ s45)) || (!(decide (x45.2 = 0)))) = false
            · have hC := hG
              refine o_load (j := 3) (v := .int .i64 s45) rfl (wants_of rfl e8 hG) rfl z_sc3 ((hout 12 rfl).trans rfl) rfl rfl ?_
              exact st_addNil (hk _ _ (Sto.Le.refl _) ⟨fun _ => rfl, fun hn => absurd hC hn⟩)
            · refine st_pass rfl rfl rfl e8 (beq_off hG) rfl ?_
              exact st_addNil (hk _ _ (Sto.Le.refl _) ⟨fun h => absurd h hG, fun _ => rfl⟩)
          · intro ρ' τ pool rs hl hd hout hk
            obtain ⟨_, e8, rfl⟩ := hd 8 rfl
            obtain ⟨w10, e10, t10⟩ := hd 10 rfl
            obtain ⟨w11, e11, t11⟩ := hd 11 rfl
            by_cases hG : ((decide ((s13.2.2.length : Int) ≤ s45)) || (!(decide (x45.2 = 0)))) = false
            · have hC := hG
              replace hf50 := hf50 hC
              obtain ⟨rfl⟩ := t10.1 hC
              obtain ⟨rfl⟩ := t11.1 hC
              refine o_index rfl (wants_of rfl e8 hG) rfl z_slT80 rfl e10 (hs23.up ((((hl28.trans hl31).trans hl41).trans hl45).trans hl)) e11 hf50 (fun b51 of52 vsb51 hc54 hrepb51 => ?_)
              exact st_addNil (hk _ _ (Sto.Le.refl _) ⟨fun _ => ⟨b51, of52, _, rfl, hc54, hrepb51⟩, fun hn => absurd hC hn⟩)
            · refine st_pass rfl rfl rfl e8 (beq_off hG) rfl ?_
              exact st_addNil (hk _ _ (Sto.Le.refl _) ⟨fun h => absurd h hG, fun _ => rfl⟩)
          · intro ρ' τ pool rs hl hd hout hk
            obtain ⟨_, e8, rfl⟩ := hd 8 rfl
            obtain ⟨w12, e12, t12⟩ := hd 12 rfl
            by_cases hG : ((decide ((s13.2.2.length : Int) ≤ s45)) || (!(decide (x45.2 = 0)))) = false
            · have hC := hG
              obtain ⟨b51, of52, vsb51, rfl, hc54, hrepb51⟩ := t12.1 hC
              have hrepb51 := hrepb51
              obtain ⟨_, _, rfl, ⟨_, _, rfl, rfl, ⟨_, _, rfl, rfl, ⟨_, _, rfl, rfl, ⟨_, _, rfl, rfl, rfl⟩⟩⟩⟩, ⟨v53, rfl, hs56⟩⟩ := hrepb51
              refine o_loadIN (vs := [.int .i64 q49.1.1, .int .i64 q49.1.2.1, .int .u32 q49.1.2.2.1, .int .i64 q49.1.2.2.2.1, .int .i64 q49.1.2.2.2.2, v53]) rfl (wants_of rfl e8 hG) rfl z_agg87 e12 rfl (celn_part 0 rfl hc54) ?_
              exact st_addNil (hk _ _ (Sto.Le.refl _) ⟨fun _ => ⟨v53, rfl, hs56⟩, fun hn => absurd hC hn⟩)
            · refine st_pass rfl rfl rfl e8 (beq_off hG) rfl ?_
              exact st_addNil (hk _ _ (Sto.Le.refl _) ⟨fun h => absurd h hG, fun _ => rfl⟩)
          · intro ρ' τ pool rs hl hd hout hk
            obtain ⟨_, e8, rfl⟩ := hd 8 rfl
            obtain ⟨w9, e9, t9⟩ := hd 9 rfl
            obtain ⟨w13, e13, t13⟩ := hd 13 rfl
            by_cases hG : ((decide ((s13.2.2.length : Int) ≤ s45)) || (!(decide (x45.2 = 0)))) = false
            · have hC := hG
              replace hr58 := hr58 hC
              obtain ⟨rfl⟩ := t9.1 hC
              obtain ⟨v53, rfl, hs56⟩ := t13.1 hC
              refine st_call (foot := []) rfl (wants_of rfl e8 hG) rfl rfl (evs_cons e9 (evs_cons e13 rfl)) rfl (callV_fn z_en45 (frame_Same_ok hr58 τ (hs47.up hl) hs56)) ?_
              rintro vτ59 τ59 gsτ59 hl60 ⟨rfl, rfl⟩
              exact st_addNil (hk _ _ hl60 ⟨fun _ => rfl, fun hn => absurd hC hn⟩)
            · refine st_pass rfl rfl rfl e8 (beq_off hG) rfl ?_
              exact st_addNil (hk _ _ (Sto.Le.refl _) ⟨fun h => absurd h hG, fun _ => rfl⟩)
          · intro ρ' τ pool rs hl hd hout hk
            obtain ⟨_, e8, rfl⟩ := hd 8 rfl
            obtain ⟨w14, e14, t14⟩ := hd 14 rfl
            by_cases hG : ((decide ((s13.2.2.length : Int) ≤ s45)) || (!(decide (x45.2 = 0)))) = false
            · have hC := hG
              obtain ⟨rfl⟩ := t14.1 hC
              refine o_not rfl (wants_of rfl e8 hG) rfl e14 ?_
              exact st_addNil (hk _ _ (Sto.Le.refl _) ⟨fun _ => rfl, fun hn => absurd hC hn⟩)
            · refine st_pass rfl rfl rfl e8 (beq_off hG) rfl ?_
              exact st_addNil (hk _ _ (Sto.Le.refl _) ⟨fun h => absurd h hG, fun _ => rfl⟩)
          · intro ρ' τ pool rs hl hd hout hk
            obtain ⟨_, e8, rfl⟩ := hd 8 rfl
            obtain ⟨w15, e15, t15⟩ := hd 15 rfl
            refine o_pickOr rfl rfl rfl e8 rfl (fun hp => e15.trans (congrArg some (Eq.symm (t15.1 hp)))) ?_
            exact st_addNil (hk _ _ (Sto.Le.refl _) rfl)
          intro ρ' τ61 vals hl61 hv hout
          have l16 : Eng.look ρ' 128 = some (.bool (((decide ((s13.2.2.length : Int) ≤ s45)) || (!(decide (x45.2 = 0)))) || (!r57))) := ((hv 16 (by decide)).1).trans (congrArg some (show vals 16 = .bool (((decide ((s13.2.2.length : Int) ≤ s45)) || (!(decide (x45.2 = 0)))) || (!r57)) from Eq.symm (hv 16 (by decide)).2))
          refine st_ord [0, 0, 0, 0, 0] [[(b48, .cells [.int .i64 x45.1.1.1, .int .i64 x45.1.1.2.1, .int .u32 x45.1.1.2.2.1, .int .i64 x45.1.1.2.2.2.1, .int .i64 x45.1.1.2.2.2.2, v46].toArray 87 (0, 0))], [(b3, .cells [.bool false].toArray 4 (0, 0))], [(b12, .cells [v17].toArray 80 (0, 0))], [(b37, .cells [.int .i64 s45].toArray 3 (0, 0))], g15] rfl ?_
          refine st_env (ρ' := [(128, .bool (((decide ((s13.2.2.length : Int) ≤ s45)) || (!(decide (x45.2 = 0)))) || (!r57))), (2, .pointer (some ⟨b3, 0, none⟩)), (4, .pointer (some ⟨b12, 0, none⟩)), (5, v14), (10, v29), (12, .pointer (some ⟨b37, 0, none⟩)), (110, .agg [.int .i64 x45.1.1.1, .int .i64 x45.1.1.2.1, .int .u32 x45.1.1.2.2.1, .int .i64 x45.1.1.2.2.2.1, .int .i64 x45.1.1.2.2.2.2, v46].toArray), (111, .int .i64 x45.2), (14, .pointer (some ⟨b48, 0, none⟩)), (15, .int .i64 x45.2)]) ⟨l16, (hout 2 rfl).trans rfl, (hout 4 rfl).trans rfl, (hout 5 rfl).trans rfl, (hout 10 rfl).trans rfl, (hout 12 rfl).trans rfl, (hout 110 rfl).trans rfl, (hout 111 rfl).trans rfl, (hout 14 rfl).trans rfl, (hout 15 rfl).trans rfl, trivial⟩ ?_
          refine st_end ?_
          refine st_cond rfl (fun hc => ?_) (fun hc => ?_)
          · replace h := (if_pos hc).mp h
            refine st_seq ?_
            refine st_region ?_
            refine o_store (j := 1) (vs := [.bool false]) (cs' := [.bool false]) rfl rfl rfl z_size4 rfl rfl rfl (ones_cons rfl ones_nil) rfl rfl rfl ?_
            refine st_gs [[(b48, .cells [.int .i64 x45.1.1.1, .int .i64 x45.1.1.2.1, .int .u32 x45.1.1.2.2.1, .int .i64 x45.1.1.2.2.2.1, .int .i64 x45.1.1.2.2.2.2, v46].toArray 87 (0, 0))], [(b3, .cells [.bool false].toArray 4 (0, 0))], [(b12, .cells [v17].toArray 80 (0, 0))], [(b37, .cells [.int .i64 s45].toArray 3 (0, 0))], g15] rfl ?_
            refine st_end ?_
            refine st_ord [1, 1, 1, 1] [[(b3, .cells [.bool false].toArray 4 (0, 0))], [(b12, .cells [v17].toArray 80 (0, 0))], [(b37, .cells [.int .i64 s45].toArray 3 (0, 0))], g15] rfl ?_
            exact st_rret (List.Sublist.refl _) hl61 ⟨_, h, rfl, (hl45.trans hl61), rfl⟩
          · replace h := (if_neg (ne_t hc)).mp h
            refine st_skip ?_
            refine st_region ?_
            refine o_load (j := 3) (v := .int .i64 s45) rfl rfl rfl z_sc3 rfl rfl rfl ?_
            refine o_ibin (v := .int .i64 (IntKind.i64.wrap (s45 + 1))) rfl rfl rfl rfl rfl rfl ?_
            refine o_store (j := 3) (vs := [.int .i64 (IntKind.i64.wrap (s45 + 1))]) (cs' := [.int .i64 (IntKind.i64.wrap (s45 + 1))]) rfl rfl rfl z_size3 rfl rfl rfl (ones_cons rfl ones_nil) rfl rfl rfl ?_
            refine st_gs [[(b48, .cells [.int .i64 x45.1.1.1, .int .i64 x45.1.1.2.1, .int .u32 x45.1.1.2.2.1, .int .i64 x45.1.1.2.2.2.1, .int .i64 x45.1.1.2.2.2.2, v46].toArray 87 (0, 0))], [(b3, .cells [.bool false].toArray 4 (0, 0))], [(b12, .cells [v17].toArray 80 (0, 0))], [(b37, .cells [.int .i64 (IntKind.i64.wrap (s45 + 1))].toArray 3 (0, 0))], g15] rfl ?_
            refine st_end ?_
            refine st_inBlock ?_
            refine st_ord [1, 1, 1, 1] [[(b3, .cells [.bool false].toArray 4 (0, 0))], [(b12, .cells [v17].toArray 80 (0, 0))], [(b37, .cells [.int .i64 (IntKind.i64.wrap (s45 + 1))].toArray 3 (0, 0))], g15] rfl ?_
            exact st_rend (List.Sublist.refl _) hl61 ⟨_, h, (hl45.trans hl61), rfl⟩
        · rintro p65 τ66 gs45 f45 ht hl67 ⟨hb, rfl⟩ rfl
          subst ht
          replace h := hA45
          refine st_ord [1, 1, 1, 1] [[(b3, .cells [.bool false].toArray 4 (0, 0))], [(b12, .cells [v17].toArray 80 (0, 0))], [(b37, .cells [.int .i64 p65].toArray 3 (0, 0))], g15] rfl ?_
          refine st_inBlock ?_
          refine st_seq ?_
          refine st_cut (fun ρ τ68 gs => ∃ (s68 : Bool), law08_FramePacks_j5 s68 r ∧ τ66.Le τ68 ∧ ρ = [(2, .pointer (some ⟨b3, 0, none⟩))] ∧ gs = [[(b3, .cells [.bool s68].toArray 4 (0, 0))]]) ?_ (fun hk68 => ?_)
          · rintro ρ68 τ68 gs68 ⟨s68, h, hl68, rfl, rfl⟩
            obtain rfl := Eq.symm h
            exact st_retC (gs' := []) [.bool s68] Tryd.func9 ⟨⟨_, _, _, _, rfl, mem_flat 0 rfl, fun w hw => cellOf z_sc4 rfl w hw⟩, trivial⟩ (by simp) (((((((hl7.trans hl13).trans hl21).trans hl28).trans hl31).trans hl41).trans hl67).trans hl68) ⟨rfl, rfl⟩
          refine st_region ?_
          obtain ⟨r69, hr70, h⟩ := h
          refine st_call (foot := []) rfl rfl rfl rfl rfl rfl (callV_fn z_en50 (law08_known_ok hr70 τ66)) ?_
          rintro vτ71 τ71 gsτ71 hl72 ⟨rfl, rfl⟩
          refine o_moveB rfl rfl rfl rfl (fun hc => ?_) (fun hc => ?_)
          · replace h := (if_pos hc).mp h
            refine o_move rfl rfl rfl rfl ?_
            refine o_move rfl rfl rfl rfl ?_
            obtain ⟨r78, hr79, h⟩ := h
            refine st_ord [3, 0, 0, 0] [g15, [(b3, .cells [.bool false].toArray 4 (0, 0))], [(b12, .cells [v17].toArray 80 (0, 0))], [(b37, .cells [.int .i64 p65].toArray 3 (0, 0))]] rfl ?_
            refine st_freeze (fun τ73 hl74 hg75 => ?_)
            have hs76 := ho16.freeze ((((((hl21.trans hl28).trans hl31).trans hl41).trans hl67).trans hl72).trans hl74) hg75
            refine st_call (foot := []) rfl rfl rfl rfl rfl rfl (callV_fn z_en52 (ref08_Wire_ok hr79 τ73 hs76)) ?_
            rintro vτ80 τ80 gsτ80 hl81 ⟨v82, rfl, rfl, hs83⟩
            obtain ⟨r84, hr85, h⟩ := h
            refine st_call (foot := []) rfl rfl rfl rfl rfl rfl (callV_fn z_en39 (ref01_Same_ok hr85 τ80 (hs30.up (((((hl31.trans hl41).trans hl67).trans hl72).trans hl74).trans hl81)) hs83)) ?_
            rintro vτ86 τ86 gsτ86 hl87 ⟨rfl, rfl⟩
            refine o_pick rfl rfl rfl rfl rfl ?_
            refine o_moveB rfl rfl rfl rfl (fun hc => ?_) (fun hc => ?_)
            · replace h := (if_pos hc).mp h
              refine o_load (j := 2) (v := .int .i64 p65) rfl rfl rfl z_sc3 rfl rfl rfl ?_
              refine o_load (j := 1) (v := v17) rfl rfl rfl z_sc80 rfl rfl rfl ?_
              refine o_lenI rfl rfl rfl z_slT80 rfl (hs23.up (((((((hl28.trans hl31).trans hl41).trans hl67).trans hl72).trans hl74).trans hl81).trans hl87)) ?_
              refine o_ibin (v := .bool (decide (p65 = (s13.2.2.length : Int)))) rfl rfl rfl rfl rfl rfl ?_
              refine o_pick rfl rfl rfl rfl rfl ?_
              refine o_store (j := 0) (vs := [.bool (decide (p65 = (s13.2.2.length : Int)))]) (cs' := [.bool (decide (p65 = (s13.2.2.length : Int)))]) rfl rfl rfl z_size4 rfl rfl rfl (ones_cons rfl ones_nil) rfl rfl rfl ?_
              refine st_gs [[(b3, .cells [.bool (decide (p65 = (s13.2.2.length : Int)))].toArray 4 (0, 0))], [(b12, .cells [v17].toArray 80 (0, 0))], [(b37, .cells [.int .i64 p65].toArray 3 (0, 0))]] rfl ?_
              refine st_end ?_
              refine st_env (ρ' := [(2, .pointer (some ⟨b3, 0, none⟩))]) ⟨rfl, trivial⟩ ?_
              refine st_ord [0] [[(b3, .cells [.bool (decide (p65 = (s13.2.2.length : Int)))].toArray 4 (0, 0))]] rfl ?_
              exact hk68 _ _ _ ⟨(decide (p65 = (s13.2.2.length : Int))), h, (((hl72.trans hl74).trans hl81).trans hl87), rfl, rfl⟩
            · replace h := (if_neg (ne_t hc)).mp h
              refine st_pass rfl rfl rfl rfl rfl rfl ?_
              refine st_pass rfl rfl rfl rfl rfl rfl ?_
              refine st_pass rfl rfl rfl rfl rfl rfl ?_
              refine st_pass rfl rfl rfl rfl rfl rfl ?_
              refine o_pick rfl rfl rfl rfl rfl ?_
              refine o_store (j := 0) (vs := [.bool false]) (cs' := [.bool false]) rfl rfl rfl z_size4 rfl rfl rfl (ones_cons rfl ones_nil) rfl rfl rfl ?_
              refine st_gs [[(b3, .cells [.bool false].toArray 4 (0, 0))], [(b12, .cells [v17].toArray 80 (0, 0))], [(b37, .cells [.int .i64 p65].toArray 3 (0, 0))]] rfl ?_
              refine st_end ?_
              refine st_env (ρ' := [(2, .pointer (some ⟨b3, 0, none⟩))]) ⟨rfl, trivial⟩ ?_
              refine st_ord [0] [[(b3, .cells [.bool false].toArray 4 (0, 0))]] rfl ?_
              exact hk68 _ _ _ ⟨false, h, (((hl72.trans hl74).trans hl81).trans hl87), rfl, rfl⟩
          · replace h := (if_neg (ne_t hc)).mp h
            refine st_pass rfl rfl rfl rfl rfl rfl ?_
            refine st_pass rfl rfl rfl rfl rfl rfl ?_
            refine st_pass rfl rfl rfl rfl rfl rfl ?_
            refine st_pass rfl rfl rfl rfl rfl rfl ?_
            refine o_pick rfl rfl rfl rfl rfl ?_
            refine o_move rfl rfl rfl rfl ?_
            refine st_pass rfl rfl rfl rfl rfl rfl ?_
            refine st_pass rfl rfl rfl rfl rfl rfl ?_
            refine st_pass rfl rfl rfl rfl rfl rfl ?_
            refine st_pass rfl rfl rfl rfl rfl rfl ?_
            refine o_pick rfl rfl rfl rfl rfl ?_
            refine o_store (j := 0) (vs := [.bool false]) (cs' := [.bool false]) rfl rfl rfl z_size4 rfl rfl rfl (ones_cons rfl ones_nil) rfl rfl rfl ?_
            refine st_gs [[(b3, .cells [.bool false].toArray 4 (0, 0))], [(b12, .cells [v17].toArray 80 (0, 0))], [(b37, .cells [.int .i64 p65].toArray 3 (0, 0))], g15] rfl ?_
            refine st_end ?_
            refine st_env (ρ' := [(2, .pointer (some ⟨b3, 0, none⟩))]) ⟨rfl, trivial⟩ ?_
            refine st_ord [0] [[(b3, .cells [.bool false].toArray 4 (0, 0))]] rfl ?_
            exact hk68 _ _ _ ⟨false, h, hl72, rfl, rfl⟩
        · rintro p62 cd45 τ63 gs45 f45 ht hl64 ⟨rfl, hb, rfl⟩ rfl
          subst ht
          replace h := hA45
          refine st_ord [1, 1, 1, 1] [[(b3, .cells [.bool false].toArray 4 (0, 0))], [(b12, .cells [v17].toArray 80 (0, 0))], [(b37, .cells [.int .i64 p62].toArray 3 (0, 0))], g15] rfl ?_
          obtain rfl := Eq.symm h
          exact st_retC (gs' := []) [.bool false] Tryd.func9 ⟨⟨_, _, _, _, rfl, mem_flat 0 rfl, fun w hw => cellOf z_sc4 rfl w hw⟩, trivial⟩ (by simp) ((((((hl7.trans hl13).trans hl21).trans hl28).trans hl31).trans hl41).trans hl64) ⟨rfl, rfl⟩
    refine st_region ?_
    refine o_move rfl rfl rfl rfl ?_
    refine o_move rfl rfl rfl rfl ?_
    refine o_ibin (v := .bool (!(decide (r25.2 = s13.2.1)))) rfl rfl rfl rfl rfl rfl ?_
    refine o_moveB rfl rfl rfl rfl (fun hc => ?_) (fun hc => ?_)
    · replace h := (if_pos hc).mp h
      refine st_pass rfl rfl rfl rfl rfl rfl ?_
      refine st_pass rfl rfl rfl rfl rfl rfl ?_
      refine o_pick rfl rfl rfl rfl rfl ?_
      refine st_end ?_
      refine st_env (ρ' := [(2, .pointer (some ⟨b3, 0, none⟩)), (3, .pointer (some ⟨bi8, 0, none⟩)), (4, .pointer (some ⟨b12, 0, none⟩)), (5, v14), (6, .int .i64 s13.2.1), (10, v29), (11, .int .i64 r25.2), (92, .bool true)]) ⟨rfl, rfl, rfl, rfl, rfl, rfl, rfl, rfl, trivial⟩ ?_
      exact hk31 _ _ _ ⟨true, h, (Sto.Le.refl _), rfl, rfl⟩
    · replace h := (if_neg (ne_t hc)).mp h
      refine o_move rfl rfl rfl rfl ?_
      refine o_ibin (v := .bool (!(decide (s13.2.1 = 0)))) rfl rfl rfl rfl rfl rfl ?_
      refine o_pick rfl rfl rfl rfl rfl ?_
      refine st_end ?_
      refine st_env (ρ' := [(2, .pointer (some ⟨b3, 0, none⟩)), (3, .pointer (some ⟨bi8, 0, none⟩)), (4, .pointer (some ⟨b12, 0, none⟩)), (5, v14), (6, .int .i64 s13.2.1), (10, v29), (11, .int .i64 r25.2), (92, .bool (!(decide (s13.2.1 = 0))))]) ⟨rfl, rfl, rfl, rfl, rfl, rfl, rfl, rfl, trivial⟩ ?_
      exact hk31 _ _ _ ⟨(!(decide (s13.2.1 = 0))), h, (Sto.Le.refl _), rfl, rfl⟩
  refine st_seq ?_
  refine st_region ?_
  refine o_assign rfl rfl rfl rfl ?_
  refine st_end ?_
  obtain ⟨e88, hL88, hA88⟩ := h
  refine st_env (ρ' := [(0, v1), (2, .pointer (some ⟨b3, 0, none⟩)), (3, .pointer (some ⟨bi8, 0, none⟩)), (4, .pointer (some ⟨b12, 0, none⟩)), (5, .slice none 0 0), (6, .int .i64 0), (7, .int .i64 0)]) ⟨rfl, rfl, rfl, rfl, rfl, rfl, rfl, trivial⟩ ?_
  refine st_addNil ?_
  refine st_addNil ?_
  refine st_ord [3, 2, 0, 0] [[(b3, .cells [.bool false].toArray 4 (0, 0))], [(b12, .cells [.slice none 0 0].toArray 80 (0, 0))], [], []] rfl ?_
  refine st_loop hL88 (fun (s88 : (List ((Int × Int × Int × Int × Int) × List Int)) × Int × Int × (List ((Int × Int × Int × Int × Int) × List Int))) ρ τ88 gs => τ6.Le τ88 ∧ ∃ (v89 : Value) (g90 : Grp) (v92 : Value) (g93 : Grp), ρ = [(0, v1), (2, .pointer (some ⟨b3, 0, none⟩)), (3, .pointer (some ⟨bi8, 0, none⟩)), (4, .pointer (some ⟨b12, 0, none⟩)), (5, v89), (6, .int .i64 s88.2.1), (7, .int .i64 s88.2.2.1)] ∧ gs = [[(b3, .cells [.bool false].toArray 4 (0, 0))], [(b12, .cells [v92].toArray 80 (0, 0))], g90, g93] ∧ Ow (kP (kP (kI .i64) (kP (kI .i64) (kP (kI .u32) (kP (kI .i64) (kI .i64))))) (kSl (kI .u8))) 91 τ88 v89 s88.1 g90 ∧ Ow (kP (kP (kI .i64) (kP (kI .i64) (kP (kI .u32) (kP (kI .i64) (kI .i64))))) (kSl (kI .u8))) 87 τ88 v92 s88.2.2.2 g93) ⟨Sto.Le.refl _, _, _, _, _, rfl, rfl, Ow.nil, Ow.nil⟩ ?_
  rintro s88 o88 h he88 ρ88 τ88 gs88 ⟨hl88, v89, g90, v92, g93, rfl, rfl, ho91, ho94⟩ hn88
  refine st_seq ?_
  refine st_seq ?_
  refine st_cut (fun ρ τ95 gs => ∃ (s95 : Bool), law08_FramePacks_j7 a0 r4 s88 s95 o88 ∧ τ88.Le τ95 ∧ ρ = [(0, v1), (2, .pointer (some ⟨b3, 0, none⟩)), (3, .pointer (some ⟨bi8, 0, none⟩)), (4, .pointer (some ⟨b12, 0, none⟩)), (5, v89), (6, .int .i64 s88.2.1), (7, .int .i64 s88.2.2.1), (24, .bool s95)] ∧ gs = [[(b3, .cells [.bool false].toArray 4 (0, 0))], [(b12, .cells [v92].toArray 80 (0, 0))], g90, g93]) ?_ (fun hk95 => ?_)
  · rintro ρ95 τ95 gs95 ⟨s95, h, hl95, rfl, rfl⟩
    refine st_cond rfl (fun hc => ?_) (fun hc => ?_)
    · replace h := (if_pos hc).mp h
      refine st_skip ?_
      refine st_seq ?_
      refine st_cut (fun ρ τ96 gs => ∃ (s96 : (List ((Int × Int × Int × Int × Int) × List Int)) × Int × (List ((Int × Int × Int × Int × Int) × List Int))) (v97 : Value) (g98 : Grp) (v100 : Value) (g101 : Grp), law08_FramePacks_j8 s88 s96 o88 ∧ τ95.Le τ96 ∧ ρ = [(0, v1), (2, .pointer (some ⟨b3, 0, none⟩)), (3, .pointer (some ⟨bi8, 0, none⟩)), (4, .pointer (some ⟨b12, 0, none⟩)), (5, v97), (6, .int .i64 s96.2.1), (7, .int .i64 s88.2.2.1)] ∧ gs = [[(b3, .cells [.bool false].toArray 4 (0, 0))], [(b12, .cells [v100].toArray 80 (0, 0))], g98, g101] ∧ Ow (kP (kP (kI .i64) (kP (kI .i64) (kP (kI .u32) (kP (kI .i64) (kI .i64))))) (kSl (kI .u8))) 91 τ96 v97 s96.1 g98 ∧ Ow (kP (kP (kI .i64) (kP (kI .i64) (kP (kI .u32) (kP (kI .i64) (kI .i64))))) (kSl (kI .u8))) 87 τ96 v100 s96.2.2 g101) ?_ (fun hk96 => ?_)
      · rintro ρ96 τ96 gs96 ⟨s96, v97, g98, v100, g101, h, hl96, rfl, rfl, ho99, ho102⟩
        refine st_region ?_
        refine o_move rfl rfl rfl rfl ?_
        refine o_ibin (v := .int .i64 (IntKind.i64.wrap (s88.2.2.1 + 1))) rfl rfl rfl rfl rfl rfl ?_
        refine o_assign rfl rfl rfl rfl ?_
        refine st_end ?_
        refine st_env (ρ' := [(0, v1), (2, .pointer (some ⟨b3, 0, none⟩)), (3, .pointer (some ⟨bi8, 0, none⟩)), (4, .pointer (some ⟨b12, 0, none⟩)), (5, v97), (6, .int .i64 s96.2.1), (7, .int .i64 (IntKind.i64.wrap (s88.2.2.1 + 1)))]) ⟨rfl, rfl, rfl, rfl, rfl, rfl, rfl, trivial⟩ ?_
        exact hn88 _ _ _ _ h ⟨((hl88.trans hl95).trans hl96), _, _, _, _, rfl, rfl, ho99, ho102⟩
      refine st_block ?_
      refine st_seq ?_
      refine st_region ?_
      refine o_move rfl rfl rfl rfl ?_
      refine o_move rfl rfl rfl rfl ?_
      obtain ⟨q103, hf104, h⟩ := h
      refine o_index rfl rfl rfl z_slT80 rfl rfl (hs2.up ((hl7.trans hl88).trans hl95)) rfl hf104 (fun b105 of106 vs hc108 hrep => ?_)
      obtain ⟨_, _, rfl, ⟨_, _, rfl, rfl, ⟨_, _, rfl, rfl, ⟨_, _, rfl, rfl, ⟨_, _, rfl, rfl, rfl⟩⟩⟩⟩, ⟨v107, rfl, hs109⟩⟩ := hrep
      refine o_loadIN (vs := [.int .i64 q103.1.1, .int .i64 q103.1.2.1, .int .u32 q103.1.2.2.1, .int .i64 q103.1.2.2.2.1, .int .i64 q103.1.2.2.2.2, v107]) rfl rfl rfl z_agg87 rfl rfl (celn_part 0 rfl hc108) ?_
      obtain ⟨r110, hr111, h⟩ := h
      refine st_call (foot := []) rfl rfl rfl rfl rfl rfl (callV_fn z_en41 (law08_Cut_ok hr111 τ95 hs109)) ?_
      rintro vτ112 τ112 gsτ112 hl113 ⟨v114, rfl, rfl, hs115⟩
      refine o_alloc rfl rfl rfl z_zero87 (fun b116 => ?_)
      refine o_store (j := 0) (vs := [.int .i64 r110.1.1, .int .i64 r110.1.2.1, .int .u32 r110.1.2.2.1, .int .i64 r110.1.2.2.2.1, .int .i64 r110.1.2.2.2.2, v114]) (cs' := [.int .i64 r110.1.1, .int .i64 r110.1.2.1, .int .u32 r110.1.2.2.1, .int .i64 r110.1.2.2.2.1, .int .i64 r110.1.2.2.2.2, v114]) rfl rfl rfl z_size87 rfl rfl rfl (ones_cons rfl (ones_cons rfl (ones_cons rfl (ones_cons rfl (ones_cons rfl (ones_cons hs115.one' ones_nil)))))) rfl rfl rfl ?_
      refine st_gs [[(b116, .cells [.int .i64 r110.1.1, .int .i64 r110.1.2.1, .int .u32 r110.1.2.2.1, .int .i64 r110.1.2.2.2.1, .int .i64 r110.1.2.2.2.2, v114].toArray 87 (0, 0))], [(b3, .cells [.bool false].toArray 4 (0, 0))], [(b12, .cells [v92].toArray 80 (0, 0))], g90, g93] rfl ?_
      refine st_end ?_
      refine st_seq ?_
      refine st_region ?_
      refine o_load (j := 2) (v := v92) rfl rfl rfl z_sc80 rfl rfl rfl ?_
      refine o_loadN (j := 0) (vs := [.int .i64 r110.1.1, .int .i64 r110.1.2.1, .int .u32 r110.1.2.2.1, .int .i64 r110.1.2.2.2.1, .int .i64 r110.1.2.2.2.2, v114]) rfl rfl rfl z_agg87 rfl rfl rfl ?_
      refine o_lit (dk := (kP (kP (kI .i64) (kP (kI .i64) (kP (kI .u32) (kP (kI .i64) (kI .i64))))) (kSl (kI .u8)))) (xs := [r110]) (ps := [(0, [.int .i64 r110.1.1, .int .i64 r110.1.2.1, .int .u32 r110.1.2.2.1, .int .i64 r110.1.2.2.2.1, .int .i64 r110.1.2.2.2.2, v114])]) (cs := [.int .i64 r110.1.1, .int .i64 r110.1.2.1, .int .u32 r110.1.2.2.1, .int .i64 r110.1.2.2.2.1, .int .i64 r110.1.2.2.2.2, v114]) rfl rfl rfl z_slT80 z_zero87 ⟨rfl, ⟨_, rfl, rfl⟩, trivial⟩ rfl rfl rfl rfl (Kd.Many.cons (d := (kP (kP (kI .i64) (kP (kI .i64) (kP (kI .u32) (kP (kI .i64) (kI .i64))))) (kSl (kI .u8)))) (x := r110) (a := [.int .i64 r110.1.1, .int .i64 r110.1.2.1, .int .u32 r110.1.2.2.1, .int .i64 r110.1.2.2.2.1, .int .i64 r110.1.2.2.2.2, v114]) ⟨[.int .i64 r110.1.1, .int .i64 r110.1.2.1, .int .u32 r110.1.2.2.1, .int .i64 r110.1.2.2.2.1, .int .i64 r110.1.2.2.2.2], _, rfl, ⟨[.int .i64 r110.1.1], _, rfl, rfl, ⟨[.int .i64 r110.1.2.1], _, rfl, rfl, ⟨[.int .u32 r110.1.2.2.1], _, rfl, rfl, ⟨[.int .i64 r110.1.2.2.2.1], _, rfl, rfl, rfl⟩⟩⟩⟩, ⟨_, rfl, hs115⟩⟩ Kd.Many.nil) (fun v117 g118 ho119 => ?_)
      obtain ⟨hf123, h⟩ := h
      obtain ⟨hf124, h⟩ := h
      refine st_ord [5, 0, 0, 0, 0, 0] [g93, g118, [(b116, .cells [.int .i64 r110.1.1, .int .i64 r110.1.2.1, .int .u32 r110.1.2.2.1, .int .i64 r110.1.2.2.2.1, .int .i64 r110.1.2.2.2.2, v114].toArray 87 (0, 0))], [(b3, .cells [.bool false].toArray 4 (0, 0))], [(b12, .cells [v92].toArray 80 (0, 0))], g90] rfl ?_
      refine o_append (dk := (kP (kP (kI .i64) (kP (kI .i64) (kP (kI .u32) (kP (kI .i64) (kI .i64))))) (kSl (kI .u8)))) (xs := s88.2.2.2) (ys := [r110]) rfl rfl rfl rfl z_slT80 rfl (ho94.up (hl95.trans hl113)) rfl (Ow.src (j := 1) ho119 rfl) hf123 hf124 (fun v120 g121 ho122 => ?_)
      refine o_store (j := 4) (vs := [v120]) (cs' := [v120]) rfl rfl rfl z_size80 rfl rfl (oneL_ow ho122) (ones_cons ho122.one' ones_nil) rfl rfl rfl ?_
      refine st_gs [g121, g118, [(b116, .cells [.int .i64 r110.1.1, .int .i64 r110.1.2.1, .int .u32 r110.1.2.2.1, .int .i64 r110.1.2.2.2.1, .int .i64 r110.1.2.2.2.2, v114].toArray 87 (0, 0))], [(b3, .cells [.bool false].toArray 4 (0, 0))], [(b12, .cells [v120].toArray 80 (0, 0))], g90] rfl ?_
      refine st_end ?_
      refine st_seq ?_
      refine st_region ?_
      refine o_move rfl rfl rfl rfl ?_
      refine o_loadN (j := 2) (vs := [.int .i64 r110.1.1, .int .i64 r110.1.2.1, .int .u32 r110.1.2.2.1, .int .i64 r110.1.2.2.2.1, .int .i64 r110.1.2.2.2.2, v114]) rfl rfl rfl z_agg87 rfl rfl rfl ?_
      obtain ⟨r125, hr126, h⟩ := h
      refine st_call (foot := []) rfl rfl rfl rfl rfl rfl (callV_fn z_en42 (law08_Of_ok hr126 τ112 hs115)) ?_
      rintro vτ127 τ127 gsτ127 hl128 ⟨v129, rfl, rfl, hs130⟩
      refine o_lit (dk := (kP (kP (kI .i64) (kP (kI .i64) (kP (kI .u32) (kP (kI .i64) (kI .i64))))) (kSl (kI .u8)))) (xs := [r125]) (ps := [(0, [.int .i64 r125.1.1, .int .i64 r125.1.2.1, .int .u32 r125.1.2.2.1, .int .i64 r125.1.2.2.2.1, .int .i64 r125.1.2.2.2.2, v129])]) (cs := [.int .i64 r125.1.1, .int .i64 r125.1.2.1, .int .u32 r125.1.2.2.1, .int .i64 r125.1.2.2.2.1, .int .i64 r125.1.2.2.2.2, v129]) rfl rfl rfl z_slT83 z_zero91 ⟨rfl, ⟨_, rfl, rfl⟩, trivial⟩ rfl rfl rfl rfl (Kd.Many.cons (d := (kP (kP (kI .i64) (kP (kI .i64) (kP (kI .u32) (kP (kI .i64) (kI .i64))))) (kSl (kI .u8)))) (x := r125) (a := [.int .i64 r125.1.1, .int .i64 r125.1.2.1, .int .u32 r125.1.2.2.1, .int .i64 r125.1.2.2.2.1, .int .i64 r125.1.2.2.2.2, v129]) ⟨[.int .i64 r125.1.1, .int .i64 r125.1.2.1, .int .u32 r125.1.2.2.1, .int .i64 r125.1.2.2.2.1, .int .i64 r125.1.2.2.2.2], _, rfl, ⟨[.int .i64 r125.1.1], _, rfl, rfl, ⟨[.int .i64 r125.1.2.1], _, rfl, rfl, ⟨[.int .u32 r125.1.2.2.1], _, rfl, rfl, ⟨[.int .i64 r125.1.2.2.2.1], _, rfl, rfl, rfl⟩⟩⟩⟩, ⟨_, rfl, hs130⟩⟩ Kd.Many.nil) (fun v131 g132 ho133 => ?_)
      obtain ⟨hf137, h⟩ := h
      obtain ⟨hf138, h⟩ := h
      refine st_ord [6, 0, 0, 0, 0, 0, 0] [g90, g132, g121, g118, [(b116, .cells [.int .i64 r110.1.1, .int .i64 r110.1.2.1, .int .u32 r110.1.2.2.1, .int .i64 r110.1.2.2.2.1, .int .i64 r110.1.2.2.2.2, v114].toArray 87 (0, 0))], [(b3, .cells [.bool false].toArray 4 (0, 0))], [(b12, .cells [v120].toArray 80 (0, 0))]] rfl ?_
      refine o_append (dk := (kP (kP (kI .i64) (kP (kI .i64) (kP (kI .u32) (kP (kI .i64) (kI .i64))))) (kSl (kI .u8)))) (xs := s88.1) (ys := [r125]) rfl rfl rfl rfl z_slT83 rfl (ho91.up ((hl95.trans hl113).trans hl128)) rfl (Ow.src (j := 1) ho133 rfl) hf137 hf138 (fun v134 g135 ho136 => ?_)
      refine o_assign rfl rfl rfl rfl ?_
      refine st_end ?_
      refine st_seq ?_
      refine st_region ?_
      refine o_loadN (j := 4) (vs := [.int .i64 r110.1.1, .int .i64 r110.1.2.1, .int .u32 r110.1.2.2.1, .int .i64 r110.1.2.2.2.1, .int .i64 r110.1.2.2.2.2, v114]) rfl rfl rfl z_agg87 rfl rfl rfl ?_
      obtain ⟨r139, hr140, h⟩ := h
      refine st_call (foot := []) rfl rfl rfl rfl rfl rfl (callV_fn z_en42 (law08_Of_ok hr140 τ127 (hs115.up hl128))) ?_
      rintro vτ141 τ141 gsτ141 hl142 ⟨v143, rfl, rfl, hs144⟩
      obtain ⟨r145, hr146, h⟩ := h
      refine st_call (foot := []) rfl rfl rfl rfl rfl rfl (callV_fn z_en43 (ref08_Check_ok hr146 τ141 hs144)) ?_
      rintro vτ147 τ147 gsτ147 hl148 ⟨rfl, rfl⟩
      refine o_assign rfl rfl rfl rfl ?_
      refine st_end ?_
      refine st_seq ?_
      refine st_seq ?_
      obtain ⟨r149, hr150, h⟩ := h
      obtain ⟨r153, hr154, h⟩ := h
      obtain ⟨r157, hr158, h⟩ := h
      obtain ⟨r161, hr162, h⟩ := h
      obtain ⟨r167, hr168, h⟩ := h
      obtain ⟨q171, hf172, h⟩ := h
      obtain ⟨r180, hr181, h⟩ := h
      obtain ⟨r184, hr185, h⟩ := h
      obtain ⟨q190, hf191, h⟩ := h
      obtain ⟨r199, hr200, h⟩ := h
      refine st_draw 33 (tl [fun τ v => (.pointer (some ⟨bi8, 0, none⟩) : Value) = v,
    fun τ v => (.agg [.int .i64 r110.1.1, .int .i64 r110.1.2.1, .int .u32 r110.1.2.2.1, .int .i64 r110.1.2.2.2.1, .int .i64 r110.1.2.2.2.2, v114].toArray : Value) = v,
    fun τ v => (.int .i64 r149 : Value) = v,
    fun τ v => (.int .i64 r145 : Value) = v,
    fun τ v => (.bool (!(decide (r149 = r145))) : Value) = v,
    fun τ v => (.bool (!(decide (r149 = r145))) : Value) = v,
    fun τ v => (((!(decide (r149 = r145))) = false) → (.agg [.int .i64 r110.1.1, .int .i64 r110.1.2.1, .int .u32 r110.1.2.2.1, .int .i64 r110.1.2.2.2.1, .int .i64 r110.1.2.2.2.2, v114].toArray : Value) = v) ∧ (¬ ((!(decide (r149 = r145))) = false) → v = undef),
    fun τ v => (((!(decide (r149 = r145))) = false) → (.agg [.int .i64 r110.1.1, .int .i64 r110.1.2.1, .int .u32 r110.1.2.2.1, .int .i64 r110.1.2.2.2.1, .int .i64 r110.1.2.2.2.2, v114].toArray : Value) = v) ∧ (¬ ((!(decide (r149 = r145))) = false) → v = undef),
    fun τ v => (((!(decide (r149 = r145))) = false) → (.bool r153 : Value) = v) ∧ (¬ ((!(decide (r149 = r145))) = false) → v = undef),
    fun τ v => (((!(decide (r149 = r145))) = false) → (.bool (!r153) : Value) = v) ∧ (¬ ((!(decide (r149 = r145))) = false) → v = undef),
    fun τ v => (.bool ((!(decide (r149 = r145))) || (!r153)) : Value) = v,
    fun τ v => (.bool ((!(decide (r149 = r145))) || (!r153)) : Value) = v,
    fun τ v => ((((!(decide (r149 = r145))) || (!r153)) = false) → (.agg [.int .i64 r110.1.1, .int .i64 r110.1.2.1, .int .u32 r110.1.2.2.1, .int .i64 r110.1.2.2.2.1, .int .i64 r110.1.2.2.2.2, v114].toArray : Value) = v) ∧ (¬ (((!(decide (r149 = r145))) || (!r153)) = false) → v = undef),
    fun τ v => ((((!(decide (r149 = r145))) || (!r153)) = false) → (.string r157 : Value) = v) ∧ (¬ (((!(decide (r149 = r145))) || (!r153)) = false) → v = undef),
    fun τ v => ((((!(decide (r149 = r145))) || (!r153)) = false) → (.agg [.int .i64 r110.1.1, .int .i64 r110.1.2.1, .int .u32 r110.1.2.2.1, .int .i64 r110.1.2.2.2.1, .int .i64 r110.1.2.2.2.2, v114].toArray : Value) = v) ∧ (¬ (((!(decide (r149 = r145))) || (!r153)) = false) → v = undef),
    fun τ v => ((((!(decide (r149 = r145))) || (!r153)) = false) → ∃ (v165 : Value), (.agg [.int .i64 r161.1.1, .int .i64 r161.1.2.1, .int .u32 r161.1.2.2.1, .int .i64 r161.1.2.2.2.1, .int .i64 r161.1.2.2.2.2, v165].toArray : Value) = v ∧ Sl (kI .u8) τ v165 r161.2) ∧ (¬ (((!(decide (r149 = r145))) || (!r153)) = false) → v = undef),
    fun τ v => ((((!(decide (r149 = r145))) || (!r153)) = false) → (.string r167 : Value) = v) ∧ (¬ (((!(decide (r149 = r145))) || (!r153)) = false) → v = undef),
    fun τ v => ((((!(decide (r149 = r145))) || (!r153)) = false) → (.bool (!(decide (r157 = r167))) : Value) = v) ∧ (¬ (((!(decide (r149 = r145))) || (!r153)) = false) → v = undef),
    fun τ v => (.bool (((!(decide (r149 = r145))) || (!r153)) || (!(decide (r157 = r167)))) : Value) = v,
    fun τ v => (.bool (((!(decide (r149 = r145))) || (!r153)) || (!(decide (r157 = r167)))) : Value) = v,
    fun τ v => (((((!(decide (r149 = r145))) || (!r153)) || (!(decide (r157 = r167)))) = false) → (.agg [.int .i64 r110.1.1, .int .i64 r110.1.2.1, .int .u32 r110.1.2.2.1, .int .i64 r110.1.2.2.2.1, .int .i64 r110.1.2.2.2.2, v114].toArray : Value) = v) ∧ (¬ ((((!(decide (r149 = r145))) || (!r153)) || (!(decide (r157 = r167)))) = false) → v = undef),
    fun τ v => (((((!(decide (r149 = r145))) || (!r153)) || (!(decide (r157 = r167)))) = false) → (v120 : Value) = v) ∧ (¬ ((((!(decide (r149 = r145))) || (!r153)) || (!(decide (r157 = r167)))) = false) → v = undef),
    fun τ v => (((((!(decide (r149 = r145))) || (!r153)) || (!(decide (r157 = r167)))) = false) → ∃ (b173 : Nat), (.pointer (some ⟨b173, (0 : Int).toNat * 6, none⟩) : Value) = v ∧ (∃ n cap, v120 = .slice (some ⟨b173, 0, none⟩) n cap)) ∧ (¬ ((((!(decide (r149 = r145))) || (!r153)) || (!(decide (r157 = r167)))) = false) → v = undef),
    fun τ v => (((((!(decide (r149 = r145))) || (!r153)) || (!(decide (r157 = r167)))) = false) → ∃ (v178 : Value), (.agg [.int .i64 q171.1.1, .int .i64 q171.1.2.1, .int .u32 q171.1.2.2.1, .int .i64 q171.1.2.2.2.1, .int .i64 q171.1.2.2.2.2, v178].toArray : Value) = v ∧ Sl (kI .u8) τ v178 q171.2) ∧ (¬ ((((!(decide (r149 = r145))) || (!r153)) || (!(decide (r157 = r167)))) = false) → v = undef),
    fun τ v => (((((!(decide (r149 = r145))) || (!r153)) || (!(decide (r157 = r167)))) = false) → (.bool r180 : Value) = v) ∧ (¬ ((((!(decide (r149 = r145))) || (!r153)) || (!(decide (r157 = r167)))) = false) → v = undef),
    fun τ v => (((((!(decide (r149 = r145))) || (!r153)) || (!(decide (r157 = r167)))) = false) → (.agg [.int .i64 r110.1.1, .int .i64 r110.1.2.1, .int .u32 r110.1.2.2.1, .int .i64 r110.1.2.2.2.1, .int .i64 r110.1.2.2.2.2, v114].toArray : Value) = v) ∧ (¬ ((((!(decide (r149 = r145))) || (!r153)) || (!(decide (r157 = r167)))) = false) → v = undef),
    fun τ v => (((((!(decide (r149 = r145))) || (!r153)) || (!(decide (r157 = r167)))) = false) → ∃ (v188 : Value), (.agg [.int .i64 r184.1.1, .int .i64 r184.1.2.1, .int .u32 r184.1.2.2.1, .int .i64 r184.1.2.2.2.1, .int .i64 r184.1.2.2.2.2, v188].toArray : Value) = v ∧ Sl (kI .u8) τ v188 r184.2) ∧ (¬ ((((!(decide (r149 = r145))) || (!r153)) || (!(decide (r157 = r167)))) = false) → v = undef),
    fun τ v => (((((!(decide (r149 = r145))) || (!r153)) || (!(decide (r157 = r167)))) = false) → (v134 : Value) = v) ∧ (¬ ((((!(decide (r149 = r145))) || (!r153)) || (!(decide (r157 = r167)))) = false) → v = undef),
    fun τ v => (((((!(decide (r149 = r145))) || (!r153)) || (!(decide (r157 = r167)))) = false) → ∃ (b192 : Nat), (.pointer (some ⟨b192, (0 : Int).toNat * 6, none⟩) : Value) = v ∧ (∃ n cap, v134 = .slice (some ⟨b192, 0, none⟩) n cap)) ∧ (¬ ((((!(decide (r149 = r145))) || (!r153)) || (!(decide (r157 = r167)))) = false) → v = undef),
    fun τ v => (((((!(decide (r149 = r145))) || (!r153)) || (!(decide (r157 = r167)))) = false) → ∃ (v197 : Value), (.agg [.int .i64 q190.1.1, .int .i64 q190.1.2.1, .int .u32 q190.1.2.2.1, .int .i64 q190.1.2.2.2.1, .int .i64 q190.1.2.2.2.2, v197].toArray : Value) = v ∧ Sl (kI .u8) τ v197 q190.2) ∧ (¬ ((((!(decide (r149 = r145))) || (!r153)) || (!(decide (r157 = r167)))) = false) → v = undef),
    fun τ v => (((((!(decide (r149 = r145))) || (!r153)) || (!(decide (r157 = r167)))) = false) → (.bool r199 : Value) = v) ∧ (¬ ((((!(decide (r149 = r145))) || (!r153)) || (!(decide (r157 = r167)))) = false) → v = undef),
    fun τ v => (((((!(decide (r149 = r145))) || (!r153)) || (!(decide (r157 = r167)))) = false) → (.bool (!(decide (r180 = r199))) : Value) = v) ∧ (¬ ((((!(decide (r149 = r145))) || (!r153)) || (!(decide (r157 = r167)))) = false) → v = undef),
    fun τ v => (.bool ((((!(decide (r149 = r145))) || (!r153)) || (!(decide (r157 = r167)))) || (!(decide (r180 = r199)))) : Value) = v]) (fun _ _ => []) z_mix rfl (tl_mono ⟨fun _ _ _ _ h => h, ⟨fun _ _ _ _ h => h, ⟨fun _ _ _ _ h => h, ⟨fun _ _ _ _ h => h, ⟨fun _ _ _ _ h => h, ⟨fun _ _ _ _ h => h, ⟨fun _ _ _ _ h => h, ⟨fun _ _ _ _ h => h, ⟨fun _ _ _ _ h => h, ⟨fun _ _ _ _ h => h, ⟨fun _ _ _ _ h => h, ⟨fun _ _ _ _ h => h, ⟨fun _ _ _ _ h => h, ⟨fun _ _ _ _ h => h, ⟨fun _ _ _ _ h => h, ⟨fun _ _ _ hl ⟨h1, h2⟩ => ⟨fun hC => let ⟨v165, hv, hs166⟩ := h1 hC; ⟨v165, hv, hs166.up hl⟩, h2⟩, ⟨fun _ _ _ _ h => h, ⟨fun _ _ _ _ h => h, ⟨fun _ _ _ _ h => h, ⟨fun _ _ _ _ h => h, ⟨fun _ _ _ _ h => h, ⟨fun _ _ _ _ h => h, ⟨fun _ _ _ hl ⟨h1, h2⟩ => ⟨fun hC => let ⟨b173, hv, hb174⟩ := h1 hC; ⟨b173, hv, hb174⟩, h2⟩, ⟨fun _ _ _ hl ⟨h1, h2⟩ => ⟨fun hC => let ⟨v178, hv, hs179⟩ := h1 hC; ⟨v178, hv, hs179.up hl⟩, h2⟩, ⟨fun _ _ _ _ h => h, ⟨fun _ _ _ _ h => h, ⟨fun _ _ _ hl ⟨h1, h2⟩ => ⟨fun hC => let ⟨v188, hv, hs189⟩ := h1 hC; ⟨v188, hv, hs189.up hl⟩, h2⟩, ⟨fun _ _ _ _ h => h, ⟨fun _ _ _ hl ⟨h1, h2⟩ => ⟨fun hC => let ⟨b192, hv, hb193⟩ := h1 hC; ⟨b192, hv, hb193⟩, h2⟩, ⟨fun _ _ _ hl ⟨h1, h2⟩ => ⟨fun hC => let ⟨v197, hv, hs198⟩ := h1 hC; ⟨v197, hv, hs198.up hl⟩, h2⟩, ⟨fun _ _ _ _ h => h, ⟨fun _ _ _ _ h => h, ⟨fun _ _ _ _ h => h, trivial⟩⟩⟩⟩⟩⟩⟩⟩⟩⟩⟩⟩⟩⟩⟩⟩⟩⟩⟩⟩⟩⟩⟩⟩⟩⟩⟩⟩⟩⟩⟩⟩⟩) (allB_cons (allB_cons (allB_cons (allB_cons (allB_cons (allB_cons (allB_cons (allB_cons (allB_cons (allB_cons (allB_cons (allB_cons (allB_cons (allB_cons (allB_cons (allB_cons (allB_cons (allB_cons (allB_cons (allB_cons (allB_cons (allB_cons (allB_cons (allB_cons (allB_cons (allB_cons (allB_cons (allB_cons (allB_cons (allB_cons (allB_cons (allB_cons (allB_cons allB_nil ?_) ?_) ?_) ?_) ?_) ?_) ?_) ?_) ?_) ?_) ?_) ?_) ?_) ?_) ?_) ?_) ?_) ?_) ?_) ?_) ?_) ?_) ?_) ?_) ?_) ?_) ?_) ?_) ?_) ?_) ?_) ?_) ?_) ?_
      · intro ρ' τ pool rs hl hd hout hk
        refine o_move rfl rfl rfl ((hout 3 rfl).trans rfl) ?_
        exact st_addNil (hk _ _ (Sto.Le.refl _) rfl)
      · intro ρ' τ pool rs hl hd hout hk
        refine o_loadN (j := 4) (vs := [.int .i64 r110.1.1, .int .i64 r110.1.2.1, .int .u32 r110.1.2.2.1, .int .i64 r110.1.2.2.2.1, .int .i64 r110.1.2.2.2.2, v114]) rfl rfl rfl z_agg87 ((hout 8 rfl).trans rfl) rfl rfl ?_
        exact st_addNil (hk _ _ (Sto.Le.refl _) rfl)
      · intro ρ' τ pool rs hl hd hout hk
        obtain ⟨_, e0, rfl⟩ := hd 0 rfl
        obtain ⟨_, e1, rfl⟩ := hd 1 rfl
        refine st_call (foot := []) rfl rfl rfl rfl (evs_cons e0 (evs_cons e1 rfl)) rfl (callV_fn z_en44 (frame_Codec_Check_ok hr150 τ (hc11.up ((((((hl88.trans hl95).trans hl113).trans hl128).trans hl142).trans hl148).trans hl)) (hc9.up ((((((hl88.trans hl95).trans hl113).trans hl128).trans hl142).trans hl148).trans hl)) (hs115.up (((hl128.trans hl142).trans hl148).trans hl)))) ?_
        rintro vτ151 τ151 gsτ151 hl152 ⟨rfl, rfl⟩
        exact st_addNil (hk _ _ hl152 rfl)
      · intro ρ' τ pool rs hl hd hout hk
        refine o_move rfl rfl rfl ((hout 9 rfl).trans rfl) ?_
        exact st_addNil (hk _ _ (Sto.Le.refl _) rfl)
      · intro ρ' τ pool rs hl hd hout hk
        obtain ⟨_, e2, rfl⟩ := hd 2 rfl
        obtain ⟨_, e3, rfl⟩ := hd 3 rfl
        refine o_ibin (v := .bool (!(decide (r149 = r145)))) rfl rfl rfl e2 e3 rfl ?_
        exact st_addNil (hk _ _ (Sto.Le.refl _) rfl)
      · intro ρ' τ pool rs hl hd hout hk
        obtain ⟨_, e4, rfl⟩ := hd 4 rfl
        refine o_move rfl rfl rfl e4 ?_
        exact st_addNil (hk _ _ (Sto.Le.refl _) rfl)
      · intro ρ' τ pool rs hl hd hout hk
        obtain ⟨_, e5, rfl⟩ := hd 5 rfl
        by_cases hG : (!(decide (r149 = r145))) = false
        · have hC := hG
          refine o_loadN (j := 4) (vs := [.int .i64 r110.1.1, .int .i64 r110.1.2.1, .int .u32 r110.1.2.2.1, .int .i64 r110.1.2.2.2.1, .int .i64 r110.1.2.2.2.2, v114]) rfl (wants_of rfl e5 hG) rfl z_agg87 ((hout 8 rfl).trans rfl) rfl rfl ?_
          exact st_addNil (hk _ _ (Sto.Le.refl _) ⟨fun _ => rfl, fun hn => absurd hC hn⟩)
        · refine st_pass rfl rfl rfl e5 (beq_off hG) rfl ?_
          exact st_addNil (hk _ _ (Sto.Le.refl _) ⟨fun h => absurd h hG, fun _ => rfl⟩)
      · intro ρ' τ pool rs hl hd hout hk
        obtain ⟨_, e5, rfl⟩ := hd 5 rfl
        by_cases hG : (!(decide (r149 = r145))) = false
        · have hC := hG
          refine o_loadN (j := 4) (vs := [.int .i64 r110.1.1, .int .i64 r110.1.2.1, .int .u32 r110.1.2.2.1, .int .i64 r110.1.2.2.2.1, .int .i64 r110.1.2.2.2.2, v114]) rfl (wants_of rfl e5 hG) rfl z_agg87 ((hout 8 rfl).trans rfl) rfl rfl ?_
          exact st_addNil (hk _ _ (Sto.Le.refl _) ⟨fun _ => rfl, fun hn => absurd hC hn⟩)
        · refine st_pass rfl rfl rfl e5 (beq_off hG) rfl ?_
          exact st_addNil (hk _ _ (Sto.Le.refl _) ⟨fun h => absurd h hG, fun _ => rfl⟩)
      · intro ρ' τ pool rs hl hd hout hk
        obtain ⟨_, e5, rfl⟩ := hd 5 rfl
        obtain ⟨w6, e6, t6⟩ := hd 6 rfl
        obtain ⟨w7, e7, t7⟩ := hd 7 rfl
        by_cases hG : (!(decide (r149 = r145))) = false
        · have hC := hG
          replace hr154 := hr154 hC
          obtain ⟨rfl⟩ := t6.1 hC
          obtain ⟨rfl⟩ := t7.1 hC
          refine st_call (foot := []) rfl (wants_of rfl e5 hG) rfl rfl (evs_cons e6 (evs_cons e7 rfl)) rfl (callV_fn z_en45 (frame_Same_ok hr154 τ (hs115.up (((hl128.trans hl142).trans hl148).trans hl)) (hs115.up (((hl128.trans hl142).trans hl148).trans hl)))) ?_
          rintro vτ155 τ155 gsτ155 hl156 ⟨rfl, rfl⟩
          exact st_addNil (hk _ _ hl156 ⟨fun _ => rfl, fun hn => absurd hC hn⟩)
        · refine st_pass rfl rfl rfl e5 (beq_off hG) rfl ?_
          exact st_addNil (hk _ _ (Sto.Le.refl _) ⟨fun h => absurd h hG, fun _ => rfl⟩)
      · intro ρ' τ pool rs hl hd hout hk
        obtain ⟨_, e5, rfl⟩ := hd 5 rfl
        obtain ⟨w8, e8, t8⟩ := hd 8 rfl
        by_cases hG : (!(decide (r149 = r145))) = false
        · have hC := hG
          obtain ⟨rfl⟩ := t8.1 hC
          refine o_not rfl (wants_of rfl e5 hG) rfl e8 ?_
          exact st_addNil (hk _ _ (Sto.Le.refl _) ⟨fun _ => rfl, fun hn => absurd hC hn⟩)
        · refine st_pass rfl rfl rfl e5 (beq_off hG) rfl ?_
          exact st_addNil (hk _ _ (Sto.Le.refl _) ⟨fun h => absurd h hG, fun _ => rfl⟩)
      · intro ρ' τ pool rs hl hd hout hk
        obtain ⟨_, e5, rfl⟩ := hd 5 rfl
        obtain ⟨w9, e9, t9⟩ := hd 9 rfl
        refine o_pickOr rfl rfl rfl e5 rfl (fun hp => e9.trans (congrArg some (Eq.symm (t9.1 hp)))) ?_
        exact st_addNil (hk _ _ (Sto.Le.refl _) rfl)
      · intro ρ' τ pool rs hl hd hout hk
        obtain ⟨_, e10, rfl⟩ := hd 10 rfl
        refine o_move rfl rfl rfl e10 ?_
        exact st_addNil (hk _ _ (Sto.Le.refl _) rfl)
      · intro ρ' τ pool rs hl hd hout hk
        obtain ⟨_, e11, rfl⟩ := hd 11 rfl
        by_cases hG : ((!(decide (r149 = r145))) || (!r153)) = false
        · have hC := hG
          refine o_loadN (j := 4) (vs := [.int .i64 r110.1.1, .int .i64 r110.1.2.1, .int .u32 r110.1.2.2.1, .int .i64 r110.1.2.2.2.1, .int .i64 r110.1.2.2.2.2, v114]) rfl (wants_of rfl e11 hG) rfl z_agg87 ((hout 8 rfl).trans rfl) rfl rfl ?_
          exact st_addNil (hk _ _ (Sto.Le.refl _) ⟨fun _ => rfl, fun hn => absurd hC hn⟩)
        · refine st_pass rfl rfl rfl e11 (beq_off hG) rfl ?_
          exact st_addNil (hk _ _ (Sto.Le.refl _) ⟨fun h => absurd h hG, fun _ => rfl⟩)
      · intro ρ' τ pool rs hl hd hout hk
        obtain ⟨_, e11, rfl⟩ := hd 11 rfl
        obtain ⟨w12, e12, t12⟩ := hd 12 rfl
        by_cases hG : ((!(decide (r149 = r145))) || (!r153)) = false
        · have hC := hG
          replace hr158 := hr158 hC
          obtain ⟨rfl⟩ := t12.1 hC
          refine st_call (foot := []) rfl (wants_of rfl e11 hG) rfl rfl (evs_cons e12 rfl) rfl (callV_fn z_en46 (frame_Line_ok hr158 τ (hs115.up (((hl128.trans hl142).trans hl148).trans hl)) (hT.up (((((((hl7.trans hl88).trans hl95).trans hl113).trans hl128).trans hl142).trans hl148).trans hl)))) ?_
          rintro vτ159 τ159 gsτ159 hl160 ⟨rfl, rfl⟩
          exact st_addNil (hk _ _ hl160 ⟨fun _ => rfl, fun hn => absurd hC hn⟩)
        · refine st_pass rfl rfl rfl e11 (beq_off hG) rfl ?_
          exact st_addNil (hk _ _ (Sto.Le.refl _) ⟨fun h => absurd h hG, fun _ => rfl⟩)
      · intro ρ' τ pool rs hl hd hout hk
        obtain ⟨_, e11, rfl⟩ := hd 11 rfl
        by_cases hG : ((!(decide (r149 = r145))) || (!r153)) = false
        · have hC := hG
          refine o_loadN (j := 4) (vs := [.int .i64 r110.1.1, .int .i64 r110.1.2.1, .int .u32 r110.1.2.2.1, .int .i64 r110.1.2.2.2.1, .int .i64 r110.1.2.2.2.2, v114]) rfl (wants_of rfl e11 hG) rfl z_agg87 ((hout 8 rfl).trans rfl) rfl rfl ?_
          exact st_addNil (hk _ _ (Sto.Le.refl _) ⟨fun _ => rfl, fun hn => absurd hC hn⟩)
        · refine st_pass rfl rfl rfl e11 (beq_off hG) rfl ?_
          exact st_addNil (hk _ _ (Sto.Le.refl _) ⟨fun h => absurd h hG, fun _ => rfl⟩)
      · intro ρ' τ pool rs hl hd hout hk
        obtain ⟨_, e11, rfl⟩ := hd 11 rfl
        obtain ⟨w14, e14, t14⟩ := hd 14 rfl
        by_cases hG : ((!(decide (r149 = r145))) || (!r153)) = false
        · have hC := hG
          replace hr162 := hr162 hC
          obtain ⟨rfl⟩ := t14.1 hC
          refine st_call (foot := []) rfl (wants_of rfl e11 hG) rfl rfl (evs_cons e14 rfl) rfl (callV_fn z_en42 (law08_Of_ok hr162 τ (hs115.up (((hl128.trans hl142).trans hl148).trans hl)))) ?_
          rintro vτ163 τ163 gsτ163 hl164 ⟨v165, rfl, rfl, hs166⟩
          exact st_addNil (hk _ _ hl164 ⟨fun _ => ⟨v165, rfl, hs166⟩, fun hn => absurd hC hn⟩)
        · refine st_pass rfl rfl rfl e11 (beq_off hG) rfl ?_
          exact st_addNil (hk _ _ (Sto.Le.refl _) ⟨fun h => absurd h hG, fun _ => rfl⟩)
      · intro ρ' τ pool rs hl hd hout hk
        obtain ⟨_, e11, rfl⟩ := hd 11 rfl
        obtain ⟨w15, e15, t15⟩ := hd 15 rfl
        by_cases hG : ((!(decide (r149 = r145))) || (!r153)) = false
        · have hC := hG
          replace hr168 := hr168 hC
          obtain ⟨v165, rfl, hs166⟩ := t15.1 hC
          refine st_call (foot := []) rfl (wants_of rfl e11 hG) rfl rfl (evs_cons e15 rfl) rfl (callV_fn z_en47 (ref08_Line_ok hr168 τ hs166)) ?_
          rintro vτ169 τ169 gsτ169 hl170 ⟨rfl, rfl⟩
          exact st_addNil (hk _ _ hl170 ⟨fun _ => rfl, fun hn => absurd hC hn⟩)
        · refine st_pass rfl rfl rfl e11 (beq_off hG) rfl ?_
          exact st_addNil (hk _ _ (Sto.Le.refl _) ⟨fun h => absurd h hG, fun _ => rfl⟩)
      · intro ρ' τ pool rs hl hd hout hk
        obtain ⟨_, e11, rfl⟩ := hd 11 rfl
        obtain ⟨w13, e13, t13⟩ := hd 13 rfl
        obtain ⟨w16, e16, t16⟩ := hd 16 rfl
        by_cases hG : ((!(decide (r149 = r145))) || (!r153)) = false
        · have hC := hG
          obtain ⟨rfl⟩ := t13.1 hC
          obtain ⟨rfl⟩ := t16.1 hC
          refine o_sbin (v := .bool (!(decide (r157 = r167)))) rfl (wants_of rfl e11 hG) rfl e13 e16 rfl ?_
          exact st_addNil (hk _ _ (Sto.Le.refl _) ⟨fun _ => rfl, fun hn => absurd hC hn⟩)
        · refine st_pass rfl rfl rfl e11 (beq_off hG) rfl ?_
          exact st_addNil (hk _ _ (Sto.Le.refl _) ⟨fun h => absurd h hG, fun _ => rfl⟩)
      · intro ρ' τ pool rs hl hd hout hk
        obtain ⟨_, e11, rfl⟩ := hd 11 rfl
        obtain ⟨w17, e17, t17⟩ := hd 17 rfl
        refine o_pickOr rfl rfl rfl e11 rfl (fun hp => e17.trans (congrArg some (Eq.symm (t17.1 hp)))) ?_
        exact st_addNil (hk _ _ (Sto.Le.refl _) rfl)
      · intro ρ' τ pool rs hl hd hout hk
        obtain ⟨_, e18, rfl⟩ := hd 18 rfl
        refine o_move rfl rfl rfl e18 ?_
        exact st_addNil (hk _ _ (Sto.Le.refl _) rfl)
      · intro ρ' τ pool rs hl hd hout hk
        obtain ⟨_, e19, rfl⟩ := hd 19 rfl
        by_cases hG : (((!(decide (r149 = r145))) || (!r153)) || (!(decide (r157 = r167)))) = false
        · have hC := hG
          refine o_loadN (j := 4) (vs := [.int .i64 r110.1.1, .int .i64 r110.1.2.1, .int .u32 r110.1.2.2.1, .int .i64 r110.1.2.2.2.1, .int .i64 r110.1.2.2.2.2, v114]) rfl (wants_of rfl e19 hG) rfl z_agg87 ((hout 8 rfl).trans rfl) rfl rfl ?_
          exact st_addNil (hk _ _ (Sto.Le.refl _) ⟨fun _ => rfl, fun hn => absurd hC hn⟩)
        · refine st_pass rfl rfl rfl e19 (beq_off hG) rfl ?_
          exact st_addNil (hk _ _ (Sto.Le.refl _) ⟨fun h => absurd h hG, fun _ => rfl⟩)
      · intro ρ' τ pool rs hl hd hout hk
        obtain ⟨_, e19, rfl⟩ := hd 19 rfl
        by_cases hG : (((!(decide (r149 = r145))) || (!r153)) || (!(decide (r157 = r167)))) = false
        · have hC := hG
          refine o_load (j := 6) (v := v120) rfl (wants_of rfl e19 hG) rfl z_sc80 ((hout 4 rfl).trans rfl) rfl rfl ?_
          exact st_addNil (hk _ _ (Sto.Le.refl _) ⟨fun _ => rfl, fun hn => absurd hC hn⟩)
        · refine st_pass rfl rfl rfl e19 (beq_off hG) rfl ?_
          exact st_addNil (hk _ _ (Sto.Le.refl _) ⟨fun h => absurd h hG, fun _ => rfl⟩)
      · intro ρ' τ pool rs hl hd hout hk
        obtain ⟨_, e19, rfl⟩ := hd 19 rfl
        obtain ⟨w21, e21, t21⟩ := hd 21 rfl
        by_cases hG : (((!(decide (r149 = r145))) || (!r153)) || (!(decide (r157 = r167)))) = false
        · have hC := hG
          replace hf172 := hf172 hC
          obtain ⟨rfl⟩ := t21.1 hC
          refine o_indexOw rfl (wants_of rfl e19 hG) rfl z_slT80 rfl e21 (ho122.up (((hl128.trans hl142).trans hl148).trans hl)) rfl hf172 (fun b173 hb174 => ?_)
          exact st_addNil (hk _ _ (Sto.Le.refl _) ⟨fun _ => ⟨b173, rfl, hb174⟩, fun hn => absurd hC hn⟩)
        · refine st_pass rfl rfl rfl e19 (beq_off hG) rfl ?_
          exact st_addNil (hk _ _ (Sto.Le.refl _) ⟨fun h => absurd h hG, fun _ => rfl⟩)
      · intro ρ' τ pool rs hl hd hout hk
        obtain ⟨_, e19, rfl⟩ := hd 19 rfl
        obtain ⟨w22, e22, t22⟩ := hd 22 rfl
        by_cases hG : (((!(decide (r149 = r145))) || (!r153)) || (!(decide (r157 = r167)))) = false
        · have hC := hG
          obtain ⟨b173, rfl, hb174⟩ := t22.1 hC
          replace hf172 := hf172 hC
          obtain ⟨vs175, hrep176, hat177⟩ := Ow.at (ho122.up (((hl128.trans hl142).trans hl148).trans hl)) hb174 hf172
          obtain ⟨_, _, rfl, ⟨_, _, rfl, rfl, ⟨_, _, rfl, rfl, ⟨_, _, rfl, rfl, ⟨_, _, rfl, rfl, rfl⟩⟩⟩⟩, ⟨v178, rfl, hs179⟩⟩ := hrep176
          refine o_loadOwN (j := 2) (off := 0) (us := [.int .i64 q171.1.1, .int .i64 q171.1.2.1, .int .u32 q171.1.2.2.1, .int .i64 q171.1.2.2.2.1, .int .i64 q171.1.2.2.2.2, v178]) rfl (wants_of rfl e19 hG) rfl z_agg87 e22 hat177 rfl (by exact rfl) ?_
          exact st_addNil (hk _ _ (Sto.Le.refl _) ⟨fun _ => ⟨v178, rfl, hs179⟩, fun hn => absurd hC hn⟩)
        · refine st_pass rfl rfl rfl e19 (beq_off hG) rfl ?_
          exact st_addNil (hk _ _ (Sto.Le.refl _) ⟨fun h => absurd h hG, fun _ => rfl⟩)
      · intro ρ' τ pool rs hl hd hout hk
        obtain ⟨_, e19, rfl⟩ := hd 19 rfl
        obtain ⟨w20, e20, t20⟩ := hd 20 rfl
        obtain ⟨w23, e23, t23⟩ := hd 23 rfl
        by_cases hG : (((!(decide (r149 = r145))) || (!r153)) || (!(decide (r157 = r167)))) = false
        · have hC := hG
          replace hr181 := hr181 hC
          obtain ⟨rfl⟩ := t20.1 hC
          obtain ⟨v178, rfl, hs179⟩ := t23.1 hC
          refine st_call (foot := []) rfl (wants_of rfl e19 hG) rfl rfl (evs_cons e20 (evs_cons e23 rfl)) rfl (callV_fn z_en45 (frame_Same_ok hr181 τ (hs115.up (((hl128.trans hl142).trans hl148).trans hl)) hs179)) ?_
          rintro vτ182 τ182 gsτ182 hl183 ⟨rfl, rfl⟩
          exact st_addNil (hk _ _ hl183 ⟨fun _ => rfl, fun hn => absurd hC hn⟩)
        · refine st_pass rfl rfl rfl e19 (beq_off hG) rfl ?_
          exact st_addNil (hk _ _ (Sto.Le.refl _) ⟨fun h => absurd h hG, fun _ => rfl⟩)
      · intro ρ' τ pool rs hl hd hout hk
        obtain ⟨_, e19, rfl⟩ := hd 19 rfl
        by_cases hG : (((!(decide (r149 = r145))) || (!r153)) || (!(decide (r157 = r167)))) = false
        · have hC := hG
          refine o_loadN (j := 4) (vs := [.int .i64 r110.1.1, .int .i64 r110.1.2.1, .int .u32 r110.1.2.2.1, .int .i64 r110.1.2.2.2.1, .int .i64 r110.1.2.2.2.2, v114]) rfl (wants_of rfl e19 hG) rfl z_agg87 ((hout 8 rfl).trans rfl) rfl rfl ?_
          exact st_addNil (hk _ _ (Sto.Le.refl _) ⟨fun _ => rfl, fun hn => absurd hC hn⟩)
        · refine st_pass rfl rfl rfl e19 (beq_off hG) rfl ?_
          exact st_addNil (hk _ _ (Sto.Le.refl _) ⟨fun h => absurd h hG, fun _ => rfl⟩)
      · intro ρ' τ pool rs hl hd hout hk
        obtain ⟨_, e19, rfl⟩ := hd 19 rfl
        obtain ⟨w25, e25, t25⟩ := hd 25 rfl
        by_cases hG : (((!(decide (r149 = r145))) || (!r153)) || (!(decide (r157 = r167)))) = false
        · have hC := hG
          replace hr185 := hr185 hC
          obtain ⟨rfl⟩ := t25.1 hC
          refine st_call (foot := []) rfl (wants_of rfl e19 hG) rfl rfl (evs_cons e25 rfl) rfl (callV_fn z_en42 (law08_Of_ok hr185 τ (hs115.up (((hl128.trans hl142).trans hl148).trans hl)))) ?_
          rintro vτ186 τ186 gsτ186 hl187 ⟨v188, rfl, rfl, hs189⟩
          exact st_addNil (hk _ _ hl187 ⟨fun _ => ⟨v188, rfl, hs189⟩, fun hn => absurd hC hn⟩)
        · refine st_pass rfl rfl rfl e19 (beq_off hG) rfl ?_
          exact st_addNil (hk _ _ (Sto.Le.refl _) ⟨fun h => absurd h hG, fun _ => rfl⟩)
      · intro ρ' τ pool rs hl hd hout hk
        obtain ⟨_, e19, rfl⟩ := hd 19 rfl
        by_cases hG : (((!(decide (r149 = r145))) || (!r153)) || (!(decide (r157 = r167)))) = false
        · have hC := hG
          refine o_move rfl (wants_of rfl e19 hG) rfl ((hout 5 rfl).trans rfl) ?_
          exact st_addNil (hk _ _ (Sto.Le.refl _) ⟨fun _ => rfl, fun hn => absurd hC hn⟩)
        · refine st_pass rfl rfl rfl e19 (beq_off hG) rfl ?_
          exact st_addNil (hk _ _ (Sto.Le.refl _) ⟨fun h => absurd h hG, fun _ => rfl⟩)
      · intro ρ' τ pool rs hl hd hout hk
        obtain ⟨_, e19, rfl⟩ := hd 19 rfl
        obtain ⟨w27, e27, t27⟩ := hd 27 rfl
        by_cases hG : (((!(decide (r149 = r145))) || (!r153)) || (!(decide (r157 = r167)))) = false
        · have hC := hG
          replace hf191 := hf191 hC
          obtain ⟨rfl⟩ := t27.1 hC
          refine o_indexOw rfl (wants_of rfl e19 hG) rfl z_slT83 rfl e27 (ho136.up ((hl142.trans hl148).trans hl)) rfl hf191 (fun b192 hb193 => ?_)
          exact st_addNil (hk _ _ (Sto.Le.refl _) ⟨fun _ => ⟨b192, rfl, hb193⟩, fun hn => absurd hC hn⟩)
        · refine st_pass rfl rfl rfl e19 (beq_off hG) rfl ?_
          exact st_addNil (hk _ _ (Sto.Le.refl _) ⟨fun h => absurd h hG, fun _ => rfl⟩)
      · intro ρ' τ pool rs hl hd hout hk
        obtain ⟨_, e19, rfl⟩ := hd 19 rfl
        obtain ⟨w28, e28, t28⟩ := hd 28 rfl
        by_cases hG : (((!(decide (r149 = r145))) || (!r153)) || (!(decide (r157 = r167)))) = false
        · have hC := hG
          obtain ⟨b192, rfl, hb193⟩ := t28.1 hC
          replace hf191 := hf191 hC
          obtain ⟨vs194, hrep195, hat196⟩ := Ow.at (ho136.up ((hl142.trans hl148).trans hl)) hb193 hf191
          obtain ⟨_, _, rfl, ⟨_, _, rfl, rfl, ⟨_, _, rfl, rfl, ⟨_, _, rfl, rfl, ⟨_, _, rfl, rfl, rfl⟩⟩⟩⟩, ⟨v197, rfl, hs198⟩⟩ := hrep195
          refine o_loadOwN (j := 0) (off := 0) (us := [.int .i64 q190.1.1, .int .i64 q190.1.2.1, .int .u32 q190.1.2.2.1, .int .i64 q190.1.2.2.2.1, .int .i64 q190.1.2.2.2.2, v197]) rfl (wants_of rfl e19 hG) rfl z_agg91 e28 hat196 rfl (by exact rfl) ?_
          exact st_addNil (hk _ _ (Sto.Le.refl _) ⟨fun _ => ⟨v197, rfl, hs198⟩, fun hn => absurd hC hn⟩)
        · refine st_pass rfl rfl rfl e19 (beq_off hG) rfl ?_
          exact st_addNil (hk _ _ (Sto.Le.refl _) ⟨fun h => absurd h hG, fun _ => rfl⟩)
      · intro ρ' τ pool rs hl hd hout hk
        obtain ⟨_, e19, rfl⟩ := hd 19 rfl
        obtain ⟨w26, e26, t26⟩ := hd 26 rfl
        obtain ⟨w29, e29, t29⟩ := hd 29 rfl
        by_cases hG : (((!(decide (r149 = r145))) || (!r153)) || (!(decide (r157 = r167)))) = false
        · have hC := hG
          replace hr200 := hr200 hC
          obtain ⟨v197, rfl, hs198⟩ := t29.1 hC
          obtain ⟨v188, rfl, hs189⟩ := t26.1 hC
          refine st_call (foot := []) rfl (wants_of rfl e19 hG) rfl rfl (evs_cons e26 (evs_cons e29 rfl)) rfl (callV_fn z_en48 (ref08_Same_ok hr200 τ hs189 hs198)) ?_
          rintro vτ201 τ201 gsτ201 hl202 ⟨rfl, rfl⟩
          exact st_addNil (hk _ _ hl202 ⟨fun _ => rfl, fun hn => absurd hC hn⟩)
        · refine st_pass rfl rfl rfl e19 (beq_off hG) rfl ?_
          exact st_addNil (hk _ _ (Sto.Le.refl _) ⟨fun h => absurd h hG, fun _ => rfl⟩)
      · intro ρ' τ pool rs hl hd hout hk
        obtain ⟨_, e19, rfl⟩ := hd 19 rfl
        obtain ⟨w24, e24, t24⟩ := hd 24 rfl
        obtain ⟨w30, e30, t30⟩ := hd 30 rfl
        by_cases hG : (((!(decide (r149 = r145))) || (!r153)) || (!(decide (r157 = r167)))) = false
        · have hC := hG
          obtain ⟨rfl⟩ := t30.1 hC
          obtain ⟨rfl⟩ := t24.1 hC
          refine o_beq (e := (!(decide (r180 = r199)))) rfl (wants_of rfl e19 hG) rfl Tryd.underlying4 e24 e30 rfl ?_
          exact st_addNil (hk _ _ (Sto.Le.refl _) ⟨fun _ => rfl, fun hn => absurd hC hn⟩)
        · refine st_pass rfl rfl rfl e19 (beq_off hG) rfl ?_
          exact st_addNil (hk _ _ (Sto.Le.refl _) ⟨fun h => absurd h hG, fun _ => rfl⟩)
      · intro ρ' τ pool rs hl hd hout hk
        obtain ⟨_, e19, rfl⟩ := hd 19 rfl
        obtain ⟨w31, e31, t31⟩ := hd 31 rfl
        refine o_pickOr rfl rfl rfl e19 rfl (fun hp => e31.trans (congrArg some (Eq.symm (t31.1 hp)))) ?_
        exact st_addNil (hk _ _ (Sto.Le.refl _) rfl)
      intro ρ' τ203 vals hl203 hv hout
      have l32 : Eng.look ρ' 76 = some (.bool ((((!(decide (r149 = r145))) || (!r153)) || (!(decide (r157 = r167)))) || (!(decide (r180 = r199))))) := ((hv 32 (by decide)).1).trans (congrArg some (show vals 32 = .bool ((((!(decide (r149 = r145))) || (!r153)) || (!(decide (r157 = r167)))) || (!(decide (r180 = r199)))) from Eq.symm (hv 32 (by decide)).2))
      refine st_ord [0, 0, 0, 0, 0, 0, 0] [g135, g132, g121, g118, [(b116, .cells [.int .i64 r110.1.1, .int .i64 r110.1.2.1, .int .u32 r110.1.2.2.1, .int .i64 r110.1.2.2.2.1, .int .i64 r110.1.2.2.2.2, v114].toArray 87 (0, 0))], [(b3, .cells [.bool false].toArray 4 (0, 0))], [(b12, .cells [v120].toArray 80 (0, 0))]] rfl ?_
      refine st_env (ρ' := [(76, .bool ((((!(decide (r149 = r145))) || (!r153)) || (!(decide (r157 = r167)))) || (!(decide (r180 = r199))))), (0, v1), (2, .pointer (some ⟨b3, 0, none⟩)), (3, .pointer (some ⟨bi8, 0, none⟩)), (4, .pointer (some ⟨b12, 0, none⟩)), (5, v134), (6, .int .i64 s88.2.1), (7, .int .i64 s88.2.2.1), (9, .int .i64 r145)]) ⟨l32, (hout 0 rfl).trans rfl, (hout 2 rfl).trans rfl, (hout 3 rfl).trans rfl, (hout 4 rfl).trans rfl, (hout 5 rfl).trans rfl, (hout 6 rfl).trans rfl, (hout 7 rfl).trans rfl, (hout 9 rfl).trans rfl, trivial⟩ ?_
      refine st_end ?_
      refine st_cond rfl (fun hc => ?_) (fun hc => ?_)
      · replace h := (if_pos hc).mp h
        refine st_seq ?_
        refine st_region ?_
        refine o_store (j := 5) (vs := [.bool false]) (cs' := [.bool false]) rfl rfl rfl z_size4 rfl rfl rfl (ones_cons rfl ones_nil) rfl rfl rfl ?_
        refine st_gs [g135, g132, g121, g118, [(b116, .cells [.int .i64 r110.1.1, .int .i64 r110.1.2.1, .int .u32 r110.1.2.2.1, .int .i64 r110.1.2.2.2.1, .int .i64 r110.1.2.2.2.2, v114].toArray 87 (0, 0))], [(b3, .cells [.bool false].toArray 4 (0, 0))], [(b12, .cells [v120].toArray 80 (0, 0))]] rfl ?_
        refine st_end ?_
        obtain rfl := he88 _ h
        replace h := hA88
        obtain rfl := Eq.symm h
        exact st_retC (gs' := []) [.bool false] Tryd.func9 ⟨⟨_, _, _, _, rfl, mem_flat 5 rfl, fun w hw => cellOf z_sc4 rfl w hw⟩, trivial⟩ (by simp) (((((((hl7.trans hl88).trans hl95).trans hl113).trans hl128).trans hl142).trans hl148).trans hl203) ⟨rfl, rfl⟩
      · replace h := (if_neg (ne_t hc)).mp h
        refine st_skip ?_
        refine st_seq ?_
        refine st_region ?_
        refine o_move rfl rfl rfl rfl ?_
        refine o_ibin (v := .bool (decide (s88.2.1 = 0))) rfl rfl rfl rfl rfl rfl ?_
        refine st_end ?_
        refine st_cond rfl (fun hc => ?_) (fun hc => ?_)
        · replace h := (if_pos hc).mp h
          refine st_region ?_
          refine o_move rfl rfl rfl rfl ?_
          refine o_assign rfl rfl rfl rfl ?_
          refine st_end ?_
          refine st_inBlock ?_
          refine st_env (ρ' := [(0, v1), (2, .pointer (some ⟨b3, 0, none⟩)), (3, .pointer (some ⟨bi8, 0, none⟩)), (4, .pointer (some ⟨b12, 0, none⟩)), (5, v134), (6, .int .i64 r145), (7, .int .i64 s88.2.2.1)]) ⟨rfl, rfl, rfl, rfl, rfl, rfl, rfl, trivial⟩ ?_
          refine st_ord [5, 5, 0, 1] [[(b3, .cells [.bool false].toArray 4 (0, 0))], [(b12, .cells [v120].toArray 80 (0, 0))], g135, g121] rfl ?_
          exact hk96 _ _ _ ⟨((s88.1 ++ [r125]), r145, (s88.2.2.2 ++ [r110])), _, _, _, _, h, ((((hl113.trans hl128).trans hl142).trans hl148).trans hl203), rfl, rfl, (ho136.up ((hl142.trans hl148).trans hl203)), (ho122.up (((hl128.trans hl142).trans hl148).trans hl203))⟩
        · replace h := (if_neg (ne_t hc)).mp h
          refine st_skip ?_
          refine st_inBlock ?_
          refine st_env (ρ' := [(0, v1), (2, .pointer (some ⟨b3, 0, none⟩)), (3, .pointer (some ⟨bi8, 0, none⟩)), (4, .pointer (some ⟨b12, 0, none⟩)), (5, v134), (6, .int .i64 s88.2.1), (7, .int .i64 s88.2.2.1)]) ⟨rfl, rfl, rfl, rfl, rfl, rfl, rfl, trivial⟩ ?_
          refine st_ord [5, 5, 0, 1] [[(b3, .cells [.bool false].toArray 4 (0, 0))], [(b12, .cells [v120].toArray 80 (0, 0))], g135, g121] rfl ?_
          exact hk96 _ _ _ ⟨((s88.1 ++ [r125]), s88.2.1, (s88.2.2.2 ++ [r110])), _, _, _, _, h, ((((hl113.trans hl128).trans hl142).trans hl148).trans hl203), rfl, rfl, (ho136.up ((hl142.trans hl148).trans hl203)), (ho122.up (((hl128.trans hl142).trans hl148).trans hl203))⟩
    · replace h := (if_neg (ne_t hc)).mp h
      refine st_exit rfl ?_
      obtain rfl := he88 _ h
      replace h := hA88
      refine st_env (ρ' := [(2, .pointer (some ⟨b3, 0, none⟩)), (3, .pointer (some ⟨bi8, 0, none⟩)), (4, .pointer (some ⟨b12, 0, none⟩)), (5, v89), (6, .int .i64 s88.2.1)]) ⟨rfl, rfl, rfl, rfl, rfl, trivial⟩ ?_
      exact hk13 _ _ _ ⟨(s88.1, s88.2.1, s88.2.2.2), _, _, _, _, h, (hl88.trans hl95), rfl, rfl, (ho91.up hl95), (ho94.up hl95)⟩
  refine st_region ?_
  refine o_move rfl rfl rfl rfl ?_
  refine o_move rfl rfl rfl rfl ?_
  refine o_lenI rfl rfl rfl z_slT80 rfl (hs2.up (hl7.trans hl88)) ?_
  refine o_ibin (v := .bool (decide (s88.2.2.1 < (a0.length : Int)))) rfl rfl rfl rfl rfl rfl ?_
  refine o_moveB rfl rfl rfl rfl (fun hc => ?_) (fun hc => ?_)
  · replace h := (if_pos hc).mp h
    refine o_move rfl rfl rfl rfl ?_
    refine o_ibin (v := .bool (decide (s88.2.2.1 < 10))) rfl rfl rfl rfl rfl rfl ?_
    refine o_pick rfl rfl rfl rfl rfl ?_
    refine st_end ?_
    refine st_env (ρ' := [(0, v1), (2, .pointer (some ⟨b3, 0, none⟩)), (3, .pointer (some ⟨bi8, 0, none⟩)), (4, .pointer (some ⟨b12, 0, none⟩)), (5, v89), (6, .int .i64 s88.2.1), (7, .int .i64 s88.2.2.1), (24, .bool (decide (s88.2.2.1 < 10)))]) ⟨rfl, rfl, rfl, rfl, rfl, rfl, rfl, rfl, trivial⟩ ?_
    exact hk95 _ _ _ ⟨(decide (s88.2.2.1 < 10)), h, (Sto.Le.refl _), rfl, rfl⟩
  · replace h := (if_neg (ne_t hc)).mp h
    refine st_pass rfl rfl rfl rfl rfl rfl ?_
    refine st_pass rfl rfl rfl rfl rfl rfl ?_
    refine o_pick rfl rfl rfl rfl rfl ?_
    refine st_end ?_
    refine st_env (ρ' := [(0, v1), (2, .pointer (some ⟨b3, 0, none⟩)), (3, .pointer (some ⟨bi8, 0, none⟩)), (4, .pointer (some ⟨b12, 0, none⟩)), (5, v89), (6, .int .i64 s88.2.1), (7, .int .i64 s88.2.2.1), (24, .bool false)]) ⟨rfl, rfl, rfl, rfl, rfl, rfl, rfl, rfl, trivial⟩ ?_
    exact hk95 _ _ _ ⟨false, h, (Sto.Le.refl _), rfl, rfl⟩
end Go.Rel
