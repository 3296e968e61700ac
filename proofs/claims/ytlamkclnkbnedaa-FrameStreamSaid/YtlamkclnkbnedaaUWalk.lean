import Derived.Test.YtlamkclnkbnedaaURel
import Derived.Test.YtlamkclnkbnedaaUFacts
import Derived.Test.YtlamkclnkbnedaaUWalk1
/-! The walks. -/
set_option linter.unusedVariables false
set_option linter.unusedSimpArgs false
set_option maxRecDepth 4000
namespace Go.Rel
open Go Go.Eng Go.Proofs
theorem law08_FrameStream_ok {a0 : List Int} {a1 : Int} {v1 : Value} {r : Bool} (h : law08_FrameStream a0 a1 r) (σ : Sto) (hs2 : Sl (kI .u8) σ v1 a0) :
    Does Try.prog 8 [v1, .int .i64 a1] σ [] (fun v τ gs => gs = [] ∧ .bool r = v) := by
  refine call_of Try.func8 Try.ntmps8 rfl rfl (fun cs fs => ?_)
  refine st_seq ?_
  refine st_region ?_
  refine o_box (cs := [.int .i64 a1]) rfl rfl rfl rfl rfl (fun b3 => ?_)
  refine o_alloc rfl rfl rfl z_zero4 (fun b4 => ?_)
  refine st_end ?_
  refine st_seq ?_
  refine st_region ?_
  refine o_move rfl rfl rfl rfl ?_
  refine o_move rfl rfl rfl rfl ?_
  refine o_lenI rfl rfl rfl z_slT45 rfl hs2 ?_
  refine o_min2 rfl rfl rfl rfl rfl ?_
  obtain ⟨hf5, h⟩ := h
  obtain ⟨hf6, h⟩ := h
  refine o_slice (L := 0) (H := (min (a0.length : Int) 900)) rfl rfl rfl z_slT45 rfl rfl hs2 rfl ⟨_, rfl⟩ (by decide) hf5 hf6 trivial (by simp) (fun v7 hs8 => ?_)
  refine o_assign rfl rfl rfl rfl ?_
  refine st_end ?_
  refine st_seq ?_
  refine st_region ?_
  obtain ⟨r9, hr10, h⟩ := h
  refine st_call (foot := []) rfl rfl rfl rfl rfl rfl (callV_fn z_en20 (frame_New_ok hr10 σ)) ?_
  rintro vτ11 τ11 gsτ11 hl12 ⟨bi15, bi13, rfl, rfl, hc16, hc14⟩
  refine o_assign rfl rfl rfl rfl ?_
  refine st_end ?_
  refine st_seq ?_
  refine st_region ?_
  refine o_move rfl rfl rfl rfl ?_
  obtain ⟨r17, hr18, h⟩ := h
  refine st_call (foot := []) rfl rfl rfl rfl rfl rfl (callV_fn z_en35 (ref08_Frames_ok hr18 τ11 (hs8.up hl12))) ?_
  rintro vτ19 τ19 gsτ19 hl20 ⟨v21, v23, rfl, rfl, hs22, hs24⟩
  refine o_move rfl rfl rfl rfl ?_
  refine o_extract rfl rfl rfl rfl rfl ?_
  refine o_extract rfl rfl rfl rfl rfl ?_
  refine o_alloc rfl rfl rfl z_zero72 (fun b25 => ?_)
  refine o_alloc rfl rfl rfl z_zero73 (fun b26 => ?_)
  refine o_store (j := 1) (vs := [v21]) (cs' := [v21]) rfl rfl rfl z_size72 rfl rfl (oneL_sl hs22) (ones_cons hs22.one' ones_nil) rfl rfl rfl ?_
  refine st_gs [[(b26, .cells [.slice none 0 0].toArray 73 (0, 0))], [(b25, .cells [v21].toArray 72 (0, 0))], [(b4, .cells [.bool false].toArray 4 (0, 0))], [(b3, .cells [.int .i64 a1].toArray 3 (0, 0))]] rfl ?_
  refine o_store (j := 0) (vs := [v23]) (cs' := [v23]) rfl rfl rfl z_size73 rfl rfl (oneL_sl hs24) (ones_cons hs24.one' ones_nil) rfl rfl rfl ?_
  refine st_gs [[(b26, .cells [v23].toArray 73 (0, 0))], [(b25, .cells [v21].toArray 72 (0, 0))], [(b4, .cells [.bool false].toArray 4 (0, 0))], [(b3, .cells [.int .i64 a1].toArray 3 (0, 0))]] rfl ?_
  refine st_end ?_
  refine st_seq ?_
  refine st_region ?_
  refine o_alloc rfl rfl rfl z_zero3 (fun b27 => ?_)
  refine o_store (j := 0) (vs := [.int .i64 0]) (cs' := [.int .i64 0]) rfl rfl rfl z_size3 rfl rfl rfl (ones_cons rfl ones_nil) rfl rfl rfl ?_
  refine st_gs [[(b27, .cells [.int .i64 0].toArray 3 (0, 0))], [(b26, .cells [v23].toArray 73 (0, 0))], [(b25, .cells [v21].toArray 72 (0, 0))], [(b4, .cells [.bool false].toArray 4 (0, 0))], [(b3, .cells [.int .i64 a1].toArray 3 (0, 0))]] rfl ?_
  refine st_end ?_
  refine st_seq ?_
  refine st_region ?_
  refine o_move rfl rfl rfl rfl ?_
  refine o_move rfl rfl rfl rfl ?_
  obtain ⟨r28, hr29, h⟩ := h
  refine st_call (foot := []) rfl rfl rfl rfl rfl rfl (callV_fn z_en36 (frame_Codec_Frames_ok hr29 τ19 (hc16.up hl20) (hc14.up hl20) (hs8.up (hl12.trans hl20)))) ?_
  rintro vτ30 τ30 gsτ30 hl31 ⟨f32, q33, rfl, rfl, hit34⟩
  refine o_assign rfl rfl rfl rfl ?_
  refine st_end ?_
  refine st_seq ?_
  refine st_seq ?_
  refine st_region ?_
  refine o_move rfl rfl rfl rfl ?_
  refine o_fnNil (b := false) rfl rfl rfl Try.underlying77 rfl rfl rfl ?_
  refine st_end ?_
  refine st_condF rfl ?_
  refine st_skip ?_
  refine st_seq ?_
  refine st_seq ?_
  refine st_region ?_
  refine o_move rfl rfl rfl rfl ?_
  refine st_end ?_
  refine st_block ?_
  obtain ⟨t35, w35, hR35, hA35⟩ := h
  refine st_env (ρ' := [(0, v7), (3, .pointer (some ⟨b3, 0, none⟩)), (4, .pointer (some ⟨b4, 0, none⟩)), (5, .pointer (some ⟨bi13, 0, none⟩)), (6, .pointer (some ⟨b25, 0, none⟩)), (7, .pointer (some ⟨b26, 0, none⟩)), (8, .pointer (some ⟨b27, 0, none⟩)), (31, .func (.func f32) #[] q33)]) ⟨rfl, rfl, rfl, rfl, rfl, rfl, rfl, rfl, trivial⟩ ?_
  refine st_ord [4, 3, 2, 1, 0] [[(b3, .cells [.int .i64 a1].toArray 3 (0, 0))], [(b4, .cells [.bool false].toArray 4 (0, 0))], [(b25, .cells [v21].toArray 72 (0, 0))], [(b26, .cells [v23].toArray 73 (0, 0))], [(b27, .cells [.int .i64 0].toArray 3 (0, 0))]] rfl ?_
  refine st_addNil ?_
  refine st_range (B := law08_FrameStream_l1 r17) (s0 := 0) ranges_fctx rfl hit34 (Sto.Le.refl _) hR35 rfl (fun _ _ _ h => by obtain ⟨_, rfl, _⟩ := h; rfl) (fun (s35 : Int) τ35 gs => τ30.Le τ35 ∧ gs = [[(b3, .cells [.int .i64 a1].toArray 3 (0, 0))], [(b4, .cells [.bool false].toArray 4 (0, 0))], [(b25, .cells [v21].toArray 72 (0, 0))], [(b26, .cells [v23].toArray 73 (0, 0))], [(b27, .cells [.int .i64 s35].toArray 3 (0, 0))]]) (fun (p63 : Int) cd τ64 gs => cd = .ret ∧ τ30.Le τ64 ∧ gs = [[(b3, .cells [.int .i64 a1].toArray 3 (0, 0))], [(b4, .cells [.bool false].toArray 4 (0, 0))], [(b25, .cells [v21].toArray 72 (0, 0))], [(b26, .cells [v23].toArray 73 (0, 0))], [(b27, .cells [.int .i64 p63].toArray 3 (0, 0))]]) (fun _ _ _ _ hl ⟨hb, hg⟩ => ⟨hb.trans hl, hg⟩) (fun _ _ _ _ _ hl ⟨hc, hb, hg⟩ => ⟨hc, hb.trans hl, hg⟩) ⟨Sto.Le.refl _, rfl⟩ ?_ ?_ ?_
  · rintro x35 s35 o35 τ35 gs35 vx35 hl35 h ⟨v36, rfl, hs37⟩ ⟨hb35, rfl⟩ l35 rc35 caller35 cs35 fs35
    refine st_seq ?_
    refine st_region ?_
    refine o_alloc rfl rfl rfl z_zero47 (fun b38 => ?_)
    refine o_store (j := 0) (vs := [.int .i64 x35.1.1.1, .int .i64 x35.1.1.2.1, .int .u32 x35.1.1.2.2.1, .int .i64 x35.1.1.2.2.2.1, .int .i64 x35.1.1.2.2.2.2, v36]) (cs' := [.int .i64 x35.1.1.1, .int .i64 x35.1.1.2.1, .int .u32 x35.1.1.2.2.1, .int .i64 x35.1.1.2.2.2.1, .int .i64 x35.1.1.2.2.2.2, v36]) rfl rfl rfl z_size47 rfl rfl rfl (ones_cons rfl (ones_cons rfl (ones_cons rfl (ones_cons rfl (ones_cons rfl (ones_cons hs37.one' ones_nil)))))) rfl rfl rfl ?_
    refine st_gs [[(b38, .cells [.int .i64 x35.1.1.1, .int .i64 x35.1.1.2.1, .int .u32 x35.1.1.2.2.1, .int .i64 x35.1.1.2.2.2.1, .int .i64 x35.1.1.2.2.2.2, v36].toArray 47 (0, 0))], [(b3, .cells [.int .i64 a1].toArray 3 (0, 0))], [(b4, .cells [.bool false].toArray 4 (0, 0))], [(b25, .cells [v21].toArray 72 (0, 0))], [(b26, .cells [v23].toArray 73 (0, 0))], [(b27, .cells [.int .i64 s35].toArray 3 (0, 0))]] rfl ?_
    refine st_end ?_
    refine st_region ?_
    refine o_assign rfl rfl rfl rfl ?_
    refine st_end ?_
    refine st_begin ?_
    refine st_block ?_
    refine st_seq ?_
    refine st_seq ?_
    obtain ⟨q39, hf40, h⟩ := h
    obtain ⟨r44, hr45, h⟩ := h
    obtain ⟨q50, hf51, h⟩ := h
    obtain ⟨r58, hr59, h⟩ := h
    refine st_draw 22 (tl [fun τ v => (.int .i64 s35 : Value) = v,
    fun τ v => (v21 : Value) = v,
    fun τ v => (.int .i64 (r17.1.length : Int) : Value) = v,
    fun τ v => (.bool (decide ((r17.1.length : Int) ≤ s35)) : Value) = v,
    fun τ v => (.bool (decide ((r17.1.length : Int) ≤ s35)) : Value) = v,
    fun τ v => (((decide ((r17.1.length : Int) ≤ s35)) = false) → (.int .i64 x35.2 : Value) = v) ∧ (¬ ((decide ((r17.1.length : Int) ≤ s35)) = false) → v = undef),
    fun τ v => (((decide ((r17.1.length : Int) ≤ s35)) = false) → (v23 : Value) = v) ∧ (¬ ((decide ((r17.1.length : Int) ≤ s35)) = false) → v = undef),
    fun τ v => (((decide ((r17.1.length : Int) ≤ s35)) = false) → (.int .i64 s35 : Value) = v) ∧ (¬ ((decide ((r17.1.length : Int) ≤ s35)) = false) → v = undef),
    fun τ v => (((decide ((r17.1.length : Int) ≤ s35)) = false) → ∃ (b41 : Nat) (of42 : Nat) (vsb41 : List Value), (.pointer (some ⟨b41, of42, none⟩) : Value) = v ∧ CelN τ ⟨b41, of42, none⟩ vsb41 ∧ (kI .i64).rep τ vsb41 q39) ∧ (¬ ((decide ((r17.1.length : Int) ≤ s35)) = false) → v = undef),
    fun τ v => (((decide ((r17.1.length : Int) ≤ s35)) = false) → (.int .i64 q39 : Value) = v) ∧ (¬ ((decide ((r17.1.length : Int) ≤ s35)) = false) → v = undef),
    fun τ v => (((decide ((r17.1.length : Int) ≤ s35)) = false) → (.bool (!(decide (x35.2 = q39))) : Value) = v) ∧ (¬ ((decide ((r17.1.length : Int) ≤ s35)) = false) → v = undef),
    fun τ v => (.bool ((decide ((r17.1.length : Int) ≤ s35)) || (!(decide (x35.2 = q39)))) : Value) = v,
    fun τ v => (.bool ((decide ((r17.1.length : Int) ≤ s35)) || (!(decide (x35.2 = q39)))) : Value) = v,
    fun τ v => ((((decide ((r17.1.length : Int) ≤ s35)) || (!(decide (x35.2 = q39)))) = false) → (.agg [.int .i64 x35.1.1.1, .int .i64 x35.1.1.2.1, .int .u32 x35.1.1.2.2.1, .int .i64 x35.1.1.2.2.2.1, .int .i64 x35.1.1.2.2.2.2, v36].toArray : Value) = v) ∧ (¬ (((decide ((r17.1.length : Int) ≤ s35)) || (!(decide (x35.2 = q39)))) = false) → v = undef),
    fun τ v => ((((decide ((r17.1.length : Int) ≤ s35)) || (!(decide (x35.2 = q39)))) = false) → ∃ (v48 : Value), (.agg [.int .i64 r44.1.1, .int .i64 r44.1.2.1, .int .u32 r44.1.2.2.1, .int .i64 r44.1.2.2.2.1, .int .i64 r44.1.2.2.2.2, v48].toArray : Value) = v ∧ Sl (kI .u8) τ v48 r44.2) ∧ (¬ (((decide ((r17.1.length : Int) ≤ s35)) || (!(decide (x35.2 = q39)))) = false) → v = undef),
    fun τ v => ((((decide ((r17.1.length : Int) ≤ s35)) || (!(decide (x35.2 = q39)))) = false) → (v21 : Value) = v) ∧ (¬ (((decide ((r17.1.length : Int) ≤ s35)) || (!(decide (x35.2 = q39)))) = false) → v = undef),
    fun τ v => ((((decide ((r17.1.length : Int) ≤ s35)) || (!(decide (x35.2 = q39)))) = false) → (.int .i64 s35 : Value) = v) ∧ (¬ (((decide ((r17.1.length : Int) ≤ s35)) || (!(decide (x35.2 = q39)))) = false) → v = undef),
    fun τ v => ((((decide ((r17.1.length : Int) ≤ s35)) || (!(decide (x35.2 = q39)))) = false) → ∃ (b52 : Nat) (of53 : Nat) (vsb52 : List Value), (.pointer (some ⟨b52, of53, none⟩) : Value) = v ∧ CelN τ ⟨b52, of53, none⟩ vsb52 ∧ (kP (kP (kI .i64) (kP (kI .i64) (kP (kI .u32) (kP (kI .i64) (kI .i64))))) (kSl (kI .u8))).rep τ vsb52 q50) ∧ (¬ (((decide ((r17.1.length : Int) ≤ s35)) || (!(decide (x35.2 = q39)))) = false) → v = undef),
    fun τ v => ((((decide ((r17.1.length : Int) ≤ s35)) || (!(decide (x35.2 = q39)))) = false) → ∃ (v54 : Value), (.agg [.int .i64 q50.1.1, .int .i64 q50.1.2.1, .int .u32 q50.1.2.2.1, .int .i64 q50.1.2.2.2.1, .int .i64 q50.1.2.2.2.2, v54].toArray : Value) = v ∧ Sl (kI .u8) τ v54 q50.2) ∧ (¬ (((decide ((r17.1.length : Int) ≤ s35)) || (!(decide (x35.2 = q39)))) = false) → v = undef),
    fun τ v => ((((decide ((r17.1.length : Int) ≤ s35)) || (!(decide (x35.2 = q39)))) = false) → (.bool r58 : Value) = v) ∧ (¬ (((decide ((r17.1.length : Int) ≤ s35)) || (!(decide (x35.2 = q39)))) = false) → v = undef),
    fun τ v => ((((decide ((r17.1.length : Int) ≤ s35)) || (!(decide (x35.2 = q39)))) = false) → (.bool (!r58) : Value) = v) ∧ (¬ (((decide ((r17.1.length : Int) ≤ s35)) || (!(decide (x35.2 = q39)))) = false) → v = undef),
    fun τ v => (.bool (((decide ((r17.1.length : Int) ≤ s35)) || (!(decide (x35.2 = q39)))) || (!r58)) : Value) = v]) (fun _ _ => []) z_mix rfl (tl_mono ⟨fun _ _ _ _ h => h, ⟨fun _ _ _ _ h => h, ⟨fun _ _ _ _ h => h, ⟨fun _ _ _ _ h => h, ⟨fun _ _ _ _ h => h, ⟨fun _ _ _ _ h => h, ⟨fun _ _ _ _ h => h, ⟨fun _ _ _ _ h => h, ⟨fun _ _ _ hl ⟨h1, h2⟩ => ⟨fun hC => let ⟨b41, of42, vsb41, hv, hc43, hrepb41⟩ := h1 hC; ⟨b41, of42, vsb41, hv, hc43.up hl, Kd.mono _ hl hrepb41⟩, h2⟩, ⟨fun _ _ _ _ h => h, ⟨fun _ _ _ _ h => h, ⟨fun _ _ _ _ h => h, ⟨fun _ _ _ _ h => h, ⟨fun _ _ _ _ h => h, ⟨fun _ _ _ hl ⟨h1, h2⟩ => ⟨fun hC => let ⟨v48, hv, hs49⟩ := h1 hC; ⟨v48, hv, hs49.up hl⟩, h2⟩, ⟨fun _ _ _ _ h => h, ⟨fun _ _ _ _ h => h, ⟨fun _ _ _ hl ⟨h1, h2⟩ => ⟨fun hC => let ⟨b52, of53, vsb52, hv, hc55, hrepb52⟩ := h1 hC; ⟨b52, of53, vsb52, hv, hc55.up hl, Kd.mono _ hl hrepb52⟩, h2⟩, ⟨fun _ _ _ hl ⟨h1, h2⟩ => ⟨fun hC => let ⟨v54, hv, hs57⟩ := h1 hC; ⟨v54, hv, hs57.up hl⟩, h2⟩, ⟨fun _ _ _ _ h => h, ⟨fun _ _ _ _ h => h, ⟨fun _ _ _ _ h => h, trivial⟩⟩⟩⟩⟩⟩⟩⟩⟩⟩⟩⟩⟩⟩⟩⟩⟩⟩⟩⟩⟩⟩) (allB_cons (allB_cons (allB_cons (allB_cons (allB_cons (allB_cons (allB_cons (allB_cons (allB_cons (allB_cons (allB_cons (allB_cons (allB_cons (allB_cons (allB_cons (allB_cons (allB_cons (allB_cons (allB_cons (allB_cons (allB_cons (allB_cons allB_nil ?_) ?_) ?_) ?_) ?_) ?_) ?_) ?_) ?_) ?_) ?_) ?_) ?_) ?_) ?_) ?_) ?_) ?_) ?_) ?_) ?_) ?_) ?_
    · intro ρ' τ pool rs hl hd hout hk
      refine o_load (j := 5) (v := .int .i64 s35) rfl rfl rfl z_sc3 ((hout 8 rfl).trans rfl) rfl rfl ?_
      exact st_addNil (hk _ _ (Sto.Le.refl _) rfl)
    · intro ρ' τ pool rs hl hd hout hk
      refine o_load (j := 3) (v := v21) rfl rfl rfl z_sc72 ((hout 6 rfl).trans rfl) rfl rfl ?_
      exact st_addNil (hk _ _ (Sto.Le.refl _) rfl)
    · intro ρ' τ pool rs hl hd hout hk
      obtain ⟨_, e1, rfl⟩ := hd 1 rfl
      refine o_lenI rfl rfl rfl z_slT72 e1 (hs22.up ((hl31.trans hl35).trans hl)) ?_
      exact st_addNil (hk _ _ (Sto.Le.refl _) rfl)
    · intro ρ' τ pool rs hl hd hout hk
      obtain ⟨_, e0, rfl⟩ := hd 0 rfl
      obtain ⟨_, e2, rfl⟩ := hd 2 rfl
      refine o_ibin (v := .bool (decide ((r17.1.length : Int) ≤ s35))) rfl rfl rfl e0 e2 rfl ?_
      exact st_addNil (hk _ _ (Sto.Le.refl _) rfl)
    · intro ρ' τ pool rs hl hd hout hk
      obtain ⟨_, e3, rfl⟩ := hd 3 rfl
      refine o_move rfl rfl rfl e3 ?_
      exact st_addNil (hk _ _ (Sto.Le.refl _) rfl)
    · intro ρ' τ pool rs hl hd hout hk
      obtain ⟨_, e4, rfl⟩ := hd 4 rfl
      by_cases hG : (decide ((r17.1.length : Int) ≤ s35)) = false
      · have hC := hG
        refine o_move rfl (wants_of rfl e4 hG) rfl ((hout 11 rfl).trans rfl) ?_
        exact st_addNil (hk _ _ (Sto.Le.refl _) ⟨fun _ => rfl, fun hn => absurd hC hn⟩)
      · refine st_pass rfl rfl rfl e4 (beq_off hG) rfl ?_
        exact st_addNil (hk _ _ (Sto.Le.refl _) ⟨fun h => absurd h hG, fun _ => rfl⟩)
    · intro ρ' τ pool rs hl hd hout hk
      obtain ⟨_, e4, rfl⟩ := hd 4 rfl
      by_cases hG : (decide ((r17.1.length : Int) ≤ s35)) = false
      · have hC := hG
        refine o_load (j := 4) (v := v23) rfl (wants_of rfl e4 hG) rfl z_sc73 ((hout 7 rfl).trans rfl) rfl rfl ?_
        exact st_addNil (hk _ _ (Sto.Le.refl _) ⟨fun _ => rfl, fun hn => absurd hC hn⟩)
      · refine st_pass rfl rfl rfl e4 (beq_off hG) rfl ?_
        exact st_addNil (hk _ _ (Sto.Le.refl _) ⟨fun h => absurd h hG, fun _ => rfl⟩)
    · intro ρ' τ pool rs hl hd hout hk
      obtain ⟨_, e4, rfl⟩ := hd 4 rfl
      by_cases hG : (decide ((r17.1.length : Int) ≤ s35)) = false
      · have hC := hG
        refine o_load (j := 5) (v := .int .i64 s35) rfl (wants_of rfl e4 hG) rfl z_sc3 ((hout 8 rfl).trans rfl) rfl rfl ?_
        exact st_addNil (hk _ _ (Sto.Le.refl _) ⟨fun _ => rfl, fun hn => absurd hC hn⟩)
      · refine st_pass rfl rfl rfl e4 (beq_off hG) rfl ?_
        exact st_addNil (hk _ _ (Sto.Le.refl _) ⟨fun h => absurd h hG, fun _ => rfl⟩)
    · intro ρ' τ pool rs hl hd hout hk
      obtain ⟨_, e4, rfl⟩ := hd 4 rfl
      obtain ⟨w6, e6, t6⟩ := hd 6 rfl
      obtain ⟨w7, e7, t7⟩ := hd 7 rfl
      by_cases hG : (decide ((r17.1.length : Int) ≤ s35)) = false
      · have hC := hG
        replace hf40 := hf40 hC
        obtain ⟨rfl⟩ := t6.1 hC
        obtain ⟨rfl⟩ := t7.1 hC
        refine o_index rfl (wants_of rfl e4 hG) rfl z_slT73 rfl e6 (hs24.up ((hl31.trans hl35).trans hl)) e7 hf40 (fun b41 of42 vsb41 hc43 hrepb41 => ?_)
        exact st_addNil (hk _ _ (Sto.Le.refl _) ⟨fun _ => ⟨b41, of42, vsb41, rfl, hc43, hrepb41⟩, fun hn => absurd hC hn⟩)
      · refine st_pass rfl rfl rfl e4 (beq_off hG) rfl ?_
        exact st_addNil (hk _ _ (Sto.Le.refl _) ⟨fun h => absurd h hG, fun _ => rfl⟩)
    · intro ρ' τ pool rs hl hd hout hk
      obtain ⟨_, e4, rfl⟩ := hd 4 rfl
      obtain ⟨w8, e8, t8⟩ := hd 8 rfl
      by_cases hG : (decide ((r17.1.length : Int) ≤ s35)) = false
      · have hC := hG
        obtain ⟨b41, of42, vsb41, rfl, hc43, hrepb41⟩ := t8.1 hC
        have hrepb41 := hrepb41
        obtain rfl := hrepb41
        refine o_loadI (v := .int .i64 q39) rfl (wants_of rfl e4 hG) rfl z_sc3 e8 (hc43 0 _ rfl) ?_
        exact st_addNil (hk _ _ (Sto.Le.refl _) ⟨fun _ => rfl, fun hn => absurd hC hn⟩)
      · refine st_pass rfl rfl rfl e4 (beq_off hG) rfl ?_
        exact st_addNil (hk _ _ (Sto.Le.refl _) ⟨fun h => absurd h hG, fun _ => rfl⟩)
    · intro ρ' τ pool rs hl hd hout hk
      obtain ⟨_, e4, rfl⟩ := hd 4 rfl
      obtain ⟨w5, e5, t5⟩ := hd 5 rfl
      obtain ⟨w9, e9, t9⟩ := hd 9 rfl
      by_cases hG : (decide ((r17.1.length : Int) ≤ s35)) = false
      · have hC := hG
        obtain ⟨rfl⟩ := t9.1 hC
        obtain ⟨rfl⟩ := t5.1 hC
        refine o_ibin (v := .bool (!(decide (x35.2 = q39)))) rfl (wants_of rfl e4 hG) rfl e5 e9 rfl ?_
        exact st_addNil (hk _ _ (Sto.Le.refl _) ⟨fun _ => rfl, fun hn => absurd hC hn⟩)
      · refine st_pass rfl rfl rfl e4 (beq_off hG) rfl ?_
        exact st_addNil (hk _ _ (Sto.Le.refl _) ⟨fun h => absurd h hG, fun _ => rfl⟩)
    · intro ρ' τ pool rs hl hd hout hk
      obtain ⟨_, e4, rfl⟩ := hd 4 rfl
      obtain ⟨w10, e10, t10⟩ := hd 10 rfl
      refine o_pickOr rfl rfl rfl e4 rfl (fun hp => e10.trans (congrArg some (Eq.symm (t10.1 hp)))) ?_
      exact st_addNil (hk _ _ (Sto.Le.refl _) rfl)
    · intro ρ' τ pool rs hl hd hout hk
      obtain ⟨_, e11, rfl⟩ := hd 11 rfl
      refine o_move rfl rfl rfl e11 ?_
      exact st_addNil (hk _ _ (Sto.Le.refl _) rfl)
    · intro ρ' τ pool rs hl hd hout hk
      obtain ⟨_, e12, rfl⟩ := hd 12 rfl
      by_cases hG : ((decide ((r17.1.length : Int) ≤ s35)) || (!(decide (x35.2 = q39)))) = false
      · have hC := hG
        refine o_loadN (j := 0) (vs := [.int .i64 x35.1.1.1, .int .i64 x35.1.1.2.1, .int .u32 x35.1.1.2.2.1, .int .i64 x35.1.1.2.2.2.1, .int .i64 x35.1.1.2.2.2.2, v36]) rfl (wants_of rfl e12 hG) rfl z_agg47 ((hout 10 rfl).trans rfl) rfl rfl ?_
        exact st_addNil (hk _ _ (Sto.Le.refl _) ⟨fun _ => rfl, fun hn => absurd hC hn⟩)
      · refine st_pass rfl rfl rfl e12 (beq_off hG) rfl ?_
        exact st_addNil (hk _ _ (Sto.Le.refl _) ⟨fun h => absurd h hG, fun _ => rfl⟩)
    · intro ρ' τ pool rs hl hd hout hk
      obtain ⟨_, e12, rfl⟩ := hd 12 rfl
      obtain ⟨w13, e13, t13⟩ := hd 13 rfl
      by_cases hG : ((decide ((r17.1.length : Int) ≤ s35)) || (!(decide (x35.2 = q39)))) = false
      · have hC := hG
        replace hr45 := hr45 hC
        obtain ⟨rfl⟩ := t13.1 hC
        refine st_call (foot := []) rfl (wants_of rfl e12 hG) rfl rfl (evs_cons e13 rfl) rfl (callV_fn z_en33 (law08_Of_ok hr45 τ (hs37.up hl))) ?_
        rintro vτ46 τ46 gsτ46 hl47 ⟨v48, rfl, rfl, hs49⟩
        exact st_addNil (hk _ _ hl47 ⟨fun _ => ⟨v48, rfl, hs49⟩, fun hn => absurd hC hn⟩)
      · refine st_pass rfl rfl rfl e12 (beq_off hG) rfl ?_
        exact st_addNil (hk _ _ (Sto.Le.refl _) ⟨fun h => absurd h hG, fun _ => rfl⟩)
    · intro ρ' τ pool rs hl hd hout hk
      obtain ⟨_, e12, rfl⟩ := hd 12 rfl
      by_cases hG : ((decide ((r17.1.length : Int) ≤ s35)) || (!(decide (x35.2 = q39)))) = false
      · have hC := hG
        refine o_load (j := 3) (v := v21) rfl (wants_of rfl e12 hG) rfl z_sc72 ((hout 6 rfl).trans rfl) rfl rfl ?_
        exact st_addNil (hk _ _ (Sto.Le.refl _) ⟨fun _ => rfl, fun hn => absurd hC hn⟩)
      · refine st_pass rfl rfl rfl e12 (beq_off hG) rfl ?_
        exact st_addNil (hk _ _ (Sto.Le.refl _) ⟨fun h => absurd h hG, fun _ => rfl⟩)
    · intro ρ' τ pool rs hl hd hout hk
      obtain ⟨_, e12, rfl⟩ := hd 12 rfl
      by_cases hG : ((decide ((r17.1.length : Int) ≤ s35)) || (!(decide (x35.2 = q39)))) = false
      · have hC := hG
        refine o_load (j := 5) (v := .int .i64 s35) rfl (wants_of rfl e12 hG) rfl z_sc3 ((hout 8 rfl).trans rfl) rfl rfl ?_
        exact st_addNil (hk _ _ (Sto.Le.refl _) ⟨fun _ => rfl, fun hn => absurd hC hn⟩)
      · refine st_pass rfl rfl rfl e12 (beq_off hG) rfl ?_
        exact st_addNil (hk _ _ (Sto.Le.refl _) ⟨fun h => absurd h hG, fun _ => rfl⟩)
    · intro ρ' τ pool rs hl hd hout hk
      obtain ⟨_, e12, rfl⟩ := hd 12 rfl
      obtain ⟨w15, e15, t15⟩ := hd 15 rfl
      obtain ⟨w16, e16, t16⟩ := hd 16 rfl
      by_cases hG : ((decide ((r17.1.length : Int) ≤ s35)) || (!(decide (x35.2 = q39)))) = false
      · have hC := hG
        replace hf51 := hf51 hC
        obtain ⟨rfl⟩ := t15.1 hC
        obtain ⟨rfl⟩ := t16.1 hC
        refine o_index rfl (wants_of rfl e12 hG) rfl z_slT72 rfl e15 (hs22.up ((hl31.trans hl35).trans hl)) e16 hf51 (fun b52 of53 vsb52 hc55 hrepb52 => ?_)
        exact st_addNil (hk _ _ (Sto.Le.refl _) ⟨fun _ => ⟨b52, of53, vsb52, rfl, hc55, hrepb52⟩, fun hn => absurd hC hn⟩)
      · refine st_pass rfl rfl rfl e12 (beq_off hG) rfl ?_
        exact st_addNil (hk _ _ (Sto.Le.refl _) ⟨fun h => absurd h hG, fun _ => rfl⟩)
    · intro ρ' τ pool rs hl hd hout hk
      obtain ⟨_, e12, rfl⟩ := hd 12 rfl
      obtain ⟨w17, e17, t17⟩ := hd 17 rfl
      by_cases hG : ((decide ((r17.1.length : Int) ≤ s35)) || (!(decide (x35.2 = q39)))) = false
      · have hC := hG
        obtain ⟨b52, of53, vsb52, rfl, hc55, hrepb52⟩ := t17.1 hC
        have hrepb52 := hrepb52
        obtain ⟨_, _, rfl, ⟨_, _, rfl, rfl, ⟨_, _, rfl, rfl, ⟨_, _, rfl, rfl, ⟨_, _, rfl, rfl, rfl⟩⟩⟩⟩, ⟨v54, rfl, hs57⟩⟩ := hrepb52
        refine o_loadIN (vs := [.int .i64 q50.1.1, .int .i64 q50.1.2.1, .int .u32 q50.1.2.2.1, .int .i64 q50.1.2.2.2.1, .int .i64 q50.1.2.2.2.2, v54]) rfl (wants_of rfl e12 hG) rfl z_agg66 e17 rfl (celn_part 0 rfl hc55) ?_
        exact st_addNil (hk _ _ (Sto.Le.refl _) ⟨fun _ => ⟨v54, rfl, hs57⟩, fun hn => absurd hC hn⟩)
      · refine st_pass rfl rfl rfl e12 (beq_off hG) rfl ?_
        exact st_addNil (hk _ _ (Sto.Le.refl _) ⟨fun h => absurd h hG, fun _ => rfl⟩)
    · intro ρ' τ pool rs hl hd hout hk
      obtain ⟨_, e12, rfl⟩ := hd 12 rfl
      obtain ⟨w14, e14, t14⟩ := hd 14 rfl
      obtain ⟨w18, e18, t18⟩ := hd 18 rfl
      by_cases hG : ((decide ((r17.1.length : Int) ≤ s35)) || (!(decide (x35.2 = q39)))) = false
      · have hC := hG
        replace hr59 := hr59 hC
        obtain ⟨v48, rfl, hs49⟩ := t14.1 hC
        obtain ⟨v54, rfl, hs57⟩ := t18.1 hC
        refine st_call (foot := []) rfl (wants_of rfl e12 hG) rfl rfl (evs_cons e14 (evs_cons e18 rfl)) rfl (callV_fn z_en32 (ref08_Same_ok hr59 τ hs49 hs57)) ?_
        rintro vτ60 τ60 gsτ60 hl61 ⟨rfl, rfl⟩
        exact st_addNil (hk _ _ hl61 ⟨fun _ => rfl, fun hn => absurd hC hn⟩)
      · refine st_pass rfl rfl rfl e12 (beq_off hG) rfl ?_
        exact st_addNil (hk _ _ (Sto.Le.refl _) ⟨fun h => absurd h hG, fun _ => rfl⟩)
    · intro ρ' τ pool rs hl hd hout hk
      obtain ⟨_, e12, rfl⟩ := hd 12 rfl
      obtain ⟨w19, e19, t19⟩ := hd 19 rfl
      by_cases hG : ((decide ((r17.1.length : Int) ≤ s35)) || (!(decide (x35.2 = q39)))) = false
      · have hC := hG
        obtain ⟨rfl⟩ := t19.1 hC
        refine o_not rfl (wants_of rfl e12 hG) rfl e19 ?_
        exact st_addNil (hk _ _ (Sto.Le.refl _) ⟨fun _ => rfl, fun hn => absurd hC hn⟩)
      · refine st_pass rfl rfl rfl e12 (beq_off hG) rfl ?_
        exact st_addNil (hk _ _ (Sto.Le.refl _) ⟨fun h => absurd h hG, fun _ => rfl⟩)
    · intro ρ' τ pool rs hl hd hout hk
      obtain ⟨_, e12, rfl⟩ := hd 12 rfl
      obtain ⟨w20, e20, t20⟩ := hd 20 rfl
      refine o_pickOr rfl rfl rfl e12 rfl (fun hp => e20.trans (congrArg some (Eq.symm (t20.1 hp)))) ?_
      exact st_addNil (hk _ _ (Sto.Le.refl _) rfl)
    intro ρ' τ62 vals hl62 hv hout
    have l21 : Eng.look ρ' 55 = some (.bool (((decide ((r17.1.length : Int) ≤ s35)) || (!(decide (x35.2 = q39)))) || (!r58))) := (hv 21 (by decide)).1.trans (congrArg some (show vals 21 = .bool (((decide ((r17.1.length : Int) ≤ s35)) || (!(decide (x35.2 = q39)))) || (!r58)) from Eq.symm (hv 21 (by decide)).2))
    refine st_ord [0, 0, 0, 0, 0, 0] [[(b38, .cells [.int .i64 x35.1.1.1, .int .i64 x35.1.1.2.1, .int .u32 x35.1.1.2.2.1, .int .i64 x35.1.1.2.2.2.1, .int .i64 x35.1.1.2.2.2.2, v36].toArray 47 (0, 0))], [(b3, .cells [.int .i64 a1].toArray 3 (0, 0))], [(b4, .cells [.bool false].toArray 4 (0, 0))], [(b25, .cells [v21].toArray 72 (0, 0))], [(b26, .cells [v23].toArray 73 (0, 0))], [(b27, .cells [.int .i64 s35].toArray 3 (0, 0))]] rfl ?_
    refine st_env (ρ' := [(55, .bool (((decide ((r17.1.length : Int) ≤ s35)) || (!(decide (x35.2 = q39)))) || (!r58))), (0, v7), (3, .pointer (some ⟨b3, 0, none⟩)), (4, .pointer (some ⟨b4, 0, none⟩)), (5, .pointer (some ⟨bi13, 0, none⟩)), (6, .pointer (some ⟨b25, 0, none⟩)), (7, .pointer (some ⟨b26, 0, none⟩)), (8, .pointer (some ⟨b27, 0, none⟩)), (32, .agg [.int .i64 x35.1.1.1, .int .i64 x35.1.1.2.1, .int .u32 x35.1.1.2.2.1, .int .i64 x35.1.1.2.2.2.1, .int .i64 x35.1.1.2.2.2.2, v36].toArray), (33, .int .i64 x35.2), (10, .pointer (some ⟨b38, 0, none⟩)), (11, .int .i64 x35.2)]) ⟨l21, (hout 0 rfl).trans rfl, (hout 3 rfl).trans rfl, (hout 4 rfl).trans rfl, (hout 5 rfl).trans rfl, (hout 6 rfl).trans rfl, (hout 7 rfl).trans rfl, (hout 8 rfl).trans rfl, (hout 32 rfl).trans rfl, (hout 33 rfl).trans rfl, (hout 10 rfl).trans rfl, (hout 11 rfl).trans rfl, trivial⟩ ?_
    refine st_end ?_
    refine st_cond rfl (fun hc => ?_) (fun hc => ?_)
    · replace h := (if_pos hc).mp h
      refine st_seq ?_
      refine st_region ?_
      refine o_store (j := 2) (vs := [.bool false]) (cs' := [.bool false]) rfl rfl rfl z_size4 rfl rfl rfl (ones_cons rfl ones_nil) rfl rfl rfl ?_
      refine st_gs [[(b38, .cells [.int .i64 x35.1.1.1, .int .i64 x35.1.1.2.1, .int .u32 x35.1.1.2.2.1, .int .i64 x35.1.1.2.2.2.1, .int .i64 x35.1.1.2.2.2.2, v36].toArray 47 (0, 0))], [(b3, .cells [.int .i64 a1].toArray 3 (0, 0))], [(b4, .cells [.bool false].toArray 4 (0, 0))], [(b25, .cells [v21].toArray 72 (0, 0))], [(b26, .cells [v23].toArray 73 (0, 0))], [(b27, .cells [.int .i64 s35].toArray 3 (0, 0))]] rfl ?_
      refine st_end ?_
      refine st_ord [1, 1, 1, 1, 1] [[(b3, .cells [.int .i64 a1].toArray 3 (0, 0))], [(b4, .cells [.bool false].toArray 4 (0, 0))], [(b25, .cells [v21].toArray 72 (0, 0))], [(b26, .cells [v23].toArray 73 (0, 0))], [(b27, .cells [.int .i64 s35].toArray 3 (0, 0))]] rfl ?_
      exact st_rret (List.Sublist.refl _) hl62 ⟨_, h, rfl, (hl35.trans hl62), rfl⟩
    · replace h := (if_neg (ne_t hc)).mp h
      refine st_skip ?_
      refine st_region ?_
      refine o_load (j := 5) (v := .int .i64 s35) rfl rfl rfl z_sc3 rfl rfl rfl ?_
      refine o_ibin (v := .int .i64 (IntKind.i64.wrap (s35 + 1))) rfl rfl rfl rfl rfl rfl ?_
      refine o_store (j := 5) (vs := [.int .i64 (IntKind.i64.wrap (s35 + 1))]) (cs' := [.int .i64 (IntKind.i64.wrap (s35 + 1))]) rfl rfl rfl z_size3 rfl rfl rfl (ones_cons rfl ones_nil) rfl rfl rfl ?_
      refine st_gs [[(b38, .cells [.int .i64 x35.1.1.1, .int .i64 x35.1.1.2.1, .int .u32 x35.1.1.2.2.1, .int .i64 x35.1.1.2.2.2.1, .int .i64 x35.1.1.2.2.2.2, v36].toArray 47 (0, 0))], [(b3, .cells [.int .i64 a1].toArray 3 (0, 0))], [(b4, .cells [.bool false].toArray 4 (0, 0))], [(b25, .cells [v21].toArray 72 (0, 0))], [(b26, .cells [v23].toArray 73 (0, 0))], [(b27, .cells [.int .i64 (IntKind.i64.wrap (s35 + 1))].toArray 3 (0, 0))]] rfl ?_
      refine st_end ?_
      refine st_inBlock ?_
      refine st_ord [1, 1, 1, 1, 1] [[(b3, .cells [.int .i64 a1].toArray 3 (0, 0))], [(b4, .cells [.bool false].toArray 4 (0, 0))], [(b25, .cells [v21].toArray 72 (0, 0))], [(b26, .cells [v23].toArray 73 (0, 0))], [(b27, .cells [.int .i64 (IntKind.i64.wrap (s35 + 1))].toArray 3 (0, 0))]] rfl ?_
      exact st_rend (List.Sublist.refl _) hl62 ⟨_, h, (hl35.trans hl62), rfl⟩
  · rintro p66 τ67 gs35 f35 ht hl68 ⟨hb, rfl⟩ rfl
    subst ht
    replace h := hA35
    refine st_ord [1, 1, 1, 1, 1] [[(b3, .cells [.int .i64 a1].toArray 3 (0, 0))], [(b4, .cells [.bool false].toArray 4 (0, 0))], [(b25, .cells [v21].toArray 72 (0, 0))], [(b26, .cells [v23].toArray 73 (0, 0))], [(b27, .cells [.int .i64 p66].toArray 3 (0, 0))]] rfl ?_
    refine st_inBlock ?_
    refine st_seq ?_
    refine st_region ?_
    refine o_alloc rfl rfl rfl z_zero3 (fun b69 => ?_)
    refine o_store (j := 0) (vs := [.int .i64 0]) (cs' := [.int .i64 0]) rfl rfl rfl z_size3 rfl rfl rfl (ones_cons rfl ones_nil) rfl rfl rfl ?_
    refine st_gs [[(b69, .cells [.int .i64 0].toArray 3 (0, 0))], [(b3, .cells [.int .i64 a1].toArray 3 (0, 0))], [(b4, .cells [.bool false].toArray 4 (0, 0))], [(b25, .cells [v21].toArray 72 (0, 0))], [(b26, .cells [v23].toArray 73 (0, 0))], [(b27, .cells [.int .i64 p66].toArray 3 (0, 0))]] rfl ?_
    refine st_end ?_
    refine st_seq ?_
    refine st_region ?_
    refine o_move rfl rfl rfl rfl ?_
    refine o_move rfl rfl rfl rfl ?_
    obtain ⟨r70, hr71, h⟩ := h
    refine st_call (foot := []) rfl rfl rfl rfl rfl rfl (callV_fn z_en36 (frame_Codec_Frames_ok hr71 τ67 (hc16.up ((hl20.trans hl31).trans hl68)) (hc14.up ((hl20.trans hl31).trans hl68)) (hs8.up (((hl12.trans hl20).trans hl31).trans hl68)))) ?_
    rintro vτ72 τ72 gsτ72 hl73 ⟨f74, q75, rfl, rfl, hit76⟩
    refine o_assign rfl rfl rfl rfl ?_
    refine st_end ?_
    refine st_seq ?_
    refine st_seq ?_
    refine st_region ?_
    refine o_move rfl rfl rfl rfl ?_
    refine o_fnNil (b := false) rfl rfl rfl Try.underlying77 rfl rfl rfl ?_
    refine st_end ?_
    refine st_condF rfl ?_
    refine st_skip ?_
    refine st_seq ?_
    refine st_cut (fun ρ τ77 gs => ∃ (s77 : Int), law08_FrameStream_j2 a1 r17 p66 s77 r ∧ τ72.Le τ77 ∧ ρ = [(3, .pointer (some ⟨b3, 0, none⟩)), (4, .pointer (some ⟨b4, 0, none⟩)), (6, .pointer (some ⟨b25, 0, none⟩)), (8, .pointer (some ⟨b27, 0, none⟩)), (12, .pointer (some ⟨b69, 0, none⟩))] ∧ gs = [[(b3, .cells [.int .i64 a1].toArray 3 (0, 0))], [(b4, .cells [.bool false].toArray 4 (0, 0))], [(b25, .cells [v21].toArray 72 (0, 0))], [(b27, .cells [.int .i64 p66].toArray 3 (0, 0))], [(b69, .cells [.int .i64 s77].toArray 3 (0, 0))]]) ?_ (fun hk77 => ?_)
    · rintro ρ77 τ77 gs77 ⟨s77, h, hl77, rfl, rfl⟩
      refine st_seq ?_
      refine st_region ?_
      refine o_load (j := 2) (v := v21) rfl rfl rfl z_sc72 rfl rfl rfl ?_
      refine o_lenI rfl rfl rfl z_slT72 rfl (hs22.up (((hl31.trans hl68).trans hl73).trans hl77)) ?_
      refine o_assign rfl rfl rfl rfl ?_
      refine st_end ?_
      refine st_seq ?_
      refine st_cut (fun ρ τ78 gs => ∃ (s78 : Int), law08_FrameStream_j3 r17 p66 s77 s78 r ∧ τ77.Le τ78 ∧ ρ = [(4, .pointer (some ⟨b4, 0, none⟩)), (6, .pointer (some ⟨b25, 0, none⟩)), (8, .pointer (some ⟨b27, 0, none⟩)), (12, .pointer (some ⟨b69, 0, none⟩)), (14, .int .i64 s78)] ∧ gs = [[(b4, .cells [.bool false].toArray 4 (0, 0))], [(b25, .cells [v21].toArray 72 (0, 0))], [(b27, .cells [.int .i64 p66].toArray 3 (0, 0))], [(b69, .cells [.int .i64 s77].toArray 3 (0, 0))]]) ?_ (fun hk78 => ?_)
      · rintro ρ78 τ78 gs78 ⟨s78, h, hl78, rfl, rfl⟩
        refine st_seq ?_
        refine st_cut (fun ρ τ79 gs => ∃ (s79 : Bool), law08_FrameStream_j4 s79 r ∧ τ78.Le τ79 ∧ ρ = [(4, .pointer (some ⟨b4, 0, none⟩))] ∧ gs = [[(b4, .cells [.bool s79].toArray 4 (0, 0))]]) ?_ (fun hk79 => ?_)
        · rintro ρ79 τ79 gs79 ⟨s79, h, hl79, rfl, rfl⟩
          obtain rfl := Eq.symm h
          exact st_retC (gs' := []) [.bool s79] Try.func8 ⟨⟨_, _, _, _, rfl, mem_flat 0 rfl, fun w hw => cellOf z_sc4 rfl w hw⟩, trivial⟩ (by simp) (((((((hl12.trans hl20).trans hl31).trans hl68).trans hl73).trans hl77).trans hl78).trans hl79) ⟨rfl, rfl⟩
        refine st_region ?_
        obtain ⟨r80, hr81, h⟩ := h
        refine st_call (foot := []) rfl rfl rfl rfl rfl rfl (callV_fn z_en25 (law08_known_ok hr81 τ78)) ?_
        rintro vτ82 τ82 gsτ82 hl83 ⟨rfl, rfl⟩
        refine o_moveB rfl rfl rfl rfl (fun hc => ?_) (fun hc => ?_)
        · replace h := (if_pos hc).mp h
          refine o_load (j := 2) (v := .int .i64 p66) rfl rfl rfl z_sc3 rfl rfl rfl ?_
          refine o_load (j := 1) (v := v21) rfl rfl rfl z_sc72 rfl rfl rfl ?_
          refine o_lenI rfl rfl rfl z_slT72 rfl (hs22.up (((((hl31.trans hl68).trans hl73).trans hl77).trans hl78).trans hl83)) ?_
          refine o_ibin (v := .bool (decide (p66 = (r17.1.length : Int)))) rfl rfl rfl rfl rfl rfl ?_
          refine o_pick rfl rfl rfl rfl rfl ?_
          refine o_moveB rfl rfl rfl rfl (fun hc => ?_) (fun hc => ?_)
          · replace h := (if_pos hc).mp h
            refine o_load (j := 3) (v := .int .i64 s77) rfl rfl rfl z_sc3 rfl rfl rfl ?_
            refine o_move rfl rfl rfl rfl ?_
            refine o_ibin (v := .bool (decide (s77 = s78))) rfl rfl rfl rfl rfl rfl ?_
            refine o_pick rfl rfl rfl rfl rfl ?_
            refine o_store (j := 0) (vs := [.bool (decide (s77 = s78))]) (cs' := [.bool (decide (s77 = s78))]) rfl rfl rfl z_size4 rfl rfl rfl (ones_cons rfl ones_nil) rfl rfl rfl ?_
            refine st_gs [[(b4, .cells [.bool (decide (s77 = s78))].toArray 4 (0, 0))], [(b25, .cells [v21].toArray 72 (0, 0))], [(b27, .cells [.int .i64 p66].toArray 3 (0, 0))], [(b69, .cells [.int .i64 s77].toArray 3 (0, 0))]] rfl ?_
            refine st_end ?_
            refine st_env (ρ' := [(4, .pointer (some ⟨b4, 0, none⟩))]) ⟨rfl, trivial⟩ ?_
            refine st_ord [0] [[(b4, .cells [.bool (decide (s77 = s78))].toArray 4 (0, 0))]] rfl ?_
            exact hk79 _ _ _ ⟨(decide (s77 = s78)), h, hl83, rfl, rfl⟩
          · replace h := (if_neg (ne_t hc)).mp h
            refine st_pass rfl rfl rfl rfl rfl rfl ?_
            refine st_pass rfl rfl rfl rfl rfl rfl ?_
            refine st_pass rfl rfl rfl rfl rfl rfl ?_
            refine o_pick rfl rfl rfl rfl rfl ?_
            refine o_store (j := 0) (vs := [.bool false]) (cs' := [.bool false]) rfl rfl rfl z_size4 rfl rfl rfl (ones_cons rfl ones_nil) rfl rfl rfl ?_
            refine st_gs [[(b4, .cells [.bool false].toArray 4 (0, 0))], [(b25, .cells [v21].toArray 72 (0, 0))], [(b27, .cells [.int .i64 p66].toArray 3 (0, 0))], [(b69, .cells [.int .i64 s77].toArray 3 (0, 0))]] rfl ?_
            refine st_end ?_
            refine st_env (ρ' := [(4, .pointer (some ⟨b4, 0, none⟩))]) ⟨rfl, trivial⟩ ?_
            refine st_ord [0] [[(b4, .cells [.bool false].toArray 4 (0, 0))]] rfl ?_
            exact hk79 _ _ _ ⟨false, h, hl83, rfl, rfl⟩
        · replace h := (if_neg (ne_t hc)).mp h
          refine st_pass rfl rfl rfl rfl rfl rfl ?_
          refine st_pass rfl rfl rfl rfl rfl rfl ?_
          refine st_pass rfl rfl rfl rfl rfl rfl ?_
          refine st_pass rfl rfl rfl rfl rfl rfl ?_
          refine o_pick rfl rfl rfl rfl rfl ?_
          refine o_move rfl rfl rfl rfl ?_
          refine st_pass rfl rfl rfl rfl rfl rfl ?_
          refine st_pass rfl rfl rfl rfl rfl rfl ?_
          refine st_pass rfl rfl rfl rfl rfl rfl ?_
          refine o_pick rfl rfl rfl rfl rfl ?_
          refine o_store (j := 0) (vs := [.bool false]) (cs' := [.bool false]) rfl rfl rfl z_size4 rfl rfl rfl (ones_cons rfl ones_nil) rfl rfl rfl ?_
          refine st_gs [[(b4, .cells [.bool false].toArray 4 (0, 0))], [(b25, .cells [v21].toArray 72 (0, 0))], [(b27, .cells [.int .i64 p66].toArray 3 (0, 0))], [(b69, .cells [.int .i64 s77].toArray 3 (0, 0))]] rfl ?_
          refine st_end ?_
          refine st_env (ρ' := [(4, .pointer (some ⟨b4, 0, none⟩))]) ⟨rfl, trivial⟩ ?_
          refine st_ord [0] [[(b4, .cells [.bool false].toArray 4 (0, 0))]] rfl ?_
          exact hk79 _ _ _ ⟨false, h, hl83, rfl, rfl⟩
      refine st_seq ?_
      refine st_cut (fun ρ τ84 gs => ∃ (s84 : Bool), law08_FrameStream_j5 a1 r17 p66 s77 s84 r ∧ τ77.Le τ84 ∧ ρ = [(3, .pointer (some ⟨b3, 0, none⟩)), (4, .pointer (some ⟨b4, 0, none⟩)), (6, .pointer (some ⟨b25, 0, none⟩)), (8, .pointer (some ⟨b27, 0, none⟩)), (12, .pointer (some ⟨b69, 0, none⟩)), (14, .int .i64 (r17.1.length : Int)), (80, .bool s84)] ∧ gs = [[(b3, .cells [.int .i64 a1].toArray 3 (0, 0))], [(b4, .cells [.bool false].toArray 4 (0, 0))], [(b25, .cells [v21].toArray 72 (0, 0))], [(b27, .cells [.int .i64 p66].toArray 3 (0, 0))], [(b69, .cells [.int .i64 s77].toArray 3 (0, 0))]]) ?_ (fun hk84 => ?_)
      · rintro ρ84 τ84 gs84 ⟨s84, h, hl84, rfl, rfl⟩
        refine st_cond rfl (fun hc => ?_) (fun hc => ?_)
        · replace h := (if_pos hc).mp h
          refine st_region ?_
          refine o_load (j := 0) (v := .int .i64 a1) rfl rfl rfl z_sc3 rfl rfl rfl ?_
          refine o_ibin (v := .int .i64 (IntKind.i64.wrap (a1 + 1))) rfl rfl rfl rfl rfl rfl ?_
          refine o_assign rfl rfl rfl rfl ?_
          refine st_end ?_
          refine st_env (ρ' := [(4, .pointer (some ⟨b4, 0, none⟩)), (6, .pointer (some ⟨b25, 0, none⟩)), (8, .pointer (some ⟨b27, 0, none⟩)), (12, .pointer (some ⟨b69, 0, none⟩)), (14, .int .i64 (IntKind.i64.wrap (a1 + 1)))]) ⟨rfl, rfl, rfl, rfl, rfl, trivial⟩ ?_
          refine st_ord [1, 1, 1, 1] [[(b4, .cells [.bool false].toArray 4 (0, 0))], [(b25, .cells [v21].toArray 72 (0, 0))], [(b27, .cells [.int .i64 p66].toArray 3 (0, 0))], [(b69, .cells [.int .i64 s77].toArray 3 (0, 0))]] rfl ?_
          exact hk78 _ _ _ ⟨(IntKind.i64.wrap (a1 + 1)), h, hl84, rfl, rfl⟩
        · replace h := (if_neg (ne_t hc)).mp h
          refine st_skip ?_
          refine st_env (ρ' := [(4, .pointer (some ⟨b4, 0, none⟩)), (6, .pointer (some ⟨b25, 0, none⟩)), (8, .pointer (some ⟨b27, 0, none⟩)), (12, .pointer (some ⟨b69, 0, none⟩)), (14, .int .i64 (r17.1.length : Int))]) ⟨rfl, rfl, rfl, rfl, rfl, trivial⟩ ?_
          refine st_ord [1, 1, 1, 1] [[(b4, .cells [.bool false].toArray 4 (0, 0))], [(b25, .cells [v21].toArray 72 (0, 0))], [(b27, .cells [.int .i64 p66].toArray 3 (0, 0))], [(b69, .cells [.int .i64 s77].toArray 3 (0, 0))]] rfl ?_
          exact hk78 _ _ _ ⟨(r17.1.length : Int), h, hl84, rfl, rfl⟩
      refine st_region ?_
      refine o_load (j := 0) (v := .int .i64 a1) rfl rfl rfl z_sc3 rfl rfl rfl ?_
      refine o_ibin (v := .bool (decide (0 ≤ a1))) rfl rfl rfl rfl rfl rfl ?_
      refine o_moveB rfl rfl rfl rfl (fun hc => ?_) (fun hc => ?_)
      · replace h := (if_pos hc).mp h
        refine o_load (j := 0) (v := .int .i64 a1) rfl rfl rfl z_sc3 rfl rfl rfl ?_
        refine o_move rfl rfl rfl rfl ?_
        refine o_ibin (v := .bool (decide (a1 < (r17.1.length : Int)))) rfl rfl rfl rfl rfl rfl ?_
        refine o_pick rfl rfl rfl rfl rfl ?_
        refine st_end ?_
        refine st_env (ρ' := [(3, .pointer (some ⟨b3, 0, none⟩)), (4, .pointer (some ⟨b4, 0, none⟩)), (6, .pointer (some ⟨b25, 0, none⟩)), (8, .pointer (some ⟨b27, 0, none⟩)), (12, .pointer (some ⟨b69, 0, none⟩)), (14, .int .i64 (r17.1.length : Int)), (80, .bool (decide (a1 < (r17.1.length : Int))))]) ⟨rfl, rfl, rfl, rfl, rfl, rfl, rfl, trivial⟩ ?_
        exact hk84 _ _ _ ⟨(decide (a1 < (r17.1.length : Int))), h, (Sto.Le.refl _), rfl, rfl⟩
      · replace h := (if_neg (ne_t hc)).mp h
        refine st_pass rfl rfl rfl rfl rfl rfl ?_
        refine st_pass rfl rfl rfl rfl rfl rfl ?_
        refine st_pass rfl rfl rfl rfl rfl rfl ?_
        refine o_pick rfl rfl rfl rfl rfl ?_
        refine st_end ?_
        refine st_env (ρ' := [(3, .pointer (some ⟨b3, 0, none⟩)), (4, .pointer (some ⟨b4, 0, none⟩)), (6, .pointer (some ⟨b25, 0, none⟩)), (8, .pointer (some ⟨b27, 0, none⟩)), (12, .pointer (some ⟨b69, 0, none⟩)), (14, .int .i64 (r17.1.length : Int)), (80, .bool false)]) ⟨rfl, rfl, rfl, rfl, rfl, rfl, rfl, trivial⟩ ?_
        exact hk84 _ _ _ ⟨false, h, (Sto.Le.refl _), rfl, rfl⟩
    refine st_seq ?_
    refine st_region ?_
    refine o_move rfl rfl rfl rfl ?_
    refine st_end ?_
    refine st_block ?_
    obtain ⟨t85, w85, hR85, hA85⟩ := h
    refine st_env (ρ' := [(3, .pointer (some ⟨b3, 0, none⟩)), (4, .pointer (some ⟨b4, 0, none⟩)), (6, .pointer (some ⟨b25, 0, none⟩)), (8, .pointer (some ⟨b27, 0, none⟩)), (12, .pointer (some ⟨b69, 0, none⟩)), (63, .func (.func f74) #[] q75)]) ⟨rfl, rfl, rfl, rfl, rfl, rfl, trivial⟩ ?_
    refine st_ord [1, 1, 1, 2, 0] [[(b3, .cells [.int .i64 a1].toArray 3 (0, 0))], [(b4, .cells [.bool false].toArray 4 (0, 0))], [(b25, .cells [v21].toArray 72 (0, 0))], [(b27, .cells [.int .i64 p66].toArray 3 (0, 0))], [(b69, .cells [.int .i64 0].toArray 3 (0, 0))]] rfl ?_
    refine st_addNil ?_
    refine st_range (B := law08_FrameStream_l6 a1) (s0 := 0) ranges_fctx rfl hit76 (Sto.Le.refl _) hR85 rfl (fun _ _ _ h => by obtain ⟨_, rfl, _⟩ := h; rfl) (fun (s85 : Int) τ85 gs => τ72.Le τ85 ∧ gs = [[(b3, .cells [.int .i64 a1].toArray 3 (0, 0))], [(b4, .cells [.bool false].toArray 4 (0, 0))], [(b25, .cells [v21].toArray 72 (0, 0))], [(b27, .cells [.int .i64 p66].toArray 3 (0, 0))], [(b69, .cells [.int .i64 s85].toArray 3 (0, 0))]]) (fun (p88 : Int) cd τ89 gs => cd = .exit 2 ∧ τ72.Le τ89 ∧ gs = [[(b3, .cells [.int .i64 a1].toArray 3 (0, 0))], [(b4, .cells [.bool false].toArray 4 (0, 0))], [(b25, .cells [v21].toArray 72 (0, 0))], [(b27, .cells [.int .i64 p66].toArray 3 (0, 0))], [(b69, .cells [.int .i64 p88].toArray 3 (0, 0))]]) (fun _ _ _ _ hl ⟨hb, hg⟩ => ⟨hb.trans hl, hg⟩) (fun _ _ _ _ _ hl ⟨hc, hb, hg⟩ => ⟨hc, hb.trans hl, hg⟩) ⟨Sto.Le.refl _, rfl⟩ ?_ ?_ ?_
    · rintro x85 s85 o85 τ85 gs85 vx85 hl85 h ⟨v86, rfl, hs87⟩ ⟨hb85, rfl⟩ l85 rc85 caller85 cs85 fs85
      refine st_skip ?_
      refine st_begin ?_
      refine st_block ?_
      refine st_seq ?_
      refine st_region ?_
      refine o_load (j := 4) (v := .int .i64 s85) rfl rfl rfl z_sc3 rfl rfl rfl ?_
      refine o_ibin (v := .int .i64 (IntKind.i64.wrap (s85 + 1))) rfl rfl rfl rfl rfl rfl ?_
      refine o_store (j := 4) (vs := [.int .i64 (IntKind.i64.wrap (s85 + 1))]) (cs' := [.int .i64 (IntKind.i64.wrap (s85 + 1))]) rfl rfl rfl z_size3 rfl rfl rfl (ones_cons rfl ones_nil) rfl rfl rfl ?_
      refine st_gs [[(b3, .cells [.int .i64 a1].toArray 3 (0, 0))], [(b4, .cells [.bool false].toArray 4 (0, 0))], [(b25, .cells [v21].toArray 72 (0, 0))], [(b27, .cells [.int .i64 p66].toArray 3 (0, 0))], [(b69, .cells [.int .i64 (IntKind.i64.wrap (s85 + 1))].toArray 3 (0, 0))]] rfl ?_
      refine st_end ?_
      refine st_seq ?_
      refine st_region ?_
      refine o_load (j := 4) (v := .int .i64 (IntKind.i64.wrap (s85 + 1))) rfl rfl rfl z_sc3 rfl rfl rfl ?_
      refine o_ibin (v := .int .i64 (IntKind.i64.wrap ((IntKind.i64.wrap (s85 + 1)) - 1))) rfl rfl rfl rfl rfl rfl ?_
      refine o_load (j := 0) (v := .int .i64 a1) rfl rfl rfl z_sc3 rfl rfl rfl ?_
      refine o_ibin (v := .bool (decide ((IntKind.i64.wrap ((IntKind.i64.wrap (s85 + 1)) - 1)) = a1))) rfl rfl rfl rfl rfl rfl ?_
      refine st_end ?_
      refine st_cond rfl (fun hc => ?_) (fun hc => ?_)
      · replace h := (if_pos hc).mp h
        exact st_rexit rfl (List.Sublist.refl _) (Sto.Le.refl _) ⟨_, h, rfl, hl85, rfl⟩
      · replace h := (if_neg (ne_t hc)).mp h
        refine st_skip ?_
        refine st_inBlock ?_
        exact st_rend (List.Sublist.refl _) (Sto.Le.refl _) ⟨_, h, hl85, rfl⟩
    · rintro p91 τ92 gs85 f85 ht hl93 ⟨hb, rfl⟩ rfl
      subst ht
      replace h := hA85
      refine st_ord [1, 1, 1, 1, 1] [[(b3, .cells [.int .i64 a1].toArray 3 (0, 0))], [(b4, .cells [.bool false].toArray 4 (0, 0))], [(b25, .cells [v21].toArray 72 (0, 0))], [(b27, .cells [.int .i64 p66].toArray 3 (0, 0))], [(b69, .cells [.int .i64 p91].toArray 3 (0, 0))]] rfl ?_
      refine st_inBlock ?_
      refine st_env (ρ' := [(3, .pointer (some ⟨b3, 0, none⟩)), (4, .pointer (some ⟨b4, 0, none⟩)), (6, .pointer (some ⟨b25, 0, none⟩)), (8, .pointer (some ⟨b27, 0, none⟩)), (12, .pointer (some ⟨b69, 0, none⟩))]) ⟨rfl, rfl, rfl, rfl, rfl, trivial⟩ ?_
      exact hk77 _ _ _ ⟨p91, h, hl93, rfl, rfl⟩
    · rintro p88 cd85 τ89 gs85 f85 ht hl90 ⟨rfl, hb, rfl⟩ rfl
      subst ht
      replace h := hA85
      refine st_ord [1, 1, 1, 1, 1] [[(b3, .cells [.int .i64 a1].toArray 3 (0, 0))], [(b4, .cells [.bool false].toArray 4 (0, 0))], [(b25, .cells [v21].toArray 72 (0, 0))], [(b27, .cells [.int .i64 p66].toArray 3 (0, 0))], [(b69, .cells [.int .i64 p88].toArray 3 (0, 0))]] rfl ?_
      refine st_exit rfl ?_
      refine st_env (ρ' := [(3, .pointer (some ⟨b3, 0, none⟩)), (4, .pointer (some ⟨b4, 0, none⟩)), (6, .pointer (some ⟨b25, 0, none⟩)), (8, .pointer (some ⟨b27, 0, none⟩)), (12, .pointer (some ⟨b69, 0, none⟩))]) ⟨rfl, rfl, rfl, rfl, rfl, trivial⟩ ?_
      exact hk77 _ _ _ ⟨p88, h, hl90, rfl, rfl⟩
  · rintro p63 cd35 τ64 gs35 f35 ht hl65 ⟨rfl, hb, rfl⟩ rfl
    subst ht
    replace h := hA35
    refine st_ord [1, 1, 1, 1, 1] [[(b3, .cells [.int .i64 a1].toArray 3 (0, 0))], [(b4, .cells [.bool false].toArray 4 (0, 0))], [(b25, .cells [v21].toArray 72 (0, 0))], [(b26, .cells [v23].toArray 73 (0, 0))], [(b27, .cells [.int .i64 p63].toArray 3 (0, 0))]] rfl ?_
    obtain rfl := Eq.symm h
    exact st_retC (gs' := []) [.bool false] Try.func8 ⟨⟨_, _, _, _, rfl, mem_flat 1 rfl, fun w hw => cellOf z_sc4 rfl w hw⟩, trivial⟩ (by simp) (((hl12.trans hl20).trans hl31).trans hl65) ⟨rfl, rfl⟩
end Go.Rel
