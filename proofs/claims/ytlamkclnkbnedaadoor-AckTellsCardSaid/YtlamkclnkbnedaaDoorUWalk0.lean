import Derived.Test.YtlamkclnkbnedaaDoorURel
import Derived.Test.YtlamkclnkbnedaaDoorUFacts
/-! The walks. -/
set_option linter.unusedVariables false
set_option linter.unusedSimpArgs false
set_option maxRecDepth 4000
namespace Go.Rel
open Go Go.Eng Go.Proofs
theorem ref01_Same_ok {a0 : List Int} {a1 : List Int} {v1 : Value} {v3 : Value} {r : Bool} (h : ref01_Same a0 a1 r) (σ : Sto) (hs2 : Sl (kI .u8) σ v1 a0) (hs4 : Sl (kI .u8) σ v3 a1) :
    Does Tryd.prog 15 [v1, v3] σ [] (fun v τ gs => gs = [] ∧ .bool r = v) := by
  refine call_of Tryd.func15 Tryd.ntmps15 rfl rfl (fun cs fs => ?_)
  refine st_seq ?_
  refine st_region ?_
  refine o_assign rfl rfl rfl rfl ?_
  refine st_end ?_
  refine st_seq ?_
  refine st_seq ?_
  refine st_region ?_
  refine o_move rfl rfl rfl rfl ?_
  refine o_lenI rfl rfl rfl z_slT31 rfl hs2 ?_
  refine o_move rfl rfl rfl rfl ?_
  refine o_lenI rfl rfl rfl z_slT31 rfl hs4 ?_
  refine o_ibin (v := .bool (!(decide ((a0.length : Int) = (a1.length : Int))))) rfl rfl rfl rfl rfl rfl ?_
  refine st_end ?_
  refine st_cond rfl (fun hc => ?_) (fun hc => ?_)
  · replace h := (if_pos hc).mp h
    refine st_seq ?_
    refine st_region ?_
    refine o_assign rfl rfl rfl rfl ?_
    refine st_end ?_
    obtain rfl := Eq.symm h
    exact st_ret (gs' := []) Tryd.func15 rfl (List.Sublist.refl _) (Sto.Le.refl _) ⟨rfl, rfl⟩
  · replace h := (if_neg (ne_t hc)).mp h
    refine st_skip ?_
    refine st_seq ?_
    refine st_cut (fun ρ τ5 gs => ∃ (s5 : Unit), ref01_Same_j1 s5 r ∧ σ.Le τ5 ∧ ρ = [(4, .bool false)] ∧ gs = []) ?_ (fun hk5 => ?_)
    · rintro ρ5 τ5 gs5 ⟨s5, h, hl5, rfl, rfl⟩
      refine st_seq ?_
      refine st_region ?_
      refine o_assign rfl rfl rfl rfl ?_
      refine st_end ?_
      obtain rfl := Eq.symm h
      exact st_ret (gs' := []) Tryd.func15 rfl (List.Sublist.refl _) hl5 ⟨rfl, rfl⟩
    refine st_seq ?_
    refine st_region ?_
    refine o_assign rfl rfl rfl rfl ?_
    refine st_end ?_
    obtain ⟨e6, hL6, hA6⟩ := h
    refine st_env (ρ' := [(0, v1), (1, v3), (4, .bool false), (5, .int .i64 0)]) ⟨rfl, rfl, rfl, rfl, trivial⟩ ?_
    refine st_loop hL6 (fun (s6 : Int) ρ τ6 gs => σ.Le τ6 ∧ ρ = [(0, v1), (1, v3), (4, .bool false), (5, .int .i64 s6)] ∧ gs = []) ⟨Sto.Le.refl _, rfl, rfl⟩ ?_
    rintro s6 o6 h he6 ρ6 τ6 gs6 ⟨hl6, rfl, rfl⟩ hn6
    refine st_seq ?_
    refine st_seq ?_
    refine st_region ?_
    refine o_move rfl rfl rfl rfl ?_
    refine o_move rfl rfl rfl rfl ?_
    refine o_lenI rfl rfl rfl z_slT31 rfl (hs2.up hl6) ?_
    refine o_ibin (v := .bool (decide (s6 < (a0.length : Int)))) rfl rfl rfl rfl rfl rfl ?_
    refine st_end ?_
    refine st_cond rfl (fun hc => ?_) (fun hc => ?_)
    · replace h := (if_pos hc).mp h
      refine st_skip ?_
      refine st_seq ?_
      refine st_block ?_
      refine st_seq ?_
      obtain ⟨q7, hf8, h⟩ := h
      obtain ⟨q12, hf13, h⟩ := h
      refine st_draw 9 (tl [fun τ v => (v1 : Value) = v,
    fun τ v => (.int .i64 s6 : Value) = v,
    fun τ v => ∃ (b9 : Nat) (of10 : Nat) (vsb9 : List Value), (.pointer (some ⟨b9, of10, none⟩) : Value) = v ∧ CelN τ ⟨b9, of10, none⟩ vsb9 ∧ (kI .u8).rep τ vsb9 q7,
    fun τ v => (.int .u8 q7 : Value) = v,
    fun τ v => (v3 : Value) = v,
    fun τ v => (.int .i64 s6 : Value) = v,
    fun τ v => ∃ (b14 : Nat) (of15 : Nat) (vsb14 : List Value), (.pointer (some ⟨b14, of15, none⟩) : Value) = v ∧ CelN τ ⟨b14, of15, none⟩ vsb14 ∧ (kI .u8).rep τ vsb14 q12,
    fun τ v => (.int .u8 q12 : Value) = v,
    fun τ v => (.bool (!(decide (q7 = q12))) : Value) = v]) (fun _ _ => []) z_mix rfl (tl_mono ⟨fun _ _ _ _ h => h, ⟨fun _ _ _ _ h => h, ⟨fun _ _ _ hl ⟨b9, of10, vsb9, hv, hc11, hrepb9⟩ => ⟨b9, of10, vsb9, hv, hc11.up hl, Kd.mono _ hl hrepb9⟩, ⟨fun _ _ _ _ h => h, ⟨fun _ _ _ _ h => h, ⟨fun _ _ _ _ h => h, ⟨fun _ _ _ hl ⟨b14, of15, vsb14, hv, hc16, hrepb14⟩ => ⟨b14, of15, vsb14, hv, hc16.up hl, Kd.mono _ hl hrepb14⟩, ⟨fun _ _ _ _ h => h, ⟨fun _ _ _ _ h => h, trivial⟩⟩⟩⟩⟩⟩⟩⟩⟩) (allB_cons (allB_cons (allB_cons (allB_cons (allB_cons (allB_cons (allB_cons (allB_cons (allB_cons allB_nil ?_) ?_) ?_) ?_) ?_) ?_) ?_) ?_) ?_) ?_
      · intro ρ' τ pool rs hl hd hout hk
        refine o_move rfl rfl rfl ((hout 0 rfl).trans rfl) ?_
        exact st_addNil (hk _ _ (Sto.Le.refl _) rfl)
      · intro ρ' τ pool rs hl hd hout hk
        refine o_move rfl rfl rfl ((hout 5 rfl).trans rfl) ?_
        exact st_addNil (hk _ _ (Sto.Le.refl _) rfl)
      · intro ρ' τ pool rs hl hd hout hk
        obtain ⟨_, e0, rfl⟩ := hd 0 rfl
        obtain ⟨_, e1, rfl⟩ := hd 1 rfl
        refine o_index rfl rfl rfl z_slT31 rfl e0 (hs2.up (hl6.trans hl)) e1 hf8 (fun b9 of10 vsb9 hc11 hrepb9 => ?_)
        exact st_addNil (hk _ _ (Sto.Le.refl _) ⟨b9, of10, vsb9, rfl, hc11, hrepb9⟩)
      · intro ρ' τ pool rs hl hd hout hk
        obtain ⟨_, e2, b9, of10, vsb9, rfl, hc11, hrepb9⟩ := hd 2 rfl
        have hrepb9 := hrepb9
        obtain rfl := hrepb9
        refine o_loadI (v := .int .u8 q7) rfl rfl rfl z_sc5 e2 (hc11 0 _ rfl) ?_
        exact st_addNil (hk _ _ (Sto.Le.refl _) rfl)
      · intro ρ' τ pool rs hl hd hout hk
        refine o_move rfl rfl rfl ((hout 1 rfl).trans rfl) ?_
        exact st_addNil (hk _ _ (Sto.Le.refl _) rfl)
      · intro ρ' τ pool rs hl hd hout hk
        refine o_move rfl rfl rfl ((hout 5 rfl).trans rfl) ?_
        exact st_addNil (hk _ _ (Sto.Le.refl _) rfl)
      · intro ρ' τ pool rs hl hd hout hk
        obtain ⟨_, e4, rfl⟩ := hd 4 rfl
        obtain ⟨_, e5, rfl⟩ := hd 5 rfl
        refine o_index rfl rfl rfl z_slT31 rfl e4 (hs4.up (hl6.trans hl)) e5 hf13 (fun b14 of15 vsb14 hc16 hrepb14 => ?_)
        exact st_addNil (hk _ _ (Sto.Le.refl _) ⟨b14, of15, vsb14, rfl, hc16, hrepb14⟩)
      · intro ρ' τ pool rs hl hd hout hk
        obtain ⟨_, e6, b14, of15, vsb14, rfl, hc16, hrepb14⟩ := hd 6 rfl
        have hrepb14 := hrepb14
        obtain rfl := hrepb14
        refine o_loadI (v := .int .u8 q12) rfl rfl rfl z_sc5 e6 (hc16 0 _ rfl) ?_
        exact st_addNil (hk _ _ (Sto.Le.refl _) rfl)
      · intro ρ' τ pool rs hl hd hout hk
        obtain ⟨_, e3, rfl⟩ := hd 3 rfl
        obtain ⟨_, e7, rfl⟩ := hd 7 rfl
        refine o_ibin (v := .bool (!(decide (q7 = q12)))) rfl rfl rfl e3 e7 rfl ?_
        exact st_addNil (hk _ _ (Sto.Le.refl _) rfl)
      intro ρ' τ17 vals hl17 hv hout
      have l8 : Eng.look ρ' 25 = some (.bool (!(decide (q7 = q12)))) := (hv 8 (by decide)).1.trans (congrArg some (show vals 8 = .bool (!(decide (q7 = q12))) from Eq.symm (hv 8 (by decide)).2))
      refine st_ord [] [] rfl ?_
      refine st_env (ρ' := [(25, .bool (!(decide (q7 = q12)))), (0, v1), (1, v3), (4, .bool false), (5, .int .i64 s6)]) ⟨l8, (hout 0 rfl).trans rfl, (hout 1 rfl).trans rfl, (hout 4 rfl).trans rfl, (hout 5 rfl).trans rfl, trivial⟩ ?_
      refine st_end ?_
      refine st_cond rfl (fun hc => ?_) (fun hc => ?_)
      · replace h := (if_pos hc).mp h
        refine st_seq ?_
        refine st_region ?_
        refine o_assign rfl rfl rfl rfl ?_
        refine st_end ?_
        obtain rfl := he6 _ h
        replace h := hA6
        obtain rfl := Eq.symm h
        exact st_ret (gs' := []) Tryd.func15 rfl (List.Sublist.refl _) (hl6.trans hl17) ⟨rfl, rfl⟩
      · replace h := (if_neg (ne_t hc)).mp h
        refine st_skip ?_
        refine st_inBlock ?_
        refine st_region ?_
        refine o_move rfl rfl rfl rfl ?_
        refine o_ibin (v := .int .i64 (IntKind.i64.wrap (s6 + 1))) rfl rfl rfl rfl rfl rfl ?_
        refine o_assign rfl rfl rfl rfl ?_
        refine st_end ?_
        refine st_env (ρ' := [(0, v1), (1, v3), (4, .bool false), (5, .int .i64 (IntKind.i64.wrap (s6 + 1)))]) ⟨rfl, rfl, rfl, rfl, trivial⟩ ?_
        exact hn6 _ _ _ _ h ⟨(hl6.trans hl17), rfl, rfl⟩
    · replace h := (if_neg (ne_t hc)).mp h
      refine st_exit rfl ?_
      obtain rfl := he6 _ h
      replace h := hA6
      refine st_env (ρ' := [(4, .bool false)]) ⟨rfl, trivial⟩ ?_
      exact hk5 _ _ _ ⟨(), h, hl6, rfl, rfl⟩
theorem strconv_Itoa_ok {a0 : Int} {r : ByteArray} (h : strconv_Itoa a0 r) (σ : Sto) (hT : Tab Tryd.prog σ) :
    Does Tryd.prog 43 [.int .i64 a0] σ [] (fun v τ gs => gs = [] ∧ .string r = v) := by
  obtain ⟨hk, rfl⟩ := h
  rw [itoa_lib]
  exact does_grow fun w hw => Tryd.strconv_Itoa a0 (i64_lo hk) (i64_hi hk) w (hT w hw)
theorem say_Number_ok {a0 : Int} {r : ByteArray} (h : say_Number a0 r) (σ : Sto) (hT : Tab Tryd.prog σ) :
    Does Tryd.prog 63 [.int .i64 a0] σ [] (fun v τ gs => gs = [] ∧ .string r = v) := by
  refine call_of Tryd.func63 Tryd.ntmps63 rfl rfl (fun cs fs => ?_)
  refine st_seq ?_
  refine st_region ?_
  refine o_assign rfl rfl rfl (ev_str z_str0) ?_
  refine st_end ?_
  refine st_seq ?_
  refine st_region ?_
  refine o_move rfl rfl rfl rfl ?_
  obtain ⟨r1, hr2, h⟩ := h
  refine st_call (foot := []) rfl rfl rfl rfl rfl rfl (callV_fn z_en43 (strconv_Itoa_ok hr2 σ hT)) ?_
  rintro vτ3 τ3 gsτ3 hl4 ⟨rfl, rfl⟩
  refine o_assign rfl rfl rfl rfl ?_
  refine st_end ?_
  obtain rfl := Eq.symm h
  exact st_ret (gs' := []) Tryd.func63 rfl (List.Sublist.refl _) hl4 ⟨rfl, rfl⟩
theorem lens_New_ok {a0 : List Int} {v1 : Value} {r : (List Int × Int × Int)} (h : lens_New a0 r) (σ : Sto) (hs2 : Sl (kI .u8) σ v1 a0) :
    Does Tryd.prog 38 [v1] σ [] (fun v τ gs => ∃ (b15 : Nat) (v16 : Value), gs = [[(b15, .cells [v16, .int .i64 r.2.1, .int .i64 r.2.2].toArray 111 (0, 0))]] ∧ .pointer (some ⟨b15, 0, none⟩) = v ∧ Sl (kI .u8) τ v16 r.1) := by
  refine call_of Tryd.func38 Tryd.ntmps38 rfl rfl (fun cs fs => ?_)
  refine st_seq ?_
  refine st_region ?_
  refine o_assign rfl rfl rfl rfl ?_
  refine st_end ?_
  refine st_seq ?_
  refine st_region ?_
  refine o_move rfl rfl rfl rfl ?_
  obtain ⟨hf6, h⟩ := h
  obtain ⟨hf7, h⟩ := h
  refine st_addNil ?_
  refine o_append (dk := (kI .u8)) (xs := ([] : List Int)) (ys := a0) rfl rfl rfl rfl z_slT31 rfl Ow.nil rfl (Sl.src hs2) hf6 hf7 (fun v3 g4 ho5 => ?_)
  refine o_build (ps := [(0, [v3])]) (cs := [v3, .int .i64 0, .int .i64 0]) rfl rfl rfl z_struct111 ⟨rfl, ⟨_, rfl, (oneL_ow ho5)⟩, trivial⟩ rfl ?_
  refine o_box (cs := [v3, .int .i64 0, .int .i64 0]) rfl rfl rfl rfl rfl (fun b8 => ?_)
  refine o_assign rfl rfl rfl rfl ?_
  refine st_end ?_
  refine st_ord [1, 0] [g4, [(b8, .cells [v3, .int .i64 0, .int .i64 0].toArray 111 (0, 0))]] rfl ?_
  refine st_freeze (fun τ9 hl10 hg11 => ?_)
  have hs12 := ho5.freeze hl10 hg11
  obtain rfl := Eq.symm h
  exact st_ret (gs' := [[(b8, .cells [v3, .int .i64 0, .int .i64 0].toArray 111 (0, 0))]]) Tryd.func38 rfl (List.Sublist.refl _) hl10 ⟨_, _, rfl, rfl, hs12⟩
theorem lens_Lens_left_ok {a0 : List Int × Int × Int} {ba0 : Nat} {v1 : Value} {r : List Int} (h : lens_Lens_left a0 r) (σ : Sto) (hs2 : Sl (kI .u8) σ v1 a0.1) :
    Does Tryd.prog 92 [.pointer (some ⟨ba0, 0, none⟩)] σ [[(ba0, .cells [v1, .int .i64 a0.2.1, .int .i64 a0.2.2].toArray 111 (0, 0))]] (fun v τ gs => ∃ (v11 : Value), gs = [[(ba0, .cells [v1, .int .i64 a0.2.1, .int .i64 a0.2.2].toArray 111 (0, 0))]] ∧ v11 = v ∧ Sl (kI .u8) τ v11 r) := by
  refine call_of Tryd.func92 Tryd.ntmps92 rfl rfl (fun cs fs => ?_)
  refine st_seq ?_
  refine st_region ?_
  refine o_assign rfl rfl rfl rfl ?_
  refine st_end ?_
  refine st_seq ?_
  obtain ⟨hf3, h⟩ := h
  obtain ⟨hf4, h⟩ := h
  obtain ⟨hf5, h⟩ := h
  obtain ⟨hf6, h⟩ := h
  obtain ⟨hf7, h⟩ := h
  refine st_draw 19 (tl [fun τ v => (.pointer (some ⟨ba0, 0, none⟩) : Value) = v,
    fun τ v => (.pointer (some ⟨ba0, 0, none⟩) : Value) = v,
    fun τ v => (.pointer (some ⟨ba0, 0, none⟩) : Value) = v,
    fun τ v => (v1 : Value) = v,
    fun τ v => (.pointer (some ⟨ba0, 0, none⟩) : Value) = v,
    fun τ v => (.pointer (some ⟨ba0, 0, none⟩) : Value) = v,
    fun τ v => (.pointer (some ⟨ba0, 1, none⟩) : Value) = v,
    fun τ v => (.int .i64 a0.2.1 : Value) = v,
    fun τ v => (.pointer (some ⟨ba0, 0, none⟩) : Value) = v,
    fun τ v => (.pointer (some ⟨ba0, 0, none⟩) : Value) = v,
    fun τ v => (.pointer (some ⟨ba0, 0, none⟩) : Value) = v,
    fun τ v => (v1 : Value) = v,
    fun τ v => (.int .i64 (a0.1.length : Int) : Value) = v,
    fun τ v => (.pointer (some ⟨ba0, 0, none⟩) : Value) = v,
    fun τ v => (.pointer (some ⟨ba0, 0, none⟩) : Value) = v,
    fun τ v => (.pointer (some ⟨ba0, 0, none⟩) : Value) = v,
    fun τ v => (v1 : Value) = v,
    fun τ v => (.int .i64 (a0.1.length : Int) : Value) = v,
    fun τ v => ∃ (v8 : Value), (v8 : Value) = v ∧ Sl (kI .u8) τ v8 ((a0.1.drop a0.2.1.toNat).take (((a0.1.length : Int) : Int) - a0.2.1).toNat)]) (fun _ _ => []) z_mix rfl (tl_mono ⟨fun _ _ _ _ h => h, ⟨fun _ _ _ _ h => h, ⟨fun _ _ _ _ h => h, ⟨fun _ _ _ _ h => h, ⟨fun _ _ _ _ h => h, ⟨fun _ _ _ _ h => h, ⟨fun _ _ _ _ h => h, ⟨fun _ _ _ _ h => h, ⟨fun _ _ _ _ h => h, ⟨fun _ _ _ _ h => h, ⟨fun _ _ _ _ h => h, ⟨fun _ _ _ _ h => h, ⟨fun _ _ _ _ h => h, ⟨fun _ _ _ _ h => h, ⟨fun _ _ _ _ h => h, ⟨fun _ _ _ _ h => h, ⟨fun _ _ _ _ h => h, ⟨fun _ _ _ _ h => h, ⟨fun _ _ _ hl ⟨v8, hv, hs9⟩ => ⟨v8, hv, hs9.up hl⟩, trivial⟩⟩⟩⟩⟩⟩⟩⟩⟩⟩⟩⟩⟩⟩⟩⟩⟩⟩⟩) (allB_cons (allB_cons (allB_cons (allB_cons (allB_cons (allB_cons (allB_cons (allB_cons (allB_cons (allB_cons (allB_cons (allB_cons (allB_cons (allB_cons (allB_cons (allB_cons (allB_cons (allB_cons (allB_cons allB_nil ?_) ?_) ?_) ?_) ?_) ?_) ?_) ?_) ?_) ?_) ?_) ?_) ?_) ?_) ?_) ?_) ?_) ?_) ?_) ?_
  · intro ρ' τ pool rs hl hd hout hk
    refine o_move rfl rfl rfl ((hout 0 rfl).trans rfl) ?_
    exact st_addNil (hk _ _ (Sto.Le.refl _) rfl)
  · intro ρ' τ pool rs hl hd hout hk
    obtain ⟨_, e0, rfl⟩ := hd 0 rfl
    refine o_nilCheck rfl rfl rfl e0 ?_
    exact st_addNil (hk _ _ (Sto.Le.refl _) rfl)
  · intro ρ' τ pool rs hl hd hout hk
    obtain ⟨_, e1, rfl⟩ := hd 1 rfl
    refine o_fieldAddr rfl rfl rfl z_field111_0 e1 ?_
    exact st_addNil (hk _ _ (Sto.Le.refl _) rfl)
  · intro ρ' τ pool rs hl hd hout hk
    obtain ⟨_, e2, rfl⟩ := hd 2 rfl
    refine o_load (j := 0) (v := v1) rfl rfl rfl z_sc31 e2 rfl rfl ?_
    exact st_addNil (hk _ _ (Sto.Le.refl _) rfl)
  · intro ρ' τ pool rs hl hd hout hk
    refine o_move rfl rfl rfl ((hout 0 rfl).trans rfl) ?_
    exact st_addNil (hk _ _ (Sto.Le.refl _) rfl)
  · intro ρ' τ pool rs hl hd hout hk
    obtain ⟨_, e4, rfl⟩ := hd 4 rfl
    refine o_nilCheck rfl rfl rfl e4 ?_
    exact st_addNil (hk _ _ (Sto.Le.refl _) rfl)
  · intro ρ' τ pool rs hl hd hout hk
    obtain ⟨_, e5, rfl⟩ := hd 5 rfl
    refine o_fieldAddr rfl rfl rfl z_field111_1 e5 ?_
    exact st_addNil (hk _ _ (Sto.Le.refl _) rfl)
  · intro ρ' τ pool rs hl hd hout hk
    obtain ⟨_, e6, rfl⟩ := hd 6 rfl
    refine o_load (j := 0) (v := .int .i64 a0.2.1) rfl rfl rfl z_sc3 e6 rfl rfl ?_
    exact st_addNil (hk _ _ (Sto.Le.refl _) rfl)
  · intro ρ' τ pool rs hl hd hout hk
    refine o_move rfl rfl rfl ((hout 0 rfl).trans rfl) ?_
    exact st_addNil (hk _ _ (Sto.Le.refl _) rfl)
  · intro ρ' τ pool rs hl hd hout hk
    obtain ⟨_, e8, rfl⟩ := hd 8 rfl
    refine o_nilCheck rfl rfl rfl e8 ?_
    exact st_addNil (hk _ _ (Sto.Le.refl _) rfl)
  · intro ρ' τ pool rs hl hd hout hk
    obtain ⟨_, e9, rfl⟩ := hd 9 rfl
    refine o_fieldAddr rfl rfl rfl z_field111_0 e9 ?_
    exact st_addNil (hk _ _ (Sto.Le.refl _) rfl)
  · intro ρ' τ pool rs hl hd hout hk
    obtain ⟨_, e10, rfl⟩ := hd 10 rfl
    refine o_load (j := 0) (v := v1) rfl rfl rfl z_sc31 e10 rfl rfl ?_
    exact st_addNil (hk _ _ (Sto.Le.refl _) rfl)
  · intro ρ' τ pool rs hl hd hout hk
    obtain ⟨_, e11, rfl⟩ := hd 11 rfl
    refine o_lenI rfl rfl rfl z_slT31 e11 (hs2.up hl) ?_
    exact st_addNil (hk _ _ (Sto.Le.refl _) rfl)
  · intro ρ' τ pool rs hl hd hout hk
    refine o_move rfl rfl rfl ((hout 0 rfl).trans rfl) ?_
    exact st_addNil (hk _ _ (Sto.Le.refl _) rfl)
  · intro ρ' τ pool rs hl hd hout hk
    obtain ⟨_, e13, rfl⟩ := hd 13 rfl
    refine o_nilCheck rfl rfl rfl e13 ?_
    exact st_addNil (hk _ _ (Sto.Le.refl _) rfl)
  · intro ρ' τ pool rs hl hd hout hk
    obtain ⟨_, e14, rfl⟩ := hd 14 rfl
    refine o_fieldAddr rfl rfl rfl z_field111_0 e14 ?_
    exact st_addNil (hk _ _ (Sto.Le.refl _) rfl)
  · intro ρ' τ pool rs hl hd hout hk
    obtain ⟨_, e15, rfl⟩ := hd 15 rfl
    refine o_load (j := 0) (v := v1) rfl rfl rfl z_sc31 e15 rfl rfl ?_
    exact st_addNil (hk _ _ (Sto.Le.refl _) rfl)
  · intro ρ' τ pool rs hl hd hout hk
    obtain ⟨_, e16, rfl⟩ := hd 16 rfl
    refine o_lenI rfl rfl rfl z_slT31 e16 (hs2.up hl) ?_
    exact st_addNil (hk _ _ (Sto.Le.refl _) rfl)
  · intro ρ' τ pool rs hl hd hout hk
    obtain ⟨_, e3, rfl⟩ := hd 3 rfl
    obtain ⟨_, e7, rfl⟩ := hd 7 rfl
    obtain ⟨_, e12, rfl⟩ := hd 12 rfl
    obtain ⟨_, e17, rfl⟩ := hd 17 rfl
    refine o_slice (L := a0.2.1) (H := (a0.1.length : Int)) rfl rfl rfl z_slT31 rfl e3 (hs2.up hl) ⟨_, e7⟩ ⟨_, e12⟩ hf3 hf4 hf5 ⟨_, _, e17, hf6, hf7⟩ (by simp) (fun v8 hs9 => ?_)
    exact st_addNil (hk _ _ (Sto.Le.refl _) ⟨v8, rfl, hs9⟩)
  intro ρ' τ10 vals hl10 hv hout
  obtain ⟨l18, v8, t18, hs9⟩ := hv 18 (by decide)
  replace l18 : Eng.look ρ' 21 = some (v8) := l18.trans (congrArg some (Eq.symm t18))
  refine st_ord [0] [[(ba0, .cells [v1, .int .i64 a0.2.1, .int .i64 a0.2.2].toArray 111 (0, 0))]] rfl ?_
  refine st_env (ρ' := [(21, v8), (2, .slice none 0 0)]) ⟨l18, (hout 2 rfl).trans rfl, trivial⟩ ?_
  refine o_assign rfl rfl rfl rfl ?_
  refine st_end ?_
  obtain rfl := Eq.symm h
  exact st_ret (gs' := [[(ba0, .cells [v1, .int .i64 a0.2.1, .int .i64 a0.2.2].toArray 111 (0, 0))]]) Tryd.func92 rfl (List.Sublist.refl _) hl10 ⟨_, rfl, rfl, hs9⟩
theorem slices_Backward_byte_byte_1_ok {c0 : List Int} {bc0 : Nat} {v1 : Value} {σ0 : Sto} (hc0_0 : Cel σ0 ⟨bc0, 0, none⟩ (v1)) (hs2 : Sl (kI .u8) σ0 v1 c0) :
    IterV Tryd.prog (fun _ x vx => vx = [.int .i64 x.1, .int .u8 x.2]) (.func (.func 102) #[] [.pointer (some ⟨bc0, 0, none⟩)].toArray) σ0 [] (fun (_ : Unit) _ f => f = []) (slices_Backward_byte_byte_1 c0) := by
  intro S Y I y hyc hyo hIm hY s s' o hR σ g hle hIg
  obtain ⟨r, hr0⟩ : ∃ r, r = (s', o) := ⟨_, rfl⟩
  rw [← hr0] at hR
  have h := hR
  refine callV_of (caps := [.pointer (some ⟨bc0, 0, none⟩)]) z_en102 ?_
  refine call_of Tryd.func102 Tryd.ntmps102 rfl rfl (fun cs fs => ?_)
  refine st_ord [0] [g] rfl ?_
  refine st_seq ?_
  refine st_region ?_
  refine o_loadI (v := v1) rfl rfl rfl z_sc31 rfl (Cel.up hc0_0 hle) ?_
  refine o_lenI rfl rfl rfl z_slT31 rfl (hs2.up hle) ?_
  refine o_ibin (v := .int .i64 (IntKind.i64.wrap ((c0.length : Int) - 1))) rfl rfl rfl rfl rfl rfl ?_
  refine o_assign rfl rfl rfl rfl ?_
  refine st_end ?_
  obtain ⟨e3, hL3, hA3⟩ := h
  refine st_env (ρ' := [(0, y), (1, .pointer (some ⟨bc0, 0, none⟩)), (3, .int .i64 (IntKind.i64.wrap ((c0.length : Int) - 1)))]) ⟨rfl, rfl, rfl, trivial⟩ ?_
  refine st_loop hL3 (fun (s3 : S × Int) ρ τ3 gs => σ.Le τ3 ∧ ∃ (g4 : Grp), ρ = [(0, y), (1, .pointer (some ⟨bc0, 0, none⟩)), (3, .int .i64 s3.2)] ∧ gs = [g4] ∧ I s3.1 τ3 g4) ⟨Sto.Le.refl _, g, rfl, rfl, hIg⟩ ?_
  rintro s3 o3 h he3 ρ3 τ3 gs3 ⟨hl3, g4, rfl, rfl, hI5⟩ hn3
  refine st_seq ?_
  refine st_seq ?_
  refine st_region ?_
  refine o_move rfl rfl rfl rfl ?_
  refine o_ibin (v := .bool (decide (0 ≤ s3.2))) rfl rfl rfl rfl rfl rfl ?_
  refine st_end ?_
  refine st_cond rfl (fun hc => ?_) (fun hc => ?_)
  · replace h := (if_pos hc).mp h
    refine st_skip ?_
    refine st_seq ?_
    refine st_block ?_
    refine st_seq ?_
    refine st_region ?_
    refine o_move rfl rfl rfl rfl ?_
    refine o_move rfl rfl rfl rfl ?_
    refine o_loadI (v := v1) rfl rfl rfl z_sc31 rfl (Cel.up hc0_0 (hle.trans hl3)) ?_
    refine o_move rfl rfl rfl rfl ?_
    obtain ⟨q6, hf7, h⟩ := h
    refine o_index rfl rfl rfl z_slT31 rfl rfl (hs2.up (hle.trans hl3)) rfl hf7 (fun b8 of9 vs hc10 hrep => ?_)
    obtain rfl := hrep
    refine o_loadI (v := .int .u8 q6) rfl rfl rfl z_sc5 rfl (hc10 0 _ rfl) ?_
    obtain ⟨y11, u12, hy13, h⟩ := h
    refine st_call (foot := [g4]) rfl rfl rfl rfl rfl rfl (hY (s3.2, q6) s3.1 _ _ _ _ _ (hle.trans hl3) hy13 rfl hI5) ?_
    rintro vτ14 τ14 gsτ14 hl15 ⟨rfl, g16, rfl, hI17⟩
    refine o_not rfl rfl rfl rfl ?_
    refine st_end ?_
    refine st_cond rfl (fun hc => ?_) (fun hc => ?_)
    · replace h := (if_pos hc).mp h
      obtain rfl := he3 _ h
      replace h := hA3
      obtain rfl := Eq.symm h
      cases hr0
      exact st_ret (gs' := [g16, []]) Tryd.func102 rfl (by simp) (hl3.trans hl15) ⟨g16, _, rfl, hI17, rfl⟩
    · replace h := (if_neg (ne_t hc)).mp h
      refine st_skip ?_
      refine st_inBlock ?_
      refine st_region ?_
      refine o_move rfl rfl rfl rfl ?_
      refine o_ibin (v := .int .i64 (IntKind.i64.wrap (s3.2 - 1))) rfl rfl rfl rfl rfl rfl ?_
      refine o_assign rfl rfl rfl rfl ?_
      refine st_end ?_
      refine st_env (ρ' := [(0, y), (1, .pointer (some ⟨bc0, 0, none⟩)), (3, .int .i64 (IntKind.i64.wrap (s3.2 - 1)))]) ⟨rfl, rfl, rfl, trivial⟩ ?_
      exact hn3 _ _ _ _ h ⟨(hl3.trans hl15), g16, rfl, rfl, hI17⟩
  · replace h := (if_neg (ne_t hc)).mp h
    refine st_exit rfl ?_
    obtain rfl := he3 _ h
    replace h := hA3
    obtain rfl := Eq.symm h
    cases hr0
    exact st_fin (gs' := [g4, []]) Tryd.func102 rfl (by simp) hl3 ⟨g4, _, rfl, hI5, rfl⟩
theorem slices_Backward_byte_byte_ok {a0 : List Int} {v1 : Value} {r : (((S : Type) → ((Int × Int) → S → Bool × S → Prop) → S → S × Unit → Prop))} (h : slices_Backward_byte_byte a0 r) (σ : Sto) (hs2 : Sl (kI .u8) σ v1 a0) :
    Does Tryd.prog 91 [v1] σ [] (fun v τ gs => ∃ (f7 : Nat) (q8 : Array Value), gs = [] ∧ .func (.func f7) #[] q8 = v ∧ IterV Tryd.prog (fun _ x vx => vx = [.int .i64 x.1, .int .u8 x.2]) (.func (.func f7) #[] q8) τ [] (fun (_ : Unit) _ f => f = []) r) := by
  refine call_of Tryd.func91 Tryd.ntmps91 rfl rfl (fun cs fs => ?_)
  refine st_seq ?_
  refine st_region ?_
  refine o_box (cs := [v1]) rfl rfl rfl rfl (oneL_sl hs2) (fun b3 => ?_)
  refine o_assign rfl rfl rfl rfl ?_
  refine st_end ?_
  refine st_seq ?_
  refine st_region ?_
  refine st_freeze (fun τ4 hl5 hg6 => ?_)
  refine o_func rfl rfl rfl rfl rfl ?_
  refine o_assign rfl rfl rfl rfl ?_
  refine st_end ?_
  obtain rfl := Eq.symm h
  exact st_ret (gs' := []) Tryd.func91 rfl (List.Sublist.refl _) hl5 ⟨_, _, rfl, rfl, (slices_Backward_byte_byte_1_ok (cel_of hg6 rfl) (hs2.up hl5))⟩
theorem lens_Lens_word_1_ok {a0 : List Int} {c0 : Int} {c1 : Int} {v1 : Value} {bc0 : Nat} {bc1 : Nat} {r : Int × Int × Int} (h : lens_Lens_word_1 a0 c0 c1 r) (σ : Sto) (hs2 : Sl (kI .u8) σ v1 a0) :
    Does Tryd.prog 90 [v1, .pointer (some ⟨bc0, 0, none⟩), .pointer (some ⟨bc1, 0, none⟩)] σ [[(bc0, .cells [.int .i64 c0].toArray 3 (0, 0))], [(bc1, .cells [.int .u32 c1].toArray 22 (0, 0))]] (fun v τ gs => gs = [[(bc0, .cells [.int .i64 c0].toArray 3 (0, 0))], [(bc1, .cells [.int .u32 r.2.2].toArray 22 (0, 0))]] ∧ .tuple [.int .i64 r.1, .int .i64 r.2.1].toArray = v) := by
  refine call_of Tryd.func90 Tryd.ntmps90 rfl rfl (fun cs fs => ?_)
  refine st_seq ?_
  refine st_region ?_
  refine o_assign rfl rfl rfl rfl ?_
  refine o_assign rfl rfl rfl rfl ?_
  refine st_end ?_
  refine st_seq ?_
  refine st_seq ?_
  refine st_region ?_
  refine o_move rfl rfl rfl rfl ?_
  refine o_lenI rfl rfl rfl z_slT31 rfl hs2 ?_
  refine o_load (j := 0) (v := .int .i64 c0) rfl rfl rfl z_sc3 rfl rfl rfl ?_
  refine o_ibin (v := .bool (decide ((a0.length : Int) < c0))) rfl rfl rfl rfl rfl rfl ?_
  refine st_end ?_
  refine st_cond rfl (fun hc => ?_) (fun hc => ?_)
  · replace h := (if_pos hc).mp h
    refine st_seq ?_
    refine st_region ?_
    refine o_assign rfl rfl rfl rfl ?_
    refine o_assign rfl rfl rfl rfl ?_
    refine st_end ?_
    obtain rfl := Eq.symm h
    exact st_ret (gs' := [[(bc0, .cells [.int .i64 c0].toArray 3 (0, 0))], [(bc1, .cells [.int .u32 c1].toArray 22 (0, 0))]]) Tryd.func90 rfl (List.Sublist.refl _) (Sto.Le.refl _) ⟨rfl, rfl⟩
  · replace h := (if_neg (ne_t hc)).mp h
    refine st_skip ?_
    refine st_seq ?_
    refine st_seq ?_
    refine st_region ?_
    refine o_move rfl rfl rfl rfl ?_
    refine o_load (j := 0) (v := .int .i64 c0) rfl rfl rfl z_sc3 rfl rfl rfl ?_
    obtain ⟨hf3, h⟩ := h
    obtain ⟨hf4, h⟩ := h
    refine o_slice (L := 0) (H := c0) rfl rfl rfl z_slT31 rfl rfl hs2 rfl ⟨_, rfl⟩ (by decide) hf3 hf4 trivial (by simp) (fun v5 hs6 => ?_)
    obtain ⟨r7, hr8, h⟩ := h
    refine st_call (foot := []) rfl rfl rfl rfl rfl rfl (callV_fn z_en91 (slices_Backward_byte_byte_ok hr8 σ hs6)) ?_
    rintro vτ9 τ9 gsτ9 hl10 ⟨f11, q12, rfl, rfl, hit13⟩
    refine st_end ?_
    refine st_block ?_
    obtain ⟨t14, w14, hR14, hA14⟩ := h
    refine st_env (ρ' := [(1, .pointer (some ⟨bc0, 0, none⟩)), (2, .pointer (some ⟨bc1, 0, none⟩)), (4, .int .i64 0), (5, .int .i64 0), (15, .func (.func f11) #[] q12)]) ⟨rfl, rfl, rfl, rfl, rfl, trivial⟩ ?_
    refine st_addNil ?_
    refine st_range (B := lens_Lens_word_1_l1) (s0 := c1) ranges_fctx rfl hit13 (Sto.Le.refl _) hR14 rfl (fun _ _ _ h => by cases h; rfl) (fun (s14 : Int) τ14 gs => τ9.Le τ14 ∧ gs = [[(bc0, .cells [.int .i64 c0].toArray 3 (0, 0))], [(bc1, .cells [.int .u32 s14].toArray 22 (0, 0))]]) (fun _ _ _ _ => False) (fun _ _ _ _ hl ⟨hb, hg⟩ => ⟨hb.trans hl, hg⟩) (fun _ _ _ _ _ _ h => h.elim) ⟨Sto.Le.refl _, rfl⟩ ?_ ?_ ?_
    · rintro x14 s14 o14 τ14 gs14 vx14 hl14 h rfl ⟨hb14, rfl⟩ l14 rc14 caller14 cs14 fs14
      refine st_region ?_
      refine o_assign rfl rfl rfl rfl ?_
      refine st_end ?_
      refine st_begin ?_
      refine st_block ?_
      refine st_region ?_
      refine o_load (j := 1) (v := .int .u32 s14) rfl rfl rfl z_sc22 rfl rfl rfl ?_
      refine o_shl rfl rfl rfl rfl rfl (by decide) ?_
      refine o_move rfl rfl rfl rfl ?_
      refine o_conv rfl rfl rfl Tryd.underlying5 Tryd.underlying22 rfl ?_
      refine o_ibin (v := .int .u32 (ior .u32 (ishl .u32 s14 8) (IntKind.u32.wrap x14.2))) rfl rfl rfl rfl rfl rfl ?_
      refine o_store (j := 1) (vs := [.int .u32 (ior .u32 (ishl .u32 s14 8) (IntKind.u32.wrap x14.2))]) (cs' := [.int .u32 (ior .u32 (ishl .u32 s14 8) (IntKind.u32.wrap x14.2))]) rfl rfl rfl z_size22 rfl rfl rfl (ones_cons rfl ones_nil) rfl rfl rfl ?_
      refine st_gs [[(bc0, .cells [.int .i64 c0].toArray 3 (0, 0))], [(bc1, .cells [.int .u32 (ior .u32 (ishl .u32 s14 8) (IntKind.u32.wrap x14.2))].toArray 22 (0, 0))]] rfl ?_
      refine st_end ?_
      refine st_inBlock ?_
      exact st_rend (List.Sublist.refl _) (Sto.Le.refl _) ⟨_, h, hl14, rfl⟩
    · rintro p15 τ16 gs14 f14 ht hl17 ⟨hb, rfl⟩ rfl
      subst ht
      replace h := hA14
      refine st_ord [1, 1] [[(bc0, .cells [.int .i64 c0].toArray 3 (0, 0))], [(bc1, .cells [.int .u32 p15].toArray 22 (0, 0))]] rfl ?_
      refine st_inBlock ?_
      refine st_seq ?_
      refine st_region ?_
      refine o_load (j := 0) (v := .int .i64 c0) rfl rfl rfl z_sc3 rfl rfl rfl ?_
      refine o_assign rfl rfl rfl rfl ?_
      refine o_assign rfl rfl rfl rfl ?_
      refine st_end ?_
      obtain rfl := Eq.symm h
      exact st_ret (gs' := [[(bc0, .cells [.int .i64 c0].toArray 3 (0, 0))], [(bc1, .cells [.int .u32 p15].toArray 22 (0, 0))]]) Tryd.func90 rfl (List.Sublist.refl _) (hl10.trans hl17) ⟨rfl, rfl⟩
    · exact fun _ _ _ _ _ _ _ h => h.elim
theorem lens_Lens_read__lens_Lens_word_1_ok {a0 : List Int × Int × Int} {a1_0 : Int} {a1_1 : Int} {ba0 : Nat} {v1 : Value} {ba1_0 : Nat} {ba1_1 : Nat} {r : Bool × (List Int × Int × Int) × Int} (h : lens_Lens_read__lens_Lens_word_1 a0 a1_0 a1_1 r) (σ : Sto) (hs2 : Sl (kI .u8) σ v1 a0.1) :
    Does Tryd.prog 89 [.pointer (some ⟨ba0, 0, none⟩), .func (.func 90) #[] [.pointer (some ⟨ba1_0, 0, none⟩), .pointer (some ⟨ba1_1, 0, none⟩)].toArray] σ [[(ba0, .cells [v1, .int .i64 a0.2.1, .int .i64 a0.2.2].toArray 111 (0, 0))], [(ba1_0, .cells [.int .i64 a1_0].toArray 3 (0, 0))], [(ba1_1, .cells [.int .u32 a1_1].toArray 22 (0, 0))]] (fun v τ gs => ∃ (v13 : Value), gs = [[(ba0, .cells [v13, .int .i64 r.2.1.2.1, .int .i64 r.2.1.2.2].toArray 111 (0, 0))], [(ba1_0, .cells [.int .i64 a1_0].toArray 3 (0, 0))], [(ba1_1, .cells [.int .u32 r.2.2].toArray 22 (0, 0))]] ∧ .bool r.1 = v ∧ Sl (kI .u8) τ v13 r.2.1.1) := by
  refine call_of Tryd.func89 Tryd.ntmps89 rfl rfl (fun cs fs => ?_)
  refine st_seq ?_
  refine st_region ?_
  refine o_assign rfl rfl rfl rfl ?_
  refine st_end ?_
  refine st_seq ?_
  refine st_seq ?_
  refine st_region ?_
  refine o_move rfl rfl rfl rfl ?_
  refine o_ptrNil (b := false) rfl rfl rfl Tryd.underlying72 rfl rfl rfl ?_
  refine o_move rfl rfl rfl rfl ?_
  refine o_move rfl rfl rfl rfl ?_
  refine o_nilCheck rfl rfl rfl rfl ?_
  refine o_fieldAddr rfl rfl rfl z_field111_2 rfl ?_
  refine o_load (j := 0) (v := .int .i64 a0.2.2) rfl rfl rfl z_sc32 rfl rfl rfl ?_
  refine o_ibin (v := .bool (!(decide (a0.2.2 = 0)))) rfl rfl rfl rfl rfl rfl ?_
  refine o_pick rfl rfl rfl rfl rfl ?_
  refine st_end ?_
  refine st_cond rfl (fun hc => ?_) (fun hc => ?_)
  · replace h := (if_pos hc).mp h
    refine st_seq ?_
    refine st_region ?_
    refine o_assign rfl rfl rfl rfl ?_
    refine st_end ?_
    obtain rfl := Eq.symm h
    exact st_ret (gs' := [[(ba0, .cells [v1, .int .i64 a0.2.1, .int .i64 a0.2.2].toArray 111 (0, 0))], [(ba1_0, .cells [.int .i64 a1_0].toArray 3 (0, 0))], [(ba1_1, .cells [.int .u32 a1_1].toArray 22 (0, 0))]]) Tryd.func89 rfl (List.Sublist.refl _) (Sto.Le.refl _) ⟨_, rfl, rfl, hs2⟩
  · replace h := (if_neg (ne_t hc)).mp h
    refine st_skip ?_
    refine st_seq ?_
    refine st_region ?_
    refine o_move rfl rfl rfl rfl ?_
    refine o_move rfl rfl rfl rfl ?_
    obtain ⟨r3, hr4, h⟩ := h
    refine st_call (foot := [[(ba0, .cells [v1, .int .i64 a0.2.1, .int .i64 a0.2.2].toArray 111 (0, 0))]]) rfl rfl rfl rfl rfl rfl (callV_fn z_en92 (lens_Lens_left_ok hr4 σ hs2)) ?_
    rintro vτ5 τ5 gsτ5 hl6 ⟨v7, rfl, rfl, hs8⟩
    obtain ⟨r9, hr10, h⟩ := h
    refine st_ord [1, 1, 0] [[(ba1_0, .cells [.int .i64 a1_0].toArray 3 (0, 0))], [(ba1_1, .cells [.int .u32 a1_1].toArray 22 (0, 0))], [(ba0, .cells [v1, .int .i64 a0.2.1, .int .i64 a0.2.2].toArray 111 (0, 0))]] rfl ?_
    refine st_call (foot := [[(ba1_0, .cells [.int .i64 a1_0].toArray 3 (0, 0))], [(ba1_1, .cells [.int .u32 a1_1].toArray 22 (0, 0))]]) rfl rfl rfl rfl rfl rfl (callV_of2 (caps := [.pointer (some ⟨ba1_0, 0, none⟩), .pointer (some ⟨ba1_1, 0, none⟩)]) z_en90 (lens_Lens_word_1_ok hr10 τ5 hs8) rfl) ?_
    rintro vτ11 τ11 gsτ11 hl12 ⟨rfl, rfl⟩
    refine o_move rfl rfl rfl rfl ?_
    refine o_extract rfl rfl rfl rfl rfl ?_
    refine o_extract rfl rfl rfl rfl rfl ?_
    refine o_assign rfl rfl rfl rfl ?_
    refine o_assign rfl rfl rfl rfl ?_
    refine st_end ?_
    refine st_seq ?_
    refine st_seq ?_
    refine st_region ?_
    refine o_move rfl rfl rfl rfl ?_
    refine o_ibin (v := .bool (!(decide (r9.2.1 = 0)))) rfl rfl rfl rfl rfl rfl ?_
    refine st_end ?_
    refine st_cond rfl (fun hc => ?_) (fun hc => ?_)
    · replace h := (if_pos hc).mp h
      refine st_seq ?_
      refine st_region ?_
      refine o_move rfl rfl rfl rfl ?_
      refine o_move rfl rfl rfl rfl ?_
      refine o_nilCheck rfl rfl rfl rfl ?_
      refine o_fieldAddr rfl rfl rfl z_field111_2 rfl ?_
      refine o_store (j := 2) (vs := [.int .i64 r9.2.1]) (cs' := [v1, .int .i64 a0.2.1, .int .i64 r9.2.1]) rfl rfl rfl z_size32 rfl rfl rfl (ones_cons rfl ones_nil) rfl rfl rfl ?_
      refine st_gs [[(ba1_0, .cells [.int .i64 a1_0].toArray 3 (0, 0))], [(ba1_1, .cells [.int .u32 r9.2.2].toArray 22 (0, 0))], [(ba0, .cells [v1, .int .i64 a0.2.1, .int .i64 r9.2.1].toArray 111 (0, 0))]] rfl ?_
      refine st_end ?_
      refine st_seq ?_
      refine st_region ?_
      refine o_assign rfl rfl rfl rfl ?_
      refine st_end ?_
      refine st_ord [2, 0, 0] [[(ba0, .cells [v1, .int .i64 a0.2.1, .int .i64 r9.2.1].toArray 111 (0, 0))], [(ba1_0, .cells [.int .i64 a1_0].toArray 3 (0, 0))], [(ba1_1, .cells [.int .u32 r9.2.2].toArray 22 (0, 0))]] rfl ?_
      obtain rfl := Eq.symm h
      exact st_ret (gs' := [[(ba0, .cells [v1, .int .i64 a0.2.1, .int .i64 r9.2.1].toArray 111 (0, 0))], [(ba1_0, .cells [.int .i64 a1_0].toArray 3 (0, 0))], [(ba1_1, .cells [.int .u32 r9.2.2].toArray 22 (0, 0))]]) Tryd.func89 rfl (List.Sublist.refl _) (hl6.trans hl12) ⟨_, rfl, rfl, (hs2.up (hl6.trans hl12))⟩
    · replace h := (if_neg (ne_t hc)).mp h
      refine st_skip ?_
      refine st_seq ?_
      refine st_region ?_
      refine o_move rfl rfl rfl rfl ?_
      refine o_nilCheck rfl rfl rfl rfl ?_
      refine o_fieldAddr rfl rfl rfl z_field111_1 rfl ?_
      refine o_load (j := 2) (v := .int .i64 a0.2.1) rfl rfl rfl z_sc3 rfl rfl rfl ?_
      refine o_move rfl rfl rfl rfl ?_
      refine o_ibin (v := .int .i64 (IntKind.i64.wrap (a0.2.1 + r9.1))) rfl rfl rfl rfl rfl rfl ?_
      refine o_nilCheck rfl rfl rfl rfl ?_
      refine o_fieldAddr rfl rfl rfl z_field111_1 rfl ?_
      refine o_store (j := 2) (vs := [.int .i64 (IntKind.i64.wrap (a0.2.1 + r9.1))]) (cs' := [v1, .int .i64 (IntKind.i64.wrap (a0.2.1 + r9.1)), .int .i64 a0.2.2]) rfl rfl rfl z_size3 rfl rfl rfl (ones_cons rfl ones_nil) rfl rfl rfl ?_
      refine st_gs [[(ba1_0, .cells [.int .i64 a1_0].toArray 3 (0, 0))], [(ba1_1, .cells [.int .u32 r9.2.2].toArray 22 (0, 0))], [(ba0, .cells [v1, .int .i64 (IntKind.i64.wrap (a0.2.1 + r9.1)), .int .i64 a0.2.2].toArray 111 (0, 0))]] rfl ?_
      refine st_end ?_
      refine st_seq ?_
      refine st_region ?_
      refine o_assign rfl rfl rfl rfl ?_
      refine st_end ?_
      refine st_ord [2, 0, 0] [[(ba0, .cells [v1, .int .i64 (IntKind.i64.wrap (a0.2.1 + r9.1)), .int .i64 a0.2.2].toArray 111 (0, 0))], [(ba1_0, .cells [.int .i64 a1_0].toArray 3 (0, 0))], [(ba1_1, .cells [.int .u32 r9.2.2].toArray 22 (0, 0))]] rfl ?_
      obtain rfl := Eq.symm h
      exact st_ret (gs' := [[(ba0, .cells [v1, .int .i64 (IntKind.i64.wrap (a0.2.1 + r9.1)), .int .i64 a0.2.2].toArray 111 (0, 0))], [(ba1_0, .cells [.int .i64 a1_0].toArray 3 (0, 0))], [(ba1_1, .cells [.int .u32 r9.2.2].toArray 22 (0, 0))]]) Tryd.func89 rfl (List.Sublist.refl _) (hl6.trans hl12) ⟨_, rfl, rfl, (hs2.up (hl6.trans hl12))⟩
theorem lens_Lens_word_ok {a0 : List Int × Int × Int} {a1 : Int} {ba0 : Nat} {v1 : Value} {r : Int × (List Int × Int × Int)} (h : lens_Lens_word a0 a1 r) (σ : Sto) (hs2 : Sl (kI .u8) σ v1 a0.1) :
    Does Tryd.prog 68 [.pointer (some ⟨ba0, 0, none⟩), .int .i64 a1] σ [[(ba0, .cells [v1, .int .i64 a0.2.1, .int .i64 a0.2.2].toArray 111 (0, 0))]] (fun v τ gs => ∃ (v11 : Value), gs = [[(ba0, .cells [v11, .int .i64 r.2.2.1, .int .i64 r.2.2.2].toArray 111 (0, 0))]] ∧ .int .u32 r.1 = v ∧ Sl (kI .u8) τ v11 r.2.1) := by
  refine call_of Tryd.func68 Tryd.ntmps68 rfl rfl (fun cs fs => ?_)
  refine st_seq ?_
  refine st_region ?_
  refine o_box (cs := [.int .i64 a1]) rfl rfl rfl rfl rfl (fun b3 => ?_)
  refine o_assign rfl rfl rfl rfl ?_
  refine st_end ?_
  refine st_seq ?_
  refine st_region ?_
  refine o_alloc rfl rfl rfl z_zero22 (fun b4 => ?_)
  refine o_store (j := 0) (vs := [.int .u32 0]) (cs' := [.int .u32 0]) rfl rfl rfl z_size22 rfl rfl rfl (ones_cons rfl ones_nil) rfl rfl rfl ?_
  refine st_gs [[(b4, .cells [.int .u32 0].toArray 22 (0, 0))], [(b3, .cells [.int .i64 a1].toArray 3 (0, 0))], [(ba0, .cells [v1, .int .i64 a0.2.1, .int .i64 a0.2.2].toArray 111 (0, 0))]] rfl ?_
  refine st_end ?_
  refine st_seq ?_
  refine st_region ?_
  refine o_move rfl rfl rfl rfl ?_
  refine o_func rfl rfl rfl rfl rfl ?_
  obtain ⟨r5, hr6, h⟩ := h
  refine st_ord [2, 1, 0] [[(ba0, .cells [v1, .int .i64 a0.2.1, .int .i64 a0.2.2].toArray 111 (0, 0))], [(b3, .cells [.int .i64 a1].toArray 3 (0, 0))], [(b4, .cells [.int .u32 0].toArray 22 (0, 0))]] rfl ?_
  refine st_call (foot := [[(ba0, .cells [v1, .int .i64 a0.2.1, .int .i64 a0.2.2].toArray 111 (0, 0))], [(b3, .cells [.int .i64 a1].toArray 3 (0, 0))], [(b4, .cells [.int .u32 0].toArray 22 (0, 0))]]) rfl rfl rfl rfl rfl rfl (callV_fn z_en89 (lens_Lens_read__lens_Lens_word_1_ok hr6 σ hs2)) ?_
  rintro vτ7 τ7 gsτ7 hl8 ⟨v9, rfl, rfl, hs10⟩
  refine st_end ?_
  refine st_seq ?_
  refine st_region ?_
  refine o_load (j := 2) (v := .int .u32 r5.2.2) rfl rfl rfl z_sc22 rfl rfl rfl ?_
  refine o_assign rfl rfl rfl rfl ?_
  refine st_end ?_
  refine st_ord [0] [[(ba0, .cells [v9, .int .i64 r5.2.1.2.1, .int .i64 r5.2.1.2.2].toArray 111 (0, 0))]] rfl ?_
  obtain rfl := Eq.symm h
  exact st_ret (gs' := [[(ba0, .cells [v9, .int .i64 r5.2.1.2.1, .int .i64 r5.2.1.2.2].toArray 111 (0, 0))]]) Tryd.func68 rfl (List.Sublist.refl _) hl8 ⟨_, rfl, rfl, hs10⟩
theorem lens_Lens_Err_ok {a0 : List Int × Int × Int} {ba0 : Nat} {v1 : Value} {r : Int} (h : lens_Lens_Err a0 r) (σ : Sto) (hs2 : Sl (kI .u8) σ v1 a0.1) :
    Does Tryd.prog 69 [.pointer (some ⟨ba0, 0, none⟩)] σ [[(ba0, .cells [v1, .int .i64 a0.2.1, .int .i64 a0.2.2].toArray 111 (0, 0))]] (fun v τ gs => gs = [[(ba0, .cells [v1, .int .i64 a0.2.1, .int .i64 a0.2.2].toArray 111 (0, 0))]] ∧ .int .i64 r = v) := by
  refine call_of Tryd.func69 Tryd.ntmps69 rfl rfl (fun cs fs => ?_)
  refine st_seq ?_
  refine st_region ?_
  refine o_assign rfl rfl rfl rfl ?_
  refine st_end ?_
  refine st_seq ?_
  refine st_seq ?_
  refine st_region ?_
  refine o_move rfl rfl rfl rfl ?_
  refine o_ptrNil (b := false) rfl rfl rfl Tryd.underlying72 rfl rfl rfl ?_
  refine st_end ?_
  refine st_condF rfl ?_
  refine st_skip ?_
  refine st_seq ?_
  refine st_region ?_
  refine o_move rfl rfl rfl rfl ?_
  refine o_nilCheck rfl rfl rfl rfl ?_
  refine o_fieldAddr rfl rfl rfl z_field111_2 rfl ?_
  refine o_load (j := 0) (v := .int .i64 a0.2.2) rfl rfl rfl z_sc32 rfl rfl rfl ?_
  refine o_assign rfl rfl rfl rfl ?_
  refine st_end ?_
  obtain rfl := Eq.symm h
  exact st_ret (gs' := [[(ba0, .cells [v1, .int .i64 a0.2.1, .int .i64 a0.2.2].toArray 111 (0, 0))]]) Tryd.func69 rfl (List.Sublist.refl _) (Sto.Le.refl _) ⟨rfl, rfl⟩
theorem lens_Lens_Left_ok {a0 : List Int × Int × Int} {ba0 : Nat} {v1 : Value} {r : Int} (h : lens_Lens_Left a0 r) (σ : Sto) (hs2 : Sl (kI .u8) σ v1 a0.1) :
    Does Tryd.prog 70 [.pointer (some ⟨ba0, 0, none⟩)] σ [[(ba0, .cells [v1, .int .i64 a0.2.1, .int .i64 a0.2.2].toArray 111 (0, 0))]] (fun v τ gs => gs = [[(ba0, .cells [v1, .int .i64 a0.2.1, .int .i64 a0.2.2].toArray 111 (0, 0))]] ∧ .int .i64 r = v) := by
  refine call_of Tryd.func70 Tryd.ntmps70 rfl rfl (fun cs fs => ?_)
  refine st_seq ?_
  refine st_region ?_
  refine o_assign rfl rfl rfl rfl ?_
  refine st_end ?_
  refine st_seq ?_
  refine st_seq ?_
  refine st_region ?_
  refine o_move rfl rfl rfl rfl ?_
  refine o_ptrNil (b := false) rfl rfl rfl Tryd.underlying72 rfl rfl rfl ?_
  refine st_end ?_
  refine st_condF rfl ?_
  refine st_skip ?_
  refine st_seq ?_
  refine st_region ?_
  refine o_move rfl rfl rfl rfl ?_
  obtain ⟨r3, hr4, h⟩ := h
  refine st_call (foot := [[(ba0, .cells [v1, .int .i64 a0.2.1, .int .i64 a0.2.2].toArray 111 (0, 0))]]) rfl rfl rfl rfl rfl rfl (callV_fn z_en92 (lens_Lens_left_ok hr4 σ hs2)) ?_
  rintro vτ5 τ5 gsτ5 hl6 ⟨v7, rfl, rfl, hs8⟩
  refine o_lenI rfl rfl rfl z_slT31 rfl hs8 ?_
  refine o_assign rfl rfl rfl rfl ?_
  refine st_end ?_
  obtain rfl := Eq.symm h
  exact st_ret (gs' := [[(ba0, .cells [v1, .int .i64 a0.2.1, .int .i64 a0.2.2].toArray 111 (0, 0))]]) Tryd.func70 rfl (List.Sublist.refl _) hl6 ⟨rfl, rfl⟩
theorem ref07_Digits_ok {a0 : Int} {r : ByteArray} (h : ref07_Digits a0 r) (σ : Sto)  :
    Does Tryd.prog 45 [.int .i64 a0] σ [] (fun v τ gs => gs = [] ∧ .string r = v) := by
  refine call_of Tryd.func45 Tryd.ntmps45 rfl rfl (fun cs fs => ?_)
  refine st_seq ?_
  refine st_region ?_
  refine o_assign rfl rfl rfl (ev_str z_str0) ?_
  refine st_end ?_
  refine st_seq ?_
  refine st_seq ?_
  refine st_region ?_
  refine o_move rfl rfl rfl rfl ?_
  refine o_ibin (v := .bool (decide (a0 < 0))) rfl rfl rfl rfl rfl rfl ?_
  refine st_end ?_
  refine st_cond rfl (fun hc => ?_) (fun hc => ?_)
  · replace h := (if_pos hc).mp h
    refine st_seq ?_
    refine st_region ?_
    refine o_assign rfl rfl rfl (ev_str z_str0) ?_
    refine st_end ?_
    refine st_seq ?_
    refine st_cut (fun ρ τ1 gs => ∃ (s1 : Int × ByteArray), ref07_Digits_j1 s1 r ∧ σ.Le τ1 ∧ ρ = [(0, .int .i64 s1.1), (2, .string (bstr [])), (3, .string s1.2)] ∧ gs = []) ?_ (fun hk1 => ?_)
    · rintro ρ1 τ1 gs1 ⟨s1, h, hl1, rfl, rfl⟩
      refine st_seq ?_
      refine st_region ?_
      refine o_move rfl rfl rfl rfl ?_
      obtain ⟨hf2, h⟩ := h
      refine o_sadd rfl rfl rfl (ev_str z_str8) rfl hf2 ?_
      refine o_assign rfl rfl rfl rfl ?_
      refine st_end ?_
      obtain rfl := Eq.symm h
      exact st_ret (gs' := []) Tryd.func45 rfl (List.Sublist.refl _) hl1 ⟨rfl, rfl⟩
    obtain ⟨e3, hL3, hA3⟩ := h
    refine st_env (ρ' := [(0, .int .i64 a0), (2, .string (bstr [])), (3, .string (bstr []))]) ⟨rfl, rfl, rfl, trivial⟩ ?_
    refine st_loop hL3 (fun (s3 : Int × ByteArray) ρ τ3 gs => σ.Le τ3 ∧ ρ = [(0, .int .i64 s3.1), (2, .string (bstr [])), (3, .string s3.2)] ∧ gs = []) ⟨Sto.Le.refl _, rfl, rfl⟩ ?_
    rintro s3 o3 h he3 ρ3 τ3 gs3 ⟨hl3, rfl, rfl⟩ hn3
    refine st_seq ?_
    refine st_seq ?_
    refine st_region ?_
    refine o_move rfl rfl rfl rfl ?_
    refine o_ibin (v := .bool (decide (s3.1 < 0))) rfl rfl rfl rfl rfl rfl ?_
    refine st_end ?_
    refine st_cond rfl (fun hc => ?_) (fun hc => ?_)
    · replace h := (if_pos hc).mp h
      refine st_skip ?_
      refine st_block ?_
      refine st_seq ?_
      refine st_region ?_
      refine o_move rfl rfl rfl rfl ?_
      refine o_rem rfl rfl rfl rfl rfl (by decide) ?_
      refine o_ibin (v := .int .i64 (IntKind.i64.wrap (48 - (s3.1.tmod 10)))) rfl rfl rfl rfl rfl rfl ?_
      refine o_conv rfl rfl rfl Tryd.underlying3 Tryd.underlying5 rfl ?_
      refine o_lit (dk := (kI .u8)) (xs := [(IntKind.u8.wrap (IntKind.i64.wrap (48 - (s3.1.tmod 10))))]) (ps := [(0, [.int .u8 (IntKind.u8.wrap (IntKind.i64.wrap (48 - (s3.1.tmod 10))))])]) (cs := [.int .u8 (IntKind.u8.wrap (IntKind.i64.wrap (48 - (s3.1.tmod 10))))]) rfl rfl rfl z_slT31 z_zero5 ⟨rfl, ⟨_, rfl, rfl⟩, trivial⟩ rfl rfl rfl rfl (Kd.Many.cons (a := [.int .u8 (IntKind.u8.wrap (IntKind.i64.wrap (48 - (s3.1.tmod 10))))]) rfl Kd.Many.nil) (fun v4 g5 ho6 => ?_)
      refine st_freeze (fun τ7 hl8 hg9 => ?_)
      have hs10 := ho6.freeze hl8 hg9
      refine o_bstr (xs := [(IntKind.u8.wrap (IntKind.i64.wrap (48 - (s3.1.tmod 10))))]) rfl rfl rfl Tryd.underlying31 Tryd.underlying5 Tryd.underlying9 rfl hs10 ?_
      refine o_move rfl rfl rfl rfl ?_
      obtain ⟨hf11, h⟩ := h
      refine o_sadd rfl rfl rfl rfl rfl hf11 ?_
      refine o_assign rfl rfl rfl rfl ?_
      refine st_end ?_
      refine st_region ?_
      refine o_move rfl rfl rfl rfl ?_
      refine o_quo rfl rfl rfl rfl rfl (by decide) ?_
      refine o_assign rfl rfl rfl rfl ?_
      refine st_end ?_
      refine st_inBlock ?_
      refine st_env (ρ' := [(0, .int .i64 (IntKind.i64.wrap (s3.1.tdiv 10))), (2, .string (bstr [])), (3, .string ((bstr [(IntKind.u8.wrap (IntKind.i64.wrap (48 - (s3.1.tmod 10))))]) ++ s3.2))]) ⟨rfl, rfl, rfl, trivial⟩ ?_
      exact hn3 _ _ _ _ h ⟨(hl3.trans hl8), rfl, rfl⟩
    · replace h := (if_neg (ne_t hc)).mp h
      refine st_exit rfl ?_
      obtain rfl := he3 _ h
      replace h := hA3
      refine st_env (ρ' := [(0, .int .i64 s3.1), (2, .string (bstr [])), (3, .string s3.2)]) ⟨rfl, rfl, rfl, trivial⟩ ?_
      exact hk1 _ _ _ ⟨(s3.1, s3.2), h, hl3, rfl, rfl⟩
  · replace h := (if_neg (ne_t hc)).mp h
    refine st_skip ?_
    refine st_seq ?_
    refine st_region ?_
    refine o_assign rfl rfl rfl (ev_str z_str0) ?_
    refine st_end ?_
    refine st_seq ?_
    refine st_cut (fun ρ τ13 gs => ∃ (s13 : Int × ByteArray), ref07_Digits_j3 s13 r ∧ σ.Le τ13 ∧ ρ = [(0, .int .i64 s13.1), (2, .string (bstr [])), (4, .string s13.2)] ∧ gs = []) ?_ (fun hk13 => ?_)
    · rintro ρ13 τ13 gs13 ⟨s13, h, hl13, rfl, rfl⟩
      refine st_seq ?_
      refine st_region ?_
      refine o_move rfl rfl rfl rfl ?_
      refine o_ibin (v := .int .i64 (IntKind.i64.wrap (48 + s13.1))) rfl rfl rfl rfl rfl rfl ?_
      refine o_conv rfl rfl rfl Tryd.underlying3 Tryd.underlying5 rfl ?_
      refine o_lit (dk := (kI .u8)) (xs := [(IntKind.u8.wrap (IntKind.i64.wrap (48 + s13.1)))]) (ps := [(0, [.int .u8 (IntKind.u8.wrap (IntKind.i64.wrap (48 + s13.1)))])]) (cs := [.int .u8 (IntKind.u8.wrap (IntKind.i64.wrap (48 + s13.1)))]) rfl rfl rfl z_slT31 z_zero5 ⟨rfl, ⟨_, rfl, rfl⟩, trivial⟩ rfl rfl rfl rfl (Kd.Many.cons (a := [.int .u8 (IntKind.u8.wrap (IntKind.i64.wrap (48 + s13.1)))]) rfl Kd.Many.nil) (fun v14 g15 ho16 => ?_)
      refine st_freeze (fun τ17 hl18 hg19 => ?_)
      have hs20 := ho16.freeze hl18 hg19
      refine o_bstr (xs := [(IntKind.u8.wrap (IntKind.i64.wrap (48 + s13.1)))]) rfl rfl rfl Tryd.underlying31 Tryd.underlying5 Tryd.underlying9 rfl hs20 ?_
      refine o_move rfl rfl rfl rfl ?_
      obtain ⟨hf21, h⟩ := h
      refine o_sadd rfl rfl rfl rfl rfl hf21 ?_
      refine o_assign rfl rfl rfl rfl ?_
      refine st_end ?_
      obtain rfl := Eq.symm h
      exact st_ret (gs' := []) Tryd.func45 rfl (List.Sublist.refl _) (hl13.trans hl18) ⟨rfl, rfl⟩
    obtain ⟨e22, hL22, hA22⟩ := h
    refine st_env (ρ' := [(0, .int .i64 a0), (2, .string (bstr [])), (4, .string (bstr []))]) ⟨rfl, rfl, rfl, trivial⟩ ?_
    refine st_loop hL22 (fun (s22 : Int × ByteArray) ρ τ22 gs => σ.Le τ22 ∧ ρ = [(0, .int .i64 s22.1), (2, .string (bstr [])), (4, .string s22.2)] ∧ gs = []) ⟨Sto.Le.refl _, rfl, rfl⟩ ?_
    rintro s22 o22 h he22 ρ22 τ22 gs22 ⟨hl22, rfl, rfl⟩ hn22
    refine st_seq ?_
    refine st_seq ?_
    refine st_region ?_
    refine o_move rfl rfl rfl rfl ?_
    refine o_ibin (v := .bool (decide (10 ≤ s22.1))) rfl rfl rfl rfl rfl rfl ?_
    refine st_end ?_
    refine st_cond rfl (fun hc => ?_) (fun hc => ?_)
    · replace h := (if_pos hc).mp h
      refine st_skip ?_
      refine st_block ?_
      refine st_seq ?_
      refine st_region ?_
      refine o_move rfl rfl rfl rfl ?_
      refine o_rem rfl rfl rfl rfl rfl (by decide) ?_
      refine o_ibin (v := .int .i64 (IntKind.i64.wrap (48 + (s22.1.tmod 10)))) rfl rfl rfl rfl rfl rfl ?_
      refine o_conv rfl rfl rfl Tryd.underlying3 Tryd.underlying5 rfl ?_
      refine o_lit (dk := (kI .u8)) (xs := [(IntKind.u8.wrap (IntKind.i64.wrap (48 + (s22.1.tmod 10))))]) (ps := [(0, [.int .u8 (IntKind.u8.wrap (IntKind.i64.wrap (48 + (s22.1.tmod 10))))])]) (cs := [.int .u8 (IntKind.u8.wrap (IntKind.i64.wrap (48 + (s22.1.tmod 10))))]) rfl rfl rfl z_slT31 z_zero5 ⟨rfl, ⟨_, rfl, rfl⟩, trivial⟩ rfl rfl rfl rfl (Kd.Many.cons (a := [.int .u8 (IntKind.u8.wrap (IntKind.i64.wrap (48 + (s22.1.tmod 10))))]) rfl Kd.Many.nil) (fun v23 g24 ho25 => ?_)
      refine st_freeze (fun τ26 hl27 hg28 => ?_)
      have hs29 := ho25.freeze hl27 hg28
      refine o_bstr (xs := [(IntKind.u8.wrap (IntKind.i64.wrap (48 + (s22.1.tmod 10))))]) rfl rfl rfl Tryd.underlying31 Tryd.underlying5 Tryd.underlying9 rfl hs29 ?_
      refine o_move rfl rfl rfl rfl ?_
      obtain ⟨hf30, h⟩ := h
      refine o_sadd rfl rfl rfl rfl rfl hf30 ?_
      refine o_assign rfl rfl rfl rfl ?_
      refine st_end ?_
      refine st_region ?_
      refine o_move rfl rfl rfl rfl ?_
      refine o_quo rfl rfl rfl rfl rfl (by decide) ?_
      refine o_assign rfl rfl rfl rfl ?_
      refine st_end ?_
      refine st_inBlock ?_
      refine st_env (ρ' := [(0, .int .i64 (IntKind.i64.wrap (s22.1.tdiv 10))), (2, .string (bstr [])), (4, .string ((bstr [(IntKind.u8.wrap (IntKind.i64.wrap (48 + (s22.1.tmod 10))))]) ++ s22.2))]) ⟨rfl, rfl, rfl, trivial⟩ ?_
      exact hn22 _ _ _ _ h ⟨(hl22.trans hl27), rfl, rfl⟩
    · replace h := (if_neg (ne_t hc)).mp h
      refine st_exit rfl ?_
      obtain rfl := he22 _ h
      replace h := hA22
      refine st_env (ρ' := [(0, .int .i64 s22.1), (2, .string (bstr [])), (4, .string s22.2)]) ⟨rfl, rfl, rfl, trivial⟩ ?_
      exact hk13 _ _ _ ⟨(s22.1, s22.2), h, hl22, rfl, rfl⟩
theorem ref02_Word_ok {a0 : Int} {a1 : Int} {r : List Int} (h : ref02_Word a0 a1 r) (σ : Sto)  :
    Does Tryd.prog 46 [.int .u32 a0, .int .i64 a1] σ [] (fun v τ gs => ∃ (v24 : Value), gs = [] ∧ v24 = v ∧ Sl (kI .u8) τ v24 r) := by
  refine call_of Tryd.func46 Tryd.ntmps46 rfl rfl (fun cs fs => ?_)
  refine st_seq ?_
  refine st_region ?_
  refine o_assign rfl rfl rfl rfl ?_
  refine st_end ?_
  refine st_seq ?_
  refine st_region ?_
  refine o_assign rfl rfl rfl rfl ?_
  refine st_end ?_
  refine st_seq ?_
  refine st_cut (fun ρ τ1 gs => ∃ (s1 : List Int) (v2 : Value) (g3 : Grp), ref02_Word_j1 s1 r ∧ σ.Le τ1 ∧ ρ = [(4, .slice none 0 0), (5, v2)] ∧ gs = [g3] ∧ Ow (kI .u8) 5 τ1 v2 s1 g3) ?_ (fun hk1 => ?_)
  · rintro ρ1 τ1 gs1 ⟨s1, v2, g3, h, hl1, rfl, rfl, ho4⟩
    refine st_seq ?_
    refine st_region ?_
    refine o_move rfl rfl rfl rfl ?_
    refine o_assign rfl rfl rfl rfl ?_
    refine st_end ?_
    refine st_freeze (fun τ5 hl6 hg7 => ?_)
    have hs8 := ho4.freeze hl6 hg7
    obtain rfl := Eq.symm h
    exact st_ret (gs' := []) Tryd.func46 rfl (List.Sublist.refl _) (hl1.trans hl6) ⟨_, rfl, rfl, hs8⟩
  refine st_seq ?_
  refine st_region ?_
  refine o_assign rfl rfl rfl rfl ?_
  refine st_end ?_
  obtain ⟨e11, hL11, hA11⟩ := h
  refine st_env (ρ' := [(0, .int .u32 a0), (1, .int .i64 a1), (4, .slice none 0 0), (5, .slice none 0 0), (6, .int .i64 0)]) ⟨rfl, rfl, rfl, rfl, rfl, trivial⟩ ?_
  refine st_addNil ?_
  refine st_loop hL11 (fun (s11 : Int × List Int × Int) ρ τ11 gs => σ.Le τ11 ∧ ∃ (v12 : Value) (g13 : Grp), ρ = [(0, .int .u32 s11.1), (1, .int .i64 a1), (4, .slice none 0 0), (5, v12), (6, .int .i64 s11.2.2)] ∧ gs = [g13] ∧ Ow (kI .u8) 5 τ11 v12 s11.2.1 g13) ⟨Sto.Le.refl _, _, _, rfl, rfl, Ow.nil⟩ ?_
  rintro s11 o11 h he11 ρ11 τ11 gs11 ⟨hl11, v12, g13, rfl, rfl, ho14⟩ hn11
  refine st_seq ?_
  refine st_seq ?_
  refine st_region ?_
  refine o_move rfl rfl rfl rfl ?_
  refine o_move rfl rfl rfl rfl ?_
  refine o_ibin (v := .bool (decide (s11.2.2 < a1))) rfl rfl rfl rfl rfl rfl ?_
  refine st_end ?_
  refine st_cond rfl (fun hc => ?_) (fun hc => ?_)
  · replace h := (if_pos hc).mp h
    refine st_skip ?_
    refine st_seq ?_
    refine st_block ?_
    refine st_seq ?_
    refine st_region ?_
    refine o_move rfl rfl rfl rfl ?_
    refine o_move rfl rfl rfl rfl ?_
    refine o_rem rfl rfl rfl rfl rfl (by decide) ?_
    refine o_conv rfl rfl rfl Tryd.underlying22 Tryd.underlying5 rfl ?_
    refine o_lit (dk := (kI .u8)) (xs := [(IntKind.u8.wrap (s11.1.tmod 256))]) (ps := [(0, [.int .u8 (IntKind.u8.wrap (s11.1.tmod 256))])]) (cs := [.int .u8 (IntKind.u8.wrap (s11.1.tmod 256))]) rfl rfl rfl z_slT31 z_zero5 ⟨rfl, ⟨_, rfl, rfl⟩, trivial⟩ rfl rfl rfl rfl (Kd.Many.cons (a := [.int .u8 (IntKind.u8.wrap (s11.1.tmod 256))]) rfl Kd.Many.nil) (fun v15 g16 ho17 => ?_)
    obtain ⟨hf21, h⟩ := h
    obtain ⟨hf22, h⟩ := h
    refine st_ord [1, 0] [g13, g16] rfl ?_
    refine o_append (dk := (kI .u8)) (xs := s11.2.1) (ys := [(IntKind.u8.wrap (s11.1.tmod 256))]) rfl rfl rfl rfl z_slT31 rfl ho14 rfl (Ow.src (j := 1) ho17 rfl) hf21 hf22 (fun v18 g19 ho20 => ?_)
    refine o_assign rfl rfl rfl rfl ?_
    refine st_end ?_
    refine st_region ?_
    refine o_move rfl rfl rfl rfl ?_
    refine o_quo rfl rfl rfl rfl rfl (by decide) ?_
    refine o_assign rfl rfl rfl rfl ?_
    refine st_end ?_
    refine st_inBlock ?_
    refine st_region ?_
    refine o_move rfl rfl rfl rfl ?_
    refine o_ibin (v := .int .i64 (IntKind.i64.wrap (s11.2.2 + 1))) rfl rfl rfl rfl rfl rfl ?_
    refine o_assign rfl rfl rfl rfl ?_
    refine st_end ?_
    refine st_env (ρ' := [(0, .int .u32 (IntKind.u32.wrap (s11.1.tdiv 256))), (1, .int .i64 a1), (4, .slice none 0 0), (5, v18), (6, .int .i64 (IntKind.i64.wrap (s11.2.2 + 1)))]) ⟨rfl, rfl, rfl, rfl, rfl, trivial⟩ ?_
    refine st_ord [0] [g19] rfl ?_
    exact hn11 _ _ _ _ h ⟨hl11, _, _, rfl, rfl, ho20⟩
  · replace h := (if_neg (ne_t hc)).mp h
    refine st_exit rfl ?_
    obtain rfl := he11 _ h
    replace h := hA11
    refine st_env (ρ' := [(4, .slice none 0 0), (5, v12)]) ⟨rfl, rfl, trivial⟩ ?_
    exact hk1 _ _ _ ⟨s11.2.1, _, _, h, hl11, rfl, rfl, ho14⟩
theorem pen_New_ok {a0 : Int} {r : ((List Int × Int × Bool))} (h : pen_New a0 r) (σ : Sto)  :
    Does Tryd.prog 47 [.int .i64 a0] σ [] (fun v τ gs => ∃ (b2 : Nat) (v3 : Value) (g4 : Grp), gs = [[(b2, .cells [v3, .int .i64 r.2.1, .bool r.2.2].toArray 118 (0, 0))], g4] ∧ .pointer (some ⟨b2, 0, none⟩) = v ∧ Ow (kI .u8) 5 τ v3 r.1 g4) := by
  refine call_of Tryd.func47 Tryd.ntmps47 rfl rfl (fun cs fs => ?_)
  refine st_seq ?_
  refine st_region ?_
  refine o_assign rfl rfl rfl rfl ?_
  refine st_end ?_
  refine st_seq ?_
  refine st_region ?_
  refine o_move rfl rfl rfl rfl ?_
  refine o_max2 rfl rfl rfl rfl rfl ?_
  refine o_build (ps := [(1, [.int .i64 (max a0 0)])]) (cs := [.slice none 0 0, .int .i64 (max a0 0), .bool false]) rfl rfl rfl z_struct116 ⟨rfl, ⟨_, rfl, rfl⟩, trivial⟩ rfl ?_
  refine o_build (ps := [(0, [.slice none 0 0, .int .i64 (max a0 0), .bool false])]) (cs := [.slice none 0 0, .int .i64 (max a0 0), .bool false]) rfl rfl rfl z_struct118 ⟨rfl, ⟨_, rfl, rfl⟩, trivial⟩ rfl ?_
  refine o_box (cs := [.slice none 0 0, .int .i64 (max a0 0), .bool false]) rfl rfl rfl rfl rfl (fun b1 => ?_)
  refine o_assign rfl rfl rfl rfl ?_
  refine st_end ?_
  refine st_addNil ?_
  refine st_ord [1, 0] [[(b1, .cells [.slice none 0 0, .int .i64 (max a0 0), .bool false].toArray 118 (0, 0))], []] rfl ?_
  obtain rfl := Eq.symm h
  exact st_ret (gs' := [[(b1, .cells [.slice none 0 0, .int .i64 (max a0 0), .bool false].toArray 118 (0, 0))], []]) Tryd.func47 rfl (List.Sublist.refl _) (Sto.Le.refl _) ⟨_, _, _, rfl, rfl, Ow.nil⟩
theorem pen_Pen_Raw_ok {a0 : (List Int × Int × Bool)} {a1 : List Int} {ba0 : Nat} {v1 : Value} {g2 : Grp} {v4 : Value} {r : Int × ((List Int × Int × Bool))} (h : pen_Pen_Raw a0 a1 r) (σ : Sto) (ho3 : Ow (kI .u8) 5 σ v1 a0.1 g2) (hs5 : Sl (kI .u8) σ v4 a1) :
    Does Tryd.prog 98 [.pointer (some ⟨ba0, 0, none⟩), v4] σ [[(ba0, .cells [v1, .int .i64 a0.2.1, .bool a0.2.2].toArray 118 (0, 0))], g2] (fun v τ gs => ∃ (v12 : Value) (g13 : Grp), gs = [[(ba0, .cells [v12, .int .i64 r.2.2.1, .bool r.2.2.2].toArray 118 (0, 0))], g13] ∧ .int .i64 r.1 = v ∧ Ow (kI .u8) 5 τ v12 r.2.1 g13) := by
  refine call_of Tryd.func98 Tryd.ntmps98 rfl rfl (fun cs fs => ?_)
  refine st_seq ?_
  refine st_region ?_
  refine o_assign rfl rfl rfl rfl ?_
  refine st_end ?_
  refine st_seq ?_
  refine st_block ?_
  refine st_seq ?_
  refine st_region ?_
  refine o_move rfl rfl rfl rfl ?_
  refine o_ptrNil (b := false) rfl rfl rfl Tryd.underlying85 rfl rfl rfl ?_
  refine o_assign rfl rfl rfl rfl ?_
  refine st_end ?_
  refine st_condF rfl ?_
  refine st_seq ?_
  refine st_draw 23 (tl [fun τ v => (.pointer (some ⟨ba0, 0, none⟩) : Value) = v,
    fun τ v => (.pointer (some ⟨ba0, 0, none⟩) : Value) = v,
    fun τ v => (.pointer (some ⟨ba0, 0, none⟩) : Value) = v,
    fun τ v => (.pointer (some ⟨ba0, 2, none⟩) : Value) = v,
    fun τ v => (.bool a0.2.2 : Value) = v,
    fun τ v => (.bool a0.2.2 : Value) = v,
    fun τ v => ((a0.2.2 = false) → (v4 : Value) = v) ∧ (¬ (a0.2.2 = false) → v = undef),
    fun τ v => ((a0.2.2 = false) → (.int .i64 (a1.length : Int) : Value) = v) ∧ (¬ (a0.2.2 = false) → v = undef),
    fun τ v => ((a0.2.2 = false) → (.pointer (some ⟨ba0, 0, none⟩) : Value) = v) ∧ (¬ (a0.2.2 = false) → v = undef),
    fun τ v => ((a0.2.2 = false) → (.pointer (some ⟨ba0, 0, none⟩) : Value) = v) ∧ (¬ (a0.2.2 = false) → v = undef),
    fun τ v => ((a0.2.2 = false) → (.pointer (some ⟨ba0, 0, none⟩) : Value) = v) ∧ (¬ (a0.2.2 = false) → v = undef),
    fun τ v => ((a0.2.2 = false) → (.pointer (some ⟨ba0, 1, none⟩) : Value) = v) ∧ (¬ (a0.2.2 = false) → v = undef),
    fun τ v => ((a0.2.2 = false) → (.int .i64 a0.2.1 : Value) = v) ∧ (¬ (a0.2.2 = false) → v = undef),
    fun τ v => ((a0.2.2 = false) → (.pointer (some ⟨ba0, 0, none⟩) : Value) = v) ∧ (¬ (a0.2.2 = false) → v = undef),
    fun τ v => ((a0.2.2 = false) → (.pointer (some ⟨ba0, 0, none⟩) : Value) = v) ∧ (¬ (a0.2.2 = false) → v = undef),
    fun τ v => ((a0.2.2 = false) → (.pointer (some ⟨ba0, 0, none⟩) : Value) = v) ∧ (¬ (a0.2.2 = false) → v = undef),
    fun τ v => ((a0.2.2 = false) → (.pointer (some ⟨ba0, 0, none⟩) : Value) = v) ∧ (¬ (a0.2.2 = false) → v = undef),
    fun τ v => ((a0.2.2 = false) → (v1 : Value) = v) ∧ (¬ (a0.2.2 = false) → v = undef),
    fun τ v => ((a0.2.2 = false) → (.int .i64 (a0.1.length : Int) : Value) = v) ∧ (¬ (a0.2.2 = false) → v = undef),
    fun τ v => ((a0.2.2 = false) → (.int .i64 (IntKind.i64.wrap (a0.2.1 - (a0.1.length : Int))) : Value) = v) ∧ (¬ (a0.2.2 = false) → v = undef),
    fun τ v => ((a0.2.2 = false) → (.bool (decide ((IntKind.i64.wrap (a0.2.1 - (a0.1.length : Int))) < (a1.length : Int))) : Value) = v) ∧ (¬ (a0.2.2 = false) → v = undef),
    fun τ v => (.bool (a0.2.2 || (decide ((IntKind.i64.wrap (a0.2.1 - (a0.1.length : Int))) < (a1.length : Int)))) : Value) = v,
    fun τ v => (.bool (a0.2.2 || (decide ((IntKind.i64.wrap (a0.2.1 - (a0.1.length : Int))) < (a1.length : Int)))) : Value) = v]) (fun _ _ => []) z_mix rfl (tl_mono ⟨fun _ _ _ _ h => h, ⟨fun _ _ _ _ h => h, ⟨fun _ _ _ _ h => h, ⟨fun _ _ _ _ h => h, ⟨fun _ _ _ _ h => h, ⟨fun _ _ _ _ h => h, ⟨fun _ _ _ _ h => h, ⟨fun _ _ _ _ h => h, ⟨fun _ _ _ _ h => h, ⟨fun _ _ _ _ h => h, ⟨fun _ _ _ _ h => h, ⟨fun _ _ _ _ h => h, ⟨fun _ _ _ _ h => h, ⟨fun _ _ _ _ h => h, ⟨fun _ _ _ _ h => h, ⟨fun _ _ _ _ h => h, ⟨fun _ _ _ _ h => h, ⟨fun _ _ _ _ h => h, ⟨fun _ _ _ _ h => h, ⟨fun _ _ _ _ h => h, ⟨fun _ _ _ _ h => h, ⟨fun _ _ _ _ h => h, ⟨fun _ _ _ _ h => h, trivial⟩⟩⟩⟩⟩⟩⟩⟩⟩⟩⟩⟩⟩⟩⟩⟩⟩⟩⟩⟩⟩⟩⟩) (allB_cons (allB_cons (allB_cons (allB_cons (allB_cons (allB_cons (allB_cons (allB_cons (allB_cons (allB_cons (allB_cons (allB_cons (allB_cons (allB_cons (allB_cons (allB_cons (allB_cons (allB_cons (allB_cons (allB_cons (allB_cons (allB_cons (allB_cons allB_nil ?_) ?_) ?_) ?_) ?_) ?_) ?_) ?_) ?_) ?_) ?_) ?_) ?_) ?_) ?_) ?_) ?_) ?_) ?_) ?_) ?_) ?_) ?_) ?_
  · intro ρ' τ pool rs hl hd hout hk
    refine o_move rfl rfl rfl ((hout 0 rfl).trans rfl) ?_
    exact st_addNil (hk _ _ (Sto.Le.refl _) rfl)
  · intro ρ' τ pool rs hl hd hout hk
    obtain ⟨_, e0, rfl⟩ := hd 0 rfl
    refine o_nilCheck rfl rfl rfl e0 ?_
    exact st_addNil (hk _ _ (Sto.Le.refl _) rfl)
  · intro ρ' τ pool rs hl hd hout hk
    obtain ⟨_, e1, rfl⟩ := hd 1 rfl
    refine o_fieldAddr rfl rfl rfl z_field118_0 e1 ?_
    exact st_addNil (hk _ _ (Sto.Le.refl _) rfl)
  · intro ρ' τ pool rs hl hd hout hk
    obtain ⟨_, e2, rfl⟩ := hd 2 rfl
    refine o_fieldAddr rfl rfl rfl z_field116_2 e2 ?_
    exact st_addNil (hk _ _ (Sto.Le.refl _) rfl)
  · intro ρ' τ pool rs hl hd hout hk
    obtain ⟨_, e3, rfl⟩ := hd 3 rfl
    refine o_load (j := 0) (v := .bool a0.2.2) rfl rfl rfl z_sc4 e3 rfl rfl ?_
    exact st_addNil (hk _ _ (Sto.Le.refl _) rfl)
  · intro ρ' τ pool rs hl hd hout hk
    obtain ⟨_, e4, rfl⟩ := hd 4 rfl
    refine o_move rfl rfl rfl e4 ?_
    exact st_addNil (hk _ _ (Sto.Le.refl _) rfl)
  · intro ρ' τ pool rs hl hd hout hk
    obtain ⟨_, e5, rfl⟩ := hd 5 rfl
    by_cases hG : a0.2.2 = false
    · have hC := hG
      refine o_move rfl (wants_of rfl e5 hG) rfl ((hout 1 rfl).trans rfl) ?_
      exact st_addNil (hk _ _ (Sto.Le.refl _) ⟨fun _ => rfl, fun hn => absurd hC hn⟩)
    · refine st_pass rfl rfl rfl e5 (beq_off hG) rfl ?_
      exact st_addNil (hk _ _ (Sto.Le.refl _) ⟨fun h => absurd h hG, fun _ => rfl⟩)
  · intro ρ' τ pool rs hl hd hout hk
    obtain ⟨_, e5, rfl⟩ := hd 5 rfl
    obtain ⟨w6, e6, t6⟩ := hd 6 rfl
    by_cases hG : a0.2.2 = false
    · have hC := hG
      obtain ⟨rfl⟩ := t6.1 hC
      refine o_lenI rfl (wants_of rfl e5 hG) rfl z_slT31 e6 (hs5.up hl) ?_
      exact st_addNil (hk _ _ (Sto.Le.refl _) ⟨fun _ => rfl, fun hn => absurd hC hn⟩)
    · refine st_pass rfl rfl rfl e5 (beq_off hG) rfl ?_
      exact st_addNil (hk _ _ (Sto.Le.refl _) ⟨fun h => absurd h hG, fun _ => rfl⟩)
  · intro ρ' τ pool rs hl hd hout hk
    obtain ⟨_, e5, rfl⟩ := hd 5 rfl
    by_cases hG : a0.2.2 = false
    · have hC := hG
      refine o_move rfl (wants_of rfl e5 hG) rfl ((hout 0 rfl).trans rfl) ?_
      exact st_addNil (hk _ _ (Sto.Le.refl _) ⟨fun _ => rfl, fun hn => absurd hC hn⟩)
    · refine st_pass rfl rfl rfl e5 (beq_off hG) rfl ?_
      exact st_addNil (hk _ _ (Sto.Le.refl _) ⟨fun h => absurd h hG, fun _ => rfl⟩)
  · intro ρ' τ pool rs hl hd hout hk
    obtain ⟨_, e5, rfl⟩ := hd 5 rfl
    obtain ⟨w8, e8, t8⟩ := hd 8 rfl
    by_cases hG : a0.2.2 = false
    · have hC := hG
      obtain ⟨rfl⟩ := t8.1 hC
      refine o_nilCheck rfl (wants_of rfl e5 hG) rfl e8 ?_
      exact st_addNil (hk _ _ (Sto.Le.refl _) ⟨fun _ => rfl, fun hn => absurd hC hn⟩)
    · refine st_pass rfl rfl rfl e5 (beq_off hG) rfl ?_
      exact st_addNil (hk _ _ (Sto.Le.refl _) ⟨fun h => absurd h hG, fun _ => rfl⟩)
  · intro ρ' τ pool rs hl hd hout hk
    obtain ⟨_, e5, rfl⟩ := hd 5 rfl
    obtain ⟨w9, e9, t9⟩ := hd 9 rfl
    by_cases hG : a0.2.2 = false
    · have hC := hG
      obtain ⟨rfl⟩ := t9.1 hC
      refine o_fieldAddr rfl (wants_of rfl e5 hG) rfl z_field118_0 e9 ?_
      exact st_addNil (hk _ _ (Sto.Le.refl _) ⟨fun _ => rfl, fun hn => absurd hC hn⟩)
    · refine st_pass rfl rfl rfl e5 (beq_off hG) rfl ?_
      exact st_addNil (hk _ _ (Sto.Le.refl _) ⟨fun h => absurd h hG, fun _ => rfl⟩)
  · intro ρ' τ pool rs hl hd hout hk
    obtain ⟨_, e5, rfl⟩ := hd 5 rfl
    obtain ⟨w10, e10, t10⟩ := hd 10 rfl
    by_cases hG : a0.2.2 = false
    · have hC := hG
      obtain ⟨rfl⟩ := t10.1 hC
      refine o_fieldAddr rfl (wants_of rfl e5 hG) rfl z_field116_1 e10 ?_
      exact st_addNil (hk _ _ (Sto.Le.refl _) ⟨fun _ => rfl, fun hn => absurd hC hn⟩)
    · refine st_pass rfl rfl rfl e5 (beq_off hG) rfl ?_
      exact st_addNil (hk _ _ (Sto.Le.refl _) ⟨fun h => absurd h hG, fun _ => rfl⟩)
  · intro ρ' τ pool rs hl hd hout hk
    obtain ⟨_, e5, rfl⟩ := hd 5 rfl
    obtain ⟨w11, e11, t11⟩ := hd 11 rfl
    by_cases hG : a0.2.2 = false
    · have hC := hG
      obtain ⟨rfl⟩ := t11.1 hC
      refine o_load (j := 0) (v := .int .i64 a0.2.1) rfl (wants_of rfl e5 hG) rfl z_sc3 e11 rfl rfl ?_
      exact st_addNil (hk _ _ (Sto.Le.refl _) ⟨fun _ => rfl, fun hn => absurd hC hn⟩)
    · refine st_pass rfl rfl rfl e5 (beq_off hG) rfl ?_
      exact st_addNil (hk _ _ (Sto.Le.refl _) ⟨fun h => absurd h hG, fun _ => rfl⟩)
  · intro ρ' τ pool rs hl hd hout hk
    obtain ⟨_, e5, rfl⟩ := hd 5 rfl
    by_cases hG : a0.2.2 = false
    · have hC := hG
      refine o_move rfl (wants_of rfl e5 hG) rfl ((hout 0 rfl).trans rfl) ?_
      exact st_addNil (hk _ _ (Sto.Le.refl _) ⟨fun _ => rfl, fun hn => absurd hC hn⟩)
    · refine st_pass rfl rfl rfl e5 (beq_off hG) rfl ?_
      exact st_addNil (hk _ _ (Sto.Le.refl _) ⟨fun h => absurd h hG, fun _ => rfl⟩)
  · intro ρ' τ pool rs hl hd hout hk
    obtain ⟨_, e5, rfl⟩ := hd 5 rfl
    obtain ⟨w13, e13, t13⟩ := hd 13 rfl
    by_cases hG : a0.2.2 = false
    · have hC := hG
      obtain ⟨rfl⟩ := t13.1 hC
      refine o_nilCheck rfl (wants_of rfl e5 hG) rfl e13 ?_
      exact st_addNil (hk _ _ (Sto.Le.refl _) ⟨fun _ => rfl, fun hn => absurd hC hn⟩)
    · refine st_pass rfl rfl rfl e5 (beq_off hG) rfl ?_
      exact st_addNil (hk _ _ (Sto.Le.refl _) ⟨fun h => absurd h hG, fun _ => rfl⟩)
  · intro ρ' τ pool rs hl hd hout hk
    obtain ⟨_, e5, rfl⟩ := hd 5 rfl
    obtain ⟨w14, e14, t14⟩ := hd 14 rfl
    by_cases hG : a0.2.2 = false
    · have hC := hG
      obtain ⟨rfl⟩ := t14.1 hC
      refine o_fieldAddr rfl (wants_of rfl e5 hG) rfl z_field118_0 e14 ?_
      exact st_addNil (hk _ _ (Sto.Le.refl _) ⟨fun _ => rfl, fun hn => absurd hC hn⟩)
    · refine st_pass rfl rfl rfl e5 (beq_off hG) rfl ?_
      exact st_addNil (hk _ _ (Sto.Le.refl _) ⟨fun h => absurd h hG, fun _ => rfl⟩)
  · intro ρ' τ pool rs hl hd hout hk
    obtain ⟨_, e5, rfl⟩ := hd 5 rfl
    obtain ⟨w15, e15, t15⟩ := hd 15 rfl
    by_cases hG : a0.2.2 = false
    · have hC := hG
      obtain ⟨rfl⟩ := t15.1 hC
      refine o_fieldAddr rfl (wants_of rfl e5 hG) rfl z_field116_0 e15 ?_
      exact st_addNil (hk _ _ (Sto.Le.refl _) ⟨fun _ => rfl, fun hn => absurd hC hn⟩)
    · refine st_pass rfl rfl rfl e5 (beq_off hG) rfl ?_
      exact st_addNil (hk _ _ (Sto.Le.refl _) ⟨fun h => absurd h hG, fun _ => rfl⟩)
  · intro ρ' τ pool rs hl hd hout hk
    obtain ⟨_, e5, rfl⟩ := hd 5 rfl
    obtain ⟨w16, e16, t16⟩ := hd 16 rfl
    by_cases hG : a0.2.2 = false
    · have hC := hG
      obtain ⟨rfl⟩ := t16.1 hC
      refine o_load (j := 0) (v := v1) rfl (wants_of rfl e5 hG) rfl z_sc31 e16 rfl rfl ?_
      exact st_addNil (hk _ _ (Sto.Le.refl _) ⟨fun _ => rfl, fun hn => absurd hC hn⟩)
    · refine st_pass rfl rfl rfl e5 (beq_off hG) rfl ?_
      exact st_addNil (hk _ _ (Sto.Le.refl _) ⟨fun h => absurd h hG, fun _ => rfl⟩)
  · intro ρ' τ pool rs hl hd hout hk
    obtain ⟨_, e5, rfl⟩ := hd 5 rfl
    obtain ⟨w17, e17, t17⟩ := hd 17 rfl
    by_cases hG : a0.2.2 = false
    · have hC := hG
      obtain ⟨rfl⟩ := t17.1 hC
      refine o_lenO rfl (wants_of rfl e5 hG) rfl z_slT31 e17 (ho3.up hl) ?_
      exact st_addNil (hk _ _ (Sto.Le.refl _) ⟨fun _ => rfl, fun hn => absurd hC hn⟩)
    · refine st_pass rfl rfl rfl e5 (beq_off hG) rfl ?_
      exact st_addNil (hk _ _ (Sto.Le.refl _) ⟨fun h => absurd h hG, fun _ => rfl⟩)
  · intro ρ' τ pool rs hl hd hout hk
    obtain ⟨_, e5, rfl⟩ := hd 5 rfl
    obtain ⟨w12, e12, t12⟩ := hd 12 rfl
    obtain ⟨w18, e18, t18⟩ := hd 18 rfl
    by_cases hG : a0.2.2 = false
    · have hC := hG
      obtain ⟨rfl⟩ := t18.1 hC
      obtain ⟨rfl⟩ := t12.1 hC
      refine o_ibin (v := .int .i64 (IntKind.i64.wrap (a0.2.1 - (a0.1.length : Int)))) rfl (wants_of rfl e5 hG) rfl e12 e18 rfl ?_
      exact st_addNil (hk _ _ (Sto.Le.refl _) ⟨fun _ => rfl, fun hn => absurd hC hn⟩)
    · refine st_pass rfl rfl rfl e5 (beq_off hG) rfl ?_
      exact st_addNil (hk _ _ (Sto.Le.refl _) ⟨fun h => absurd h hG, fun _ => rfl⟩)
  · intro ρ' τ pool rs hl hd hout hk
    obtain ⟨_, e5, rfl⟩ := hd 5 rfl
    obtain ⟨w7, e7, t7⟩ := hd 7 rfl
    obtain ⟨w19, e19, t19⟩ := hd 19 rfl
    by_cases hG : a0.2.2 = false
    · have hC := hG
      obtain ⟨rfl⟩ := t7.1 hC
      obtain ⟨rfl⟩ := t19.1 hC
      refine o_ibin (v := .bool (decide ((IntKind.i64.wrap (a0.2.1 - (a0.1.length : Int))) < (a1.length : Int)))) rfl (wants_of rfl e5 hG) rfl e7 e19 rfl ?_
      exact st_addNil (hk _ _ (Sto.Le.refl _) ⟨fun _ => rfl, fun hn => absurd hC hn⟩)
    · refine st_pass rfl rfl rfl e5 (beq_off hG) rfl ?_
      exact st_addNil (hk _ _ (Sto.Le.refl _) ⟨fun h => absurd h hG, fun _ => rfl⟩)
  · intro ρ' τ pool rs hl hd hout hk
    obtain ⟨_, e5, rfl⟩ := hd 5 rfl
    obtain ⟨w20, e20, t20⟩ := hd 20 rfl
    refine o_pickOr rfl rfl rfl e5 rfl (fun hp => e20.trans (congrArg some (Eq.symm (t20.1 hp)))) ?_
    exact st_addNil (hk _ _ (Sto.Le.refl _) rfl)
  · intro ρ' τ pool rs hl hd hout hk
    obtain ⟨_, e21, rfl⟩ := hd 21 rfl
    refine o_assign rfl rfl rfl e21 ?_
    exact st_addNil (hk _ _ (Sto.Le.refl _) rfl)
  intro ρ' τ6 vals hl6 hv hout
  have l22 : Eng.look ρ' 8 = some (.bool (a0.2.2 || (decide ((IntKind.i64.wrap (a0.2.1 - (a0.1.length : Int))) < (a1.length : Int))))) := (hv 22 (by decide)).1.trans (congrArg some (show vals 22 = .bool (a0.2.2 || (decide ((IntKind.i64.wrap (a0.2.1 - (a0.1.length : Int))) < (a1.length : Int)))) from Eq.symm (hv 22 (by decide)).2))
  refine st_ord [0, 0] [[(ba0, .cells [v1, .int .i64 a0.2.1, .bool a0.2.2].toArray 118 (0, 0))], g2] rfl ?_
  refine st_env (ρ' := [(8, .bool (a0.2.2 || (decide ((IntKind.i64.wrap (a0.2.1 - (a0.1.length : Int))) < (a1.length : Int))))), (0, .pointer (some ⟨ba0, 0, none⟩)), (1, v4), (4, .int .i64 0)]) ⟨l22, (hout 0 rfl).trans rfl, (hout 1 rfl).trans rfl, (hout 4 rfl).trans rfl, trivial⟩ ?_
  refine st_end ?_
  refine st_cond rfl (fun hc => ?_) (fun hc => ?_)
  · replace h := (if_pos hc).mp h
    refine st_seq ?_
    refine st_region ?_
    refine o_move rfl rfl rfl rfl ?_
    refine o_nilCheck rfl rfl rfl rfl ?_
    refine o_fieldAddr rfl rfl rfl z_field118_0 rfl ?_
    refine o_fieldAddr rfl rfl rfl z_field116_2 rfl ?_
    refine o_store (j := 0) (vs := [.bool true]) (cs' := [v1, .int .i64 a0.2.1, .bool true]) rfl rfl rfl z_size4 rfl rfl rfl (ones_cons rfl ones_nil) rfl rfl rfl ?_
    refine st_gs [[(ba0, .cells [v1, .int .i64 a0.2.1, .bool true].toArray 118 (0, 0))], g2] rfl ?_
    refine st_end ?_
    refine st_seq ?_
    refine st_region ?_
    refine o_assign rfl rfl rfl rfl ?_
    refine st_end ?_
    obtain rfl := Eq.symm h
    exact st_ret (gs' := [[(ba0, .cells [v1, .int .i64 a0.2.1, .bool true].toArray 118 (0, 0))], g2]) Tryd.func98 rfl (List.Sublist.refl _) hl6 ⟨_, _, rfl, rfl, (ho3.up hl6)⟩
  · replace h := (if_neg (ne_t hc)).mp h
    refine st_skip ?_
    refine st_inBlock ?_
    refine st_seq ?_
    refine st_region ?_
    refine o_move rfl rfl rfl rfl ?_
    refine o_move rfl rfl rfl rfl ?_
    refine o_nilCheck rfl rfl rfl rfl ?_
    refine o_fieldAddr rfl rfl rfl z_field118_0 rfl ?_
    refine o_fieldAddr rfl rfl rfl z_field116_0 rfl ?_
    refine o_load (j := 0) (v := v1) rfl rfl rfl z_sc31 rfl rfl rfl ?_
    refine o_move rfl rfl rfl rfl ?_
    obtain ⟨hf10, h⟩ := h
    obtain ⟨hf11, h⟩ := h
    refine st_ord [1, 0] [g2, [(ba0, .cells [v1, .int .i64 a0.2.1, .bool a0.2.2].toArray 118 (0, 0))]] rfl ?_
    refine o_append (dk := (kI .u8)) (xs := a0.1) (ys := a1) rfl rfl rfl rfl z_slT31 rfl (ho3.up hl6) rfl (Sl.src (hs5.up hl6)) hf10 hf11 (fun v7 g8 ho9 => ?_)
    refine o_nilCheck rfl rfl rfl rfl ?_
    refine o_fieldAddr rfl rfl rfl z_field118_0 rfl ?_
    refine o_fieldAddr rfl rfl rfl z_field116_0 rfl ?_
    refine o_store (j := 1) (vs := [v7]) (cs' := [v7, .int .i64 a0.2.1, .bool a0.2.2]) rfl rfl rfl z_size31 rfl rfl (oneL_ow ho9) (ones_cons ho9.one' ones_nil) rfl rfl rfl ?_
    refine st_gs [g8, [(ba0, .cells [v7, .int .i64 a0.2.1, .bool a0.2.2].toArray 118 (0, 0))]] rfl ?_
    refine st_end ?_
    refine st_seq ?_
    refine st_region ?_
    refine o_assign rfl rfl rfl rfl ?_
    refine st_end ?_
    refine st_ord [1, 0] [[(ba0, .cells [v7, .int .i64 a0.2.1, .bool a0.2.2].toArray 118 (0, 0))], g8] rfl ?_
    obtain rfl := Eq.symm h
    exact st_ret (gs' := [[(ba0, .cells [v7, .int .i64 a0.2.1, .bool a0.2.2].toArray 118 (0, 0))], g8]) Tryd.func98 rfl (List.Sublist.refl _) hl6 ⟨_, _, rfl, rfl, ho9⟩
theorem pen_Pen_word_ok {a0 : (List Int × Int × Bool)} {a1 : Int} {a2 : Int} {ba0 : Nat} {v1 : Value} {g2 : Grp} {r : Int × ((List Int × Int × Bool))} (h : pen_Pen_word a0 a1 a2 r) (σ : Sto) (ho3 : Ow (kI .u8) 5 σ v1 a0.1 g2) :
    Does Tryd.prog 74 [.pointer (some ⟨ba0, 0, none⟩), .int .u32 a1, .int .i64 a2] σ [[(ba0, .cells [v1, .int .i64 a0.2.1, .bool a0.2.2].toArray 118 (0, 0))], g2] (fun v τ gs => ∃ (v20 : Value) (g21 : Grp), gs = [[(ba0, .cells [v20, .int .i64 r.2.2.1, .bool r.2.2.2].toArray 118 (0, 0))], g21] ∧ .int .i64 r.1 = v ∧ Ow (kI .u8) 5 τ v20 r.2.1 g21) := by
  refine call_of Tryd.func74 Tryd.ntmps74 rfl rfl (fun cs fs => ?_)
  refine st_seq ?_
  refine st_region ?_
  refine o_assign rfl rfl rfl rfl ?_
  refine st_end ?_
  refine st_seq ?_
  refine st_region ?_
  refine o_move rfl rfl rfl rfl ?_
  refine o_conv rfl rfl rfl Tryd.underlying22 Tryd.underlying5 rfl ?_
  refine o_move rfl rfl rfl rfl ?_
  refine o_shr rfl rfl rfl rfl rfl (by decide) ?_
  refine o_conv rfl rfl rfl Tryd.underlying22 Tryd.underlying5 rfl ?_
  refine o_move rfl rfl rfl rfl ?_
  refine o_shr rfl rfl rfl rfl rfl (by decide) ?_
  refine o_conv rfl rfl rfl Tryd.underlying22 Tryd.underlying5 rfl ?_
  refine o_move rfl rfl rfl rfl ?_
  refine o_shr rfl rfl rfl rfl rfl (by decide) ?_
  refine o_conv rfl rfl rfl Tryd.underlying22 Tryd.underlying5 rfl ?_
  refine o_buildA (ps := [(0, [.int .u8 (IntKind.u8.wrap a1)]), (1, [.int .u8 (IntKind.u8.wrap (ishr .u32 a1 8))]), (2, [.int .u8 (IntKind.u8.wrap (ishr .u32 a1 16))]), (3, [.int .u8 (IntKind.u8.wrap (ishr .u32 a1 24))])]) (cs := [.int .u8 (IntKind.u8.wrap a1), .int .u8 (IntKind.u8.wrap (ishr .u32 a1 8)), .int .u8 (IntKind.u8.wrap (ishr .u32 a1 16)), .int .u8 (IntKind.u8.wrap (ishr .u32 a1 24))]) rfl rfl rfl z_arrz120 ⟨rfl, ⟨_, rfl, rfl⟩, ⟨rfl, ⟨_, rfl, rfl⟩, ⟨rfl, ⟨_, rfl, rfl⟩, ⟨rfl, ⟨_, rfl, rfl⟩, trivial⟩⟩⟩⟩ (fill_all [.int .u8 (IntKind.u8.wrap a1), .int .u8 (IntKind.u8.wrap (ishr .u32 a1 8)), .int .u8 (IntKind.u8.wrap (ishr .u32 a1 16)), .int .u8 (IntKind.u8.wrap (ishr .u32 a1 24))] _ rfl) ?_
  refine o_alloc rfl rfl rfl z_zero120 (fun b4 => ?_)
  refine o_store (j := 0) (vs := [.int .u8 (IntKind.u8.wrap a1), .int .u8 (IntKind.u8.wrap (ishr .u32 a1 8)), .int .u8 (IntKind.u8.wrap (ishr .u32 a1 16)), .int .u8 (IntKind.u8.wrap (ishr .u32 a1 24))]) (cs' := [.int .u8 (IntKind.u8.wrap a1), .int .u8 (IntKind.u8.wrap (ishr .u32 a1 8)), .int .u8 (IntKind.u8.wrap (ishr .u32 a1 16)), .int .u8 (IntKind.u8.wrap (ishr .u32 a1 24))]) rfl rfl rfl z_size120 rfl rfl rfl (ones_cons rfl (ones_cons rfl (ones_cons rfl (ones_cons rfl ones_nil)))) rfl rfl rfl ?_
  refine st_gs [[(b4, .cells [.int .u8 (IntKind.u8.wrap a1), .int .u8 (IntKind.u8.wrap (ishr .u32 a1 8)), .int .u8 (IntKind.u8.wrap (ishr .u32 a1 16)), .int .u8 (IntKind.u8.wrap (ishr .u32 a1 24))].toArray 120 (0, 0))], [(ba0, .cells [v1, .int .i64 a0.2.1, .bool a0.2.2].toArray 118 (0, 0))], g2] rfl ?_
  refine st_end ?_
  refine st_seq ?_
  refine st_region ?_
  refine o_move rfl rfl rfl rfl ?_
  refine o_move rfl rfl rfl rfl ?_
  refine o_move rfl rfl rfl rfl ?_
  obtain ⟨hf8, h⟩ := h
  obtain ⟨hf9, h⟩ := h
  obtain ⟨hf10, h⟩ := h
  refine st_freeze (fun τ5 hl6 hg7 => ?_)
  refine o_sliceA (dk := (kI .u8)) (L := 0) (H := a2) (xs := [(IntKind.u8.wrap a1), (IntKind.u8.wrap (ishr .u32 a1 8)), (IntKind.u8.wrap (ishr .u32 a1 16)), (IntKind.u8.wrap (ishr .u32 a1 24))]) rfl rfl rfl z_arr120 rfl (hg7 _ List.mem_cons_self) (manyI [(IntKind.u8.wrap a1), (IntKind.u8.wrap (ishr .u32 a1 8)), (IntKind.u8.wrap (ishr .u32 a1 16)), (IntKind.u8.wrap (ishr .u32 a1 24))]) rfl rfl rfl ⟨_, rfl⟩ (by decide) hf8 hf9 ⟨_, _, rfl, (Int.le_refl _), hf10⟩ (by decide) (fun v11 hs12 => ?_)
  obtain ⟨r13, hr14, h⟩ := h
  refine st_call (foot := [[(ba0, .cells [v1, .int .i64 a0.2.1, .bool a0.2.2].toArray 118 (0, 0))], g2]) rfl rfl rfl rfl rfl rfl (callV_fn z_en98 (pen_Pen_Raw_ok hr14 τ5 (ho3.up hl6) hs12)) ?_
  rintro vτ15 τ15 gsτ15 hl16 ⟨v17, g18, rfl, rfl, ho19⟩
  refine o_assign rfl rfl rfl rfl ?_
  refine st_end ?_
  obtain rfl := Eq.symm h
  exact st_ret (gs' := [[(ba0, .cells [v17, .int .i64 r13.2.2.1, .bool r13.2.2.2].toArray 118 (0, 0))], g18]) Tryd.func74 rfl (List.Sublist.refl _) (hl6.trans hl16) ⟨_, _, rfl, rfl, ho19⟩
theorem pen_Pen_U32_ok {a0 : (List Int × Int × Bool)} {a1 : Int} {ba0 : Nat} {v1 : Value} {g2 : Grp} {r : Int × ((List Int × Int × Bool))} (h : pen_Pen_U32 a0 a1 r) (σ : Sto) (ho3 : Ow (kI .u8) 5 σ v1 a0.1 g2) :
    Does Tryd.prog 48 [.pointer (some ⟨ba0, 0, none⟩), .int .u32 a1] σ [[(ba0, .cells [v1, .int .i64 a0.2.1, .bool a0.2.2].toArray 118 (0, 0))], g2] (fun v τ gs => ∃ (v11 : Value) (g12 : Grp), gs = [[(ba0, .cells [v11, .int .i64 r.2.2.1, .bool r.2.2.2].toArray 118 (0, 0))], g12] ∧ .int .i64 r.1 = v ∧ Ow (kI .u8) 5 τ v11 r.2.1 g12) := by
  refine call_of Tryd.func48 Tryd.ntmps48 rfl rfl (fun cs fs => ?_)
  refine st_seq ?_
  refine st_region ?_
  refine o_assign rfl rfl rfl rfl ?_
  refine st_end ?_
  refine st_seq ?_
  refine st_region ?_
  refine o_move rfl rfl rfl rfl ?_
  refine o_move rfl rfl rfl rfl ?_
  obtain ⟨r4, hr5, h⟩ := h
  refine st_call (foot := [[(ba0, .cells [v1, .int .i64 a0.2.1, .bool a0.2.2].toArray 118 (0, 0))], g2]) rfl rfl rfl rfl rfl rfl (callV_fn z_en74 (pen_Pen_word_ok hr5 σ ho3)) ?_
  rintro vτ6 τ6 gsτ6 hl7 ⟨v8, g9, rfl, rfl, ho10⟩
  refine o_assign rfl rfl rfl rfl ?_
  refine st_end ?_
  obtain rfl := Eq.symm h
  exact st_ret (gs' := [[(ba0, .cells [v8, .int .i64 r4.2.2.1, .bool r4.2.2.2].toArray 118 (0, 0))], g9]) Tryd.func48 rfl (List.Sublist.refl _) hl7 ⟨_, _, rfl, rfl, ho10⟩
theorem crc_shift_ok {a0 : Int} {r : Int} (h : crc_shift a0 r) (σ : Sto)  :
    Does Tryd.prog 77 [.int .u32 a0] σ [] (fun v τ gs => gs = [] ∧ .int .u32 r = v) := by
  refine call_of Tryd.func77 Tryd.ntmps77 rfl rfl (fun cs fs => ?_)
  refine st_seq ?_
  refine st_region ?_
  refine o_assign rfl rfl rfl rfl ?_
  refine st_end ?_
  refine st_seq ?_
  refine st_cut (fun ρ τ1 gs => ∃ (s1 : Int), crc_shift_j1 s1 r ∧ σ.Le τ1 ∧ ρ = [(0, .int .u32 s1), (2, .int .u32 0)] ∧ gs = []) ?_ (fun hk1 => ?_)
  · rintro ρ1 τ1 gs1 ⟨s1, h, hl1, rfl, rfl⟩
    refine st_seq ?_
    refine st_region ?_
    refine o_move rfl rfl rfl rfl ?_
    refine o_assign rfl rfl rfl rfl ?_
    refine st_end ?_
    obtain rfl := Eq.symm h
    exact st_ret (gs' := []) Tryd.func77 rfl (List.Sublist.refl _) hl1 ⟨rfl, rfl⟩
  refine st_seq ?_
  refine st_region ?_
  refine o_move rfl rfl rfl rfl ?_
  refine st_end ?_
  obtain ⟨e2, hL2, hA2⟩ := h
  refine st_env (ρ' := [(0, .int .u32 a0), (2, .int .u32 0), (3, .int .i64 0)]) ⟨rfl, rfl, rfl, trivial⟩ ?_
  refine st_loop hL2 (fun (s2 : Int × Int) ρ τ2 gs => σ.Le τ2 ∧ ρ = [(0, .int .u32 s2.1), (2, .int .u32 0), (3, .int .i64 s2.2)] ∧ gs = []) ⟨Sto.Le.refl _, rfl, rfl⟩ ?_
  rintro s2 o2 h he2 ρ2 τ2 gs2 ⟨hl2, rfl, rfl⟩ hn2
  refine st_seq ?_
  refine st_region ?_
  refine o_ibin (v := .bool (decide (s2.2 < 8))) rfl rfl rfl rfl rfl rfl ?_
  refine st_end ?_
  refine st_seq ?_
  refine st_cond rfl (fun hc => ?_) (fun hc => ?_)
  · replace h := (if_pos hc).mp h
    refine st_skip ?_
    refine st_seq ?_
    refine st_block ?_
    refine st_region ?_
    refine o_move rfl rfl rfl rfl ?_
    refine o_shr rfl rfl rfl rfl rfl (by decide) ?_
    refine o_move rfl rfl rfl rfl ?_
    refine o_ibin (v := .int .u32 (iand .u32 s2.1 1)) rfl rfl rfl rfl rfl rfl ?_
    refine o_neg rfl rfl rfl rfl ?_
    refine o_ibin (v := .int .u32 (iand .u32 3988292384 (IntKind.u32.wrap (0 - (iand .u32 s2.1 1))))) rfl rfl rfl rfl rfl rfl ?_
    refine o_ibin (v := .int .u32 (ixor .u32 (ishr .u32 s2.1 1) (iand .u32 3988292384 (IntKind.u32.wrap (0 - (iand .u32 s2.1 1)))))) rfl rfl rfl rfl rfl rfl ?_
    refine o_assign rfl rfl rfl rfl ?_
    refine st_end ?_
    refine st_inBlock ?_
    refine st_region ?_
    refine o_ibin (v := .int .i64 (IntKind.i64.wrap (s2.2 + 1))) rfl rfl rfl rfl rfl rfl ?_
    refine o_move rfl rfl rfl rfl ?_
    refine st_end ?_
    refine st_env (ρ' := [(0, .int .u32 (ixor .u32 (ishr .u32 s2.1 1) (iand .u32 3988292384 (IntKind.u32.wrap (0 - (iand .u32 s2.1 1)))))), (2, .int .u32 0), (3, .int .i64 (IntKind.i64.wrap (s2.2 + 1)))]) ⟨rfl, rfl, rfl, trivial⟩ ?_
    exact hn2 _ _ _ _ h ⟨hl2, rfl, rfl⟩
  · replace h := (if_neg (ne_t hc)).mp h
    refine st_exit rfl ?_
    obtain rfl := he2 _ h
    replace h := hA2
    refine st_env (ρ' := [(0, .int .u32 s2.1), (2, .int .u32 0)]) ⟨rfl, rfl, trivial⟩ ?_
    exact hk1 _ _ _ ⟨s2.1, h, hl2, rfl, rfl⟩
theorem crc_New_ok  {r : List Int} (h : crc_New r) (σ : Sto)  :
    Does Tryd.prog 50 [] σ [] (fun v τ gs => ∃ (bi19 : Nat), gs = [] ∧ .pointer (some ⟨bi19, 0, none⟩) = v ∧ CelN τ ⟨bi19, 0, none⟩ (cellsN (Value.int .u32) 0 1024 r)) := by
  refine call_of Tryd.func50 Tryd.ntmps50 rfl rfl (fun cs fs => ?_)
  refine st_seq ?_
  refine st_region ?_
  refine o_assign rfl rfl rfl rfl ?_
  refine st_end ?_
  refine st_seq ?_
  refine st_region ?_
  refine o_build (ps := []) (cs := (cellsN (Value.int .u32) 0 1024 (List.replicate 1024 0))) rfl rfl rfl z_struct126 trivial rfl ?_
  refine o_box (cs := (cellsN (Value.int .u32) 0 1024 (List.replicate 1024 0))) rfl rfl rfl rfl rfl (fun b1 => ?_)
  refine o_assign rfl rfl rfl rfl ?_
  refine st_end ?_
  refine st_seq ?_
  refine st_cut (fun ρ τ2 gs => ∃ (s2 : List Int), crc_New_j1 s2 r ∧ σ.Le τ2 ∧ ρ = [(0, .pointer none), (1, .pointer (some ⟨b1, 0, none⟩))] ∧ gs = [[(b1, .cells (cellsN (Value.int .u32) 0 1024 s2).toArray 126 (0, 0))]]) ?_ (fun hk2 => ?_)
  · rintro ρ2 τ2 gs2 ⟨s2, h, hl2, rfl, rfl⟩
    refine st_seq ?_
    refine st_region ?_
    refine o_move rfl rfl rfl rfl ?_
    refine o_assign rfl rfl rfl rfl ?_
    refine st_end ?_
    refine st_freeze (fun τ3 hl4 hg5 => ?_)
    obtain rfl := Eq.symm h
    exact st_ret (gs' := []) Tryd.func50 rfl (List.Sublist.refl _) (hl2.trans hl4) ⟨_, rfl, rfl, (celn_box hg5)⟩
  refine st_seq ?_
  refine st_region ?_
  refine o_move rfl rfl rfl rfl ?_
  refine st_end ?_
  obtain ⟨e6, hL6, hA6⟩ := h
  refine st_env (ρ' := [(0, .pointer none), (1, .pointer (some ⟨b1, 0, none⟩)), (7, .int .i64 0)]) ⟨rfl, rfl, rfl, trivial⟩ ?_
  refine st_loop hL6 (fun (s6 : Int × List Int) ρ τ6 gs => σ.Le τ6 ∧ ρ = [(0, .pointer none), (1, .pointer (some ⟨b1, 0, none⟩)), (7, .int .i64 s6.1)] ∧ gs = [[(b1, .cells (cellsN (Value.int .u32) 0 1024 s6.2).toArray 126 (0, 0))]]) ⟨Sto.Le.refl _, rfl, rfl⟩ ?_
  rintro s6 o6 h he6 ρ6 τ6 gs6 ⟨hl6, rfl, rfl⟩ hn6
  refine st_seq ?_
  refine st_region ?_
  refine o_ibin (v := .bool (decide (s6.1 < 256))) rfl rfl rfl rfl rfl rfl ?_
  refine st_end ?_
  refine st_seq ?_
  refine st_cond rfl (fun hc => ?_) (fun hc => ?_)
  · replace h := (if_pos hc).mp h
    refine st_skip ?_
    refine st_seq ?_
    refine st_cut (fun ρ τ7 gs => ∃ (s7 : List Int), crc_New_j3 s6 s7 o6 ∧ τ6.Le τ7 ∧ ρ = [(0, .pointer none), (1, .pointer (some ⟨b1, 0, none⟩)), (7, .int .i64 s6.1)] ∧ gs = [[(b1, .cells (cellsN (Value.int .u32) 0 1024 s7).toArray 126 (0, 0))]]) ?_ (fun hk7 => ?_)
    · rintro ρ7 τ7 gs7 ⟨s7, h, hl7, rfl, rfl⟩
      refine st_region ?_
      refine o_ibin (v := .int .i64 (IntKind.i64.wrap (s6.1 + 1))) rfl rfl rfl rfl rfl rfl ?_
      refine o_move rfl rfl rfl rfl ?_
      refine st_end ?_
      refine st_env (ρ' := [(0, .pointer none), (1, .pointer (some ⟨b1, 0, none⟩)), (7, .int .i64 (IntKind.i64.wrap (s6.1 + 1)))]) ⟨rfl, rfl, rfl, trivial⟩ ?_
      exact hn6 _ _ _ _ h ⟨(hl6.trans hl7), rfl, rfl⟩
    refine st_block ?_
    refine st_seq ?_
    refine st_region ?_
    refine o_move rfl rfl rfl rfl ?_
    refine o_assign rfl rfl rfl rfl ?_
    refine st_end ?_
    refine st_seq ?_
    refine st_region ?_
    refine o_move rfl rfl rfl rfl ?_
    refine o_conv rfl rfl rfl Tryd.underlying3 Tryd.underlying22 rfl ?_
    refine o_assign rfl rfl rfl rfl ?_
    refine st_end ?_
    refine st_seq ?_
    refine st_region ?_
    refine o_move rfl rfl rfl rfl ?_
    refine st_end ?_
    obtain ⟨e8, hL8, hA8⟩ := h
    refine st_env (ρ' := [(0, .pointer none), (1, .pointer (some ⟨b1, 0, none⟩)), (7, .int .i64 s6.1), (2, .int .i64 s6.1), (3, .int .u32 (IntKind.u32.wrap s6.1)), (12, .int .i64 0)]) ⟨rfl, rfl, rfl, rfl, rfl, rfl, trivial⟩ ?_
    refine st_loop hL8 (fun (s8 : Int × Int × List Int) ρ τ8 gs => τ6.Le τ8 ∧ ρ = [(0, .pointer none), (1, .pointer (some ⟨b1, 0, none⟩)), (7, .int .i64 s6.1), (2, .int .i64 s6.1), (3, .int .u32 s8.1), (12, .int .i64 s8.2.1)] ∧ gs = [[(b1, .cells (cellsN (Value.int .u32) 0 1024 s8.2.2).toArray 126 (0, 0))]]) ⟨Sto.Le.refl _, rfl, rfl⟩ ?_
    rintro s8 o8 h he8 ρ8 τ8 gs8 ⟨hl8, rfl, rfl⟩ hn8
    refine st_seq ?_
    refine st_region ?_
    refine o_ibin (v := .bool (decide (s8.2.1 < 4))) rfl rfl rfl rfl rfl rfl ?_
    refine st_end ?_
    refine st_seq ?_
    refine st_cond rfl (fun hc => ?_) (fun hc => ?_)
    · replace h := (if_pos hc).mp h
      refine st_skip ?_
      refine st_seq ?_
      refine st_block ?_
      refine st_seq ?_
      refine st_region ?_
      refine o_move rfl rfl rfl rfl ?_
      refine o_assign rfl rfl rfl rfl ?_
      refine st_end ?_
      refine st_seq ?_
      refine st_region ?_
      refine o_move rfl rfl rfl rfl ?_
      obtain ⟨r9, hr10, h⟩ := h
      refine st_call (foot := []) rfl rfl rfl rfl rfl rfl (callV_fn z_en77 (crc_shift_ok hr10 τ8)) ?_
      rintro vτ11 τ11 gsτ11 hl12 ⟨rfl, rfl⟩
      refine o_assign rfl rfl rfl rfl ?_
      refine st_end ?_
      refine st_region ?_
      refine o_move rfl rfl rfl rfl ?_
      refine o_move rfl rfl rfl rfl ?_
      refine o_move rfl rfl rfl rfl ?_
      refine o_move rfl rfl rfl rfl ?_
      refine o_nilCheck rfl rfl rfl rfl ?_
      refine o_fieldAddr rfl rfl rfl z_field126_0 rfl ?_
      obtain ⟨hf13, h⟩ := h
      obtain ⟨hf14, h⟩ := h
      refine o_indexA rfl rfl rfl z_arr124 rfl rfl hf13 hf14 ?_
      obtain ⟨hf15, h⟩ := h
      obtain ⟨hf16, h⟩ := h
      refine o_indexA rfl rfl rfl z_arr123 rfl rfl hf15 hf16 ?_
      refine o_storeB (j := 0) (q := (s8.2.1.toNat * 256 + s6.1.toNat)) (f := (Value.int .u32)) (zz := 0) (a := r9) (l := 1024) (xs := s8.2.2) rfl rfl rfl z_size22 rfl rfl rfl rfl rfl (by omega) (by omega) ?_
      refine st_gs [[(b1, .cells (cellsN (Value.int .u32) 0 1024 (putN 1024 0 s8.2.2 (s8.2.1.toNat * 256 + s6.1.toNat) r9)).toArray 126 (0, 0))]] rfl ?_
      refine st_end ?_
      refine st_inBlock ?_
      refine st_region ?_
      refine o_ibin (v := .int .i64 (IntKind.i64.wrap (s8.2.1 + 1))) rfl rfl rfl rfl rfl rfl ?_
      refine o_move rfl rfl rfl rfl ?_
      refine st_end ?_
      refine st_env (ρ' := [(0, .pointer none), (1, .pointer (some ⟨b1, 0, none⟩)), (7, .int .i64 s6.1), (2, .int .i64 s6.1), (3, .int .u32 r9), (12, .int .i64 (IntKind.i64.wrap (s8.2.1 + 1)))]) ⟨rfl, rfl, rfl, rfl, rfl, rfl, trivial⟩ ?_
      exact hn8 _ _ _ _ h ⟨(hl8.trans hl12), rfl, rfl⟩
    · replace h := (if_neg (ne_t hc)).mp h
      refine st_exit rfl ?_
      refine st_inBlock ?_
      obtain rfl := he8 _ h
      replace h := hA8
      refine st_env (ρ' := [(0, .pointer none), (1, .pointer (some ⟨b1, 0, none⟩)), (7, .int .i64 s6.1)]) ⟨rfl, rfl, rfl, trivial⟩ ?_
      exact hk7 _ _ _ ⟨s8.2.2, h, hl8, rfl, rfl⟩
  · replace h := (if_neg (ne_t hc)).mp h
    refine st_exit rfl ?_
    obtain rfl := he6 _ h
    replace h := hA6
    refine st_env (ρ' := [(0, .pointer none), (1, .pointer (some ⟨b1, 0, none⟩))]) ⟨rfl, rfl, trivial⟩ ?_
    exact hk2 _ _ _ ⟨s6.2, h, hl6, rfl, rfl⟩
theorem pen_Pen_Bytes_ok {a0 : (List Int × Int × Bool)} {ba0 : Nat} {v1 : Value} {g2 : Grp} {r : List Int} (h : pen_Pen_Bytes a0 r) (σ : Sto) (ho3 : Ow (kI .u8) 5 σ v1 a0.1 g2) :
    Does Tryd.prog 51 [.pointer (some ⟨ba0, 0, none⟩)] σ [[(ba0, .cells [v1, .int .i64 a0.2.1, .bool a0.2.2].toArray 118 (0, 0))], g2] (fun v τ gs => ∃ (v14 : Value), gs = [[(ba0, .cells [v1, .int .i64 a0.2.1, .bool a0.2.2].toArray 118 (0, 0))], g2] ∧ v14 = v ∧ Sl (kI .u8) τ v14 r) := by
  refine call_of Tryd.func51 Tryd.ntmps51 rfl rfl (fun cs fs => ?_)
  refine st_seq ?_
  refine st_region ?_
  refine o_assign rfl rfl rfl rfl ?_
  refine st_end ?_
  refine st_seq ?_
  refine st_seq ?_
  refine st_region ?_
  refine o_move rfl rfl rfl rfl ?_
  refine o_ptrNil (b := false) rfl rfl rfl Tryd.underlying85 rfl rfl rfl ?_
  refine st_end ?_
  refine st_condF rfl ?_
  refine st_skip ?_
  refine st_seq ?_
  refine st_region ?_
  refine o_move rfl rfl rfl rfl ?_
  refine o_nilCheck rfl rfl rfl rfl ?_
  refine o_fieldAddr rfl rfl rfl z_field118_0 rfl ?_
  refine o_fieldAddr rfl rfl rfl z_field116_0 rfl ?_
  refine o_load (j := 0) (v := v1) rfl rfl rfl z_sc31 rfl rfl rfl ?_
  obtain ⟨hf7, h⟩ := h
  obtain ⟨hf8, h⟩ := h
  refine st_addNil ?_
  refine o_append (dk := (kI .u8)) (xs := ([] : List Int)) (ys := a0.1) rfl rfl rfl rfl z_slT31 rfl Ow.nil rfl (Ow.src (j := 2) ho3 rfl) hf7 hf8 (fun v4 g5 ho6 => ?_)
  refine o_assign rfl rfl rfl rfl ?_
  refine st_end ?_
  refine st_freeze (fun τ9 hl10 hg11 => ?_)
  have hs12 := ho6.freeze hl10 hg11
  obtain rfl := Eq.symm h
  exact st_ret (gs' := [[(ba0, .cells [v1, .int .i64 a0.2.1, .bool a0.2.2].toArray 118 (0, 0))], g2]) Tryd.func51 rfl (List.Sublist.refl _) hl10 ⟨_, rfl, rfl, hs12⟩
theorem crc_Table_Begin_ok {a0 : List Int} {bi1 : Nat} {r : Int} (h : crc_Table_Begin a0 r) (σ : Sto) (hc2 : CelN σ ⟨bi1, 0, none⟩ (cellsN (Value.int .u32) 0 1024 a0)) :
    Does Tryd.prog 99 [.pointer (some ⟨bi1, 0, none⟩)] σ [] (fun v τ gs => gs = [] ∧ .int .u32 r = v) := by
  refine call_of Tryd.func99 Tryd.ntmps99 rfl rfl (fun cs fs => ?_)
  refine st_seq ?_
  refine st_region ?_
  refine o_assign rfl rfl rfl rfl ?_
  refine st_end ?_
  refine st_seq ?_
  refine st_seq ?_
  refine st_region ?_
  refine o_move rfl rfl rfl rfl ?_
  refine o_ptrNil (b := false) rfl rfl rfl Tryd.underlying90 rfl rfl rfl ?_
  refine st_end ?_
  refine st_condF rfl ?_
  refine st_skip ?_
  refine st_seq ?_
  refine st_region ?_
  refine o_assign rfl rfl rfl rfl ?_
  refine st_end ?_
  obtain rfl := Eq.symm h
  exact st_ret (gs' := []) Tryd.func99 rfl (List.Sublist.refl _) (Sto.Le.refl _) ⟨rfl, rfl⟩
theorem crc_Table_Add_ok {a0 : List Int} {a1 : Int} {a2 : List Int} {bi1 : Nat} {v3 : Value} {r : Int} (h : crc_Table_Add a0 a1 a2 r) (σ : Sto) (hc2 : CelN σ ⟨bi1, 0, none⟩ (cellsN (Value.int .u32) 0 1024 a0)) (hs4 : Sl (kI .u8) σ v3 a2) :
    Does Tryd.prog 100 [.pointer (some ⟨bi1, 0, none⟩), .int .u32 a1, v3] σ [] (fun v τ gs => gs = [] ∧ .int .u32 r = v) := by
  refine call_of Tryd.func100 Tryd.ntmps100 rfl rfl (fun cs fs => ?_)
  refine st_seq ?_
  refine st_region ?_
  refine o_assign rfl rfl rfl rfl ?_
  refine st_end ?_
  refine st_scope ?_
  refine st_seq ?_
  refine st_seq ?_
  refine st_region ?_
  refine o_move rfl rfl rfl rfl ?_
  refine o_ptrNil (b := false) rfl rfl rfl Tryd.underlying90 rfl rfl rfl ?_
  refine st_end ?_
  refine st_condF rfl ?_
  refine st_skip ?_
  refine st_seq ?_
  refine st_label ?_
  refine st_seq ?_
  refine st_cut (fun ρ τ5 gs => ∃ (s5 : Int × List Int) (v6 : Value), crc_Table_Add_j1 a0 s5 r ∧ σ.Le τ5 ∧ ρ = [(0, .pointer (some ⟨bi1, 0, none⟩)), (1, .int .u32 s5.1), (2, v6), (6, .int .u32 0)] ∧ gs = [] ∧ Sl (kI .u8) τ5 v6 s5.2) ?_ (fun hk5 => ?_)
  · rintro ρ5 τ5 gs5 ⟨s5, v6, h, hl5, rfl, rfl, hs7⟩
    refine st_seq ?_
    refine st_cut (fun ρ τ8 gs => ∃ (s8 : Int), crc_Table_Add_j2 s8 r ∧ τ5.Le τ8 ∧ ρ = [(1, .int .u32 s8), (6, .int .u32 0)] ∧ gs = []) ?_ (fun hk8 => ?_)
    · rintro ρ8 τ8 gs8 ⟨s8, h, hl8, rfl, rfl⟩
      refine st_seq ?_
      refine st_region ?_
      refine o_move rfl rfl rfl rfl ?_
      refine o_assign rfl rfl rfl rfl ?_
      refine st_end ?_
      obtain rfl := Eq.symm h
      exact st_ret (gs' := []) Tryd.func100 rfl (List.Sublist.refl _) (hl5.trans hl8) ⟨rfl, rfl⟩
    refine st_seq ?_
    refine st_region ?_
    refine o_move rfl rfl rfl rfl ?_
    refine o_lenI rfl rfl rfl z_slT31 rfl hs7 ?_
    refine o_move rfl rfl rfl rfl ?_
    refine st_end ?_
    obtain ⟨e9, hL9, hA9⟩ := h
    refine st_env (ρ' := [(0, .pointer (some ⟨bi1, 0, none⟩)), (1, .int .u32 s5.1), (6, .int .u32 0), (77, v6), (78, .int .i64 (s5.2.length : Int)), (79, .int .i64 0)]) ⟨rfl, rfl, rfl, rfl, rfl, rfl, trivial⟩ ?_
    refine st_loop hL9 (fun (s9 : Int × Int) ρ τ9 gs => τ5.Le τ9 ∧ ρ = [(0, .pointer (some ⟨bi1, 0, none⟩)), (1, .int .u32 s9.1), (6, .int .u32 0), (77, v6), (78, .int .i64 (s5.2.length : Int)), (79, .int .i64 s9.2)] ∧ gs = []) ⟨Sto.Le.refl _, rfl, rfl⟩ ?_
    rintro s9 o9 h he9 ρ9 τ9 gs9 ⟨hl9, rfl, rfl⟩ hn9
    refine st_seq ?_
    refine st_region ?_
    refine o_ibin (v := .bool (decide (s9.2 < (s5.2.length : Int)))) rfl rfl rfl rfl rfl rfl ?_
    refine st_end ?_
    refine st_seq ?_
    refine st_cond rfl (fun hc => ?_) (fun hc => ?_)
    · replace h := (if_pos hc).mp h
      refine st_skip ?_
      refine st_seq ?_
      refine st_block ?_
      refine st_seq ?_
      refine st_region ?_
      obtain ⟨q10, hf11, h⟩ := h
      refine o_index rfl rfl rfl z_slT31 rfl rfl (hs7.up hl9) rfl hf11 (fun b12 of13 vs hc14 hrep => ?_)
      obtain rfl := hrep
      refine o_loadI (v := .int .u8 q10) rfl rfl rfl z_sc5 rfl (hc14 0 _ rfl) ?_
      refine o_assign rfl rfl rfl rfl ?_
      refine st_end ?_
      refine st_region ?_
      refine o_move rfl rfl rfl rfl ?_
      refine o_shr rfl rfl rfl rfl rfl (by decide) ?_
      refine o_move rfl rfl rfl rfl ?_
      refine o_move rfl rfl rfl rfl ?_
      refine o_conv rfl rfl rfl Tryd.underlying22 Tryd.underlying5 rfl ?_
      refine o_move rfl rfl rfl rfl ?_
      refine o_ibin (v := .int .u8 (ixor .u8 (IntKind.u8.wrap s9.1) q10)) rfl rfl rfl rfl rfl rfl ?_
      refine o_nilCheck rfl rfl rfl rfl ?_
      refine o_fieldAddr rfl rfl rfl z_field126_0 rfl ?_
      refine o_indexA rfl rfl rfl z_arr124 rfl rfl (by decide) (by decide) ?_
      obtain ⟨hf15, h⟩ := h
      obtain ⟨hf16, h⟩ := h
      refine o_indexA rfl rfl rfl z_arr123 rfl rfl hf15 hf16 ?_
      refine o_loadI (v := .int .u32 (a0.getD ((ixor .u8 (IntKind.u8.wrap s9.1) q10).toNat) 0)) rfl rfl rfl z_sc22 rfl (cel_big (q := (ixor .u8 (IntKind.u8.wrap s9.1) q10).toNat) (hc2.up (hl5.trans hl9)) (by omega) (by omega)) ?_
      refine o_ibin (v := .int .u32 (ixor .u32 (ishr .u32 s9.1 8) (a0.getD ((ixor .u8 (IntKind.u8.wrap s9.1) q10).toNat) 0))) rfl rfl rfl rfl rfl rfl ?_
      refine o_assign rfl rfl rfl rfl ?_
      refine st_end ?_
      refine st_inBlock ?_
      refine st_region ?_
      refine o_ibin (v := .int .i64 (IntKind.i64.wrap (s9.2 + 1))) rfl rfl rfl rfl rfl rfl ?_
      refine o_move rfl rfl rfl rfl ?_
      refine st_end ?_
      refine st_env (ρ' := [(0, .pointer (some ⟨bi1, 0, none⟩)), (1, .int .u32 (ixor .u32 (ishr .u32 s9.1 8) (a0.getD ((ixor .u8 (IntKind.u8.wrap s9.1) q10).toNat) 0))), (6, .int .u32 0), (77, v6), (78, .int .i64 (s5.2.length : Int)), (79, .int .i64 (IntKind.i64.wrap (s9.2 + 1)))]) ⟨rfl, rfl, rfl, rfl, rfl, rfl, trivial⟩ ?_
      exact hn9 _ _ _ _ h ⟨hl9, rfl, rfl⟩
    · replace h := (if_neg (ne_t hc)).mp h
      refine st_exit rfl ?_
      obtain rfl := he9 _ h
      replace h := hA9
      refine st_env (ρ' := [(1, .int .u32 s9.1), (6, .int .u32 0)]) ⟨rfl, rfl, trivial⟩ ?_
      exact hk8 _ _ _ ⟨s9.1, h, hl9, rfl, rfl⟩
  obtain ⟨e18, hL18, hA18⟩ := h
  refine st_env (ρ' := [(0, .pointer (some ⟨bi1, 0, none⟩)), (1, .int .u32 a1), (2, v3), (6, .int .u32 0)]) ⟨rfl, rfl, rfl, rfl, trivial⟩ ?_
  refine st_loop hL18 (fun (s18 : Int × List Int) ρ τ18 gs => σ.Le τ18 ∧ ∃ (v19 : Value), ρ = [(0, .pointer (some ⟨bi1, 0, none⟩)), (1, .int .u32 s18.1), (2, v19), (6, .int .u32 0)] ∧ gs = [] ∧ Sl (kI .u8) τ18 v19 s18.2) ⟨Sto.Le.refl _, _, rfl, rfl, hs4⟩ ?_
  rintro s18 o18 h he18 ρ18 τ18 gs18 ⟨hl18, v19, rfl, rfl, hs20⟩ hn18
  refine st_block ?_
  refine st_seq ?_
  refine st_seq ?_
  refine st_region ?_
  refine o_move rfl rfl rfl rfl ?_
  refine o_lenI rfl rfl rfl z_slT31 rfl hs20 ?_
  refine o_ibin (v := .bool (decide ((s18.2.length : Int) < 4))) rfl rfl rfl rfl rfl rfl ?_
  refine st_end ?_
  refine st_cond rfl (fun hc => ?_) (fun hc => ?_)
  · replace h := (if_pos hc).mp h
    refine st_exit rfl ?_
    obtain rfl := he18 _ h
    replace h := hA18
    refine st_env (ρ' := [(0, .pointer (some ⟨bi1, 0, none⟩)), (1, .int .u32 s18.1), (2, v19), (6, .int .u32 0)]) ⟨rfl, rfl, rfl, rfl, trivial⟩ ?_
    exact hk5 _ _ _ ⟨(s18.1, s18.2), _, h, hl18, rfl, rfl, hs20⟩
  · replace h := (if_neg (ne_t hc)).mp h
    refine st_skip ?_
    refine st_seq ?_
    obtain ⟨q21, hf22, h⟩ := h
    obtain ⟨q26, hf27, h⟩ := h
    obtain ⟨q31, hf32, h⟩ := h
    obtain ⟨q36, hf37, h⟩ := h
    refine st_draw 24 (tl [fun τ v => (.int .u32 s18.1 : Value) = v,
    fun τ v => (v19 : Value) = v,
    fun τ v => ∃ (b23 : Nat) (of24 : Nat) (vsb23 : List Value), (.pointer (some ⟨b23, of24, none⟩) : Value) = v ∧ CelN τ ⟨b23, of24, none⟩ vsb23 ∧ (kI .u8).rep τ vsb23 q21,
    fun τ v => (.int .u8 q21 : Value) = v,
    fun τ v => (.int .u32 (IntKind.u32.wrap q21) : Value) = v,
    fun τ v => (v19 : Value) = v,
    fun τ v => ∃ (b28 : Nat) (of29 : Nat) (vsb28 : List Value), (.pointer (some ⟨b28, of29, none⟩) : Value) = v ∧ CelN τ ⟨b28, of29, none⟩ vsb28 ∧ (kI .u8).rep τ vsb28 q26,
    fun τ v => (.int .u8 q26 : Value) = v,
    fun τ v => (.int .u32 (IntKind.u32.wrap q26) : Value) = v,
    fun τ v => (.int .u32 (ishl .u32 (IntKind.u32.wrap q26) 8) : Value) = v,
    fun τ v => (.int .u32 (ior .u32 (IntKind.u32.wrap q21) (ishl .u32 (IntKind.u32.wrap q26) 8)) : Value) = v,
    fun τ v => (v19 : Value) = v,
    fun τ v => ∃ (b33 : Nat) (of34 : Nat) (vsb33 : List Value), (.pointer (some ⟨b33, of34, none⟩) : Value) = v ∧ CelN τ ⟨b33, of34, none⟩ vsb33 ∧ (kI .u8).rep τ vsb33 q31,
    fun τ v => (.int .u8 q31 : Value) = v,
    fun τ v => (.int .u32 (IntKind.u32.wrap q31) : Value) = v,
    fun τ v => (.int .u32 (ishl .u32 (IntKind.u32.wrap q31) 16) : Value) = v,
    fun τ v => (.int .u32 (ior .u32 (ior .u32 (IntKind.u32.wrap q21) (ishl .u32 (IntKind.u32.wrap q26) 8)) (ishl .u32 (IntKind.u32.wrap q31) 16)) : Value) = v,
    fun τ v => (v19 : Value) = v,
    fun τ v => ∃ (b38 : Nat) (of39 : Nat) (vsb38 : List Value), (.pointer (some ⟨b38, of39, none⟩) : Value) = v ∧ CelN τ ⟨b38, of39, none⟩ vsb38 ∧ (kI .u8).rep τ vsb38 q36,
    fun τ v => (.int .u8 q36 : Value) = v,
    fun τ v => (.int .u32 (IntKind.u32.wrap q36) : Value) = v,
    fun τ v => (.int .u32 (ishl .u32 (IntKind.u32.wrap q36) 24) : Value) = v,
    fun τ v => (.int .u32 (ior .u32 (ior .u32 (ior .u32 (IntKind.u32.wrap q21) (ishl .u32 (IntKind.u32.wrap q26) 8)) (ishl .u32 (IntKind.u32.wrap q31) 16)) (ishl .u32 (IntKind.u32.wrap q36) 24)) : Value) = v,
    fun τ v => (.int .u32 (ixor .u32 s18.1 (ior .u32 (ior .u32 (ior .u32 (IntKind.u32.wrap q21) (ishl .u32 (IntKind.u32.wrap q26) 8)) (ishl .u32 (IntKind.u32.wrap q31) 16)) (ishl .u32 (IntKind.u32.wrap q36) 24))) : Value) = v]) (fun _ _ => []) z_mix rfl (tl_mono ⟨fun _ _ _ _ h => h, ⟨fun _ _ _ _ h => h, ⟨fun _ _ _ hl ⟨b23, of24, vsb23, hv, hc25, hrepb23⟩ => ⟨b23, of24, vsb23, hv, hc25.up hl, Kd.mono _ hl hrepb23⟩, ⟨fun _ _ _ _ h => h, ⟨fun _ _ _ _ h => h, ⟨fun _ _ _ _ h => h, ⟨fun _ _ _ hl ⟨b28, of29, vsb28, hv, hc30, hrepb28⟩ => ⟨b28, of29, vsb28, hv, hc30.up hl, Kd.mono _ hl hrepb28⟩, ⟨fun _ _ _ _ h => h, ⟨fun _ _ _ _ h => h, ⟨fun _ _ _ _ h => h, ⟨fun _ _ _ _ h => h, ⟨fun _ _ _ _ h => h, ⟨fun _ _ _ hl ⟨b33, of34, vsb33, hv, hc35, hrepb33⟩ => ⟨b33, of34, vsb33, hv, hc35.up hl, Kd.mono _ hl hrepb33⟩, ⟨fun _ _ _ _ h => h, ⟨fun _ _ _ _ h => h, ⟨fun _ _ _ _ h => h, ⟨fun _ _ _ _ h => h, ⟨fun _ _ _ _ h => h, ⟨fun _ _ _ hl ⟨b38, of39, vsb38, hv, hc40, hrepb38⟩ => ⟨b38, of39, vsb38, hv, hc40.up hl, Kd.mono _ hl hrepb38⟩, ⟨fun _ _ _ _ h => h, ⟨fun _ _ _ _ h => h, ⟨fun _ _ _ _ h => h, ⟨fun _ _ _ _ h => h, ⟨fun _ _ _ _ h => h, trivial⟩⟩⟩⟩⟩⟩⟩⟩⟩⟩⟩⟩⟩⟩⟩⟩⟩⟩⟩⟩⟩⟩⟩⟩) (allB_cons (allB_cons (allB_cons (allB_cons (allB_cons (allB_cons (allB_cons (allB_cons (allB_cons (allB_cons (allB_cons (allB_cons (allB_cons (allB_cons (allB_cons (allB_cons (allB_cons (allB_cons (allB_cons (allB_cons (allB_cons (allB_cons (allB_cons (allB_cons allB_nil ?_) ?_) ?_) ?_) ?_) ?_) ?_) ?_) ?_) ?_) ?_) ?_) ?_) ?_) ?_) ?_) ?_) ?_) ?_) ?_) ?_) ?_) ?_) ?_) ?_
    · intro ρ' τ pool rs hl hd hout hk
      refine o_move rfl rfl rfl ((hout 1 rfl).trans rfl) ?_
      exact st_addNil (hk _ _ (Sto.Le.refl _) rfl)
    · intro ρ' τ pool rs hl hd hout hk
      refine o_move rfl rfl rfl ((hout 2 rfl).trans rfl) ?_
      exact st_addNil (hk _ _ (Sto.Le.refl _) rfl)
    · intro ρ' τ pool rs hl hd hout hk
      obtain ⟨_, e1, rfl⟩ := hd 1 rfl
      refine o_index rfl rfl rfl z_slT31 rfl e1 (hs20.up hl) rfl hf22 (fun b23 of24 vsb23 hc25 hrepb23 => ?_)
      exact st_addNil (hk _ _ (Sto.Le.refl _) ⟨b23, of24, vsb23, rfl, hc25, hrepb23⟩)
    · intro ρ' τ pool rs hl hd hout hk
      obtain ⟨_, e2, b23, of24, vsb23, rfl, hc25, hrepb23⟩ := hd 2 rfl
      have hrepb23 := hrepb23
      obtain rfl := hrepb23
      refine o_loadI (v := .int .u8 q21) rfl rfl rfl z_sc5 e2 (hc25 0 _ rfl) ?_
      exact st_addNil (hk _ _ (Sto.Le.refl _) rfl)
    · intro ρ' τ pool rs hl hd hout hk
      obtain ⟨_, e3, rfl⟩ := hd 3 rfl
      refine o_conv rfl rfl rfl Tryd.underlying5 Tryd.underlying22 e3 ?_
      exact st_addNil (hk _ _ (Sto.Le.refl _) rfl)
    · intro ρ' τ pool rs hl hd hout hk
      refine o_move rfl rfl rfl ((hout 2 rfl).trans rfl) ?_
      exact st_addNil (hk _ _ (Sto.Le.refl _) rfl)
    · intro ρ' τ pool rs hl hd hout hk
      obtain ⟨_, e5, rfl⟩ := hd 5 rfl
      refine o_index rfl rfl rfl z_slT31 rfl e5 (hs20.up hl) rfl hf27 (fun b28 of29 vsb28 hc30 hrepb28 => ?_)
      exact st_addNil (hk _ _ (Sto.Le.refl _) ⟨b28, of29, vsb28, rfl, hc30, hrepb28⟩)
    · intro ρ' τ pool rs hl hd hout hk
      obtain ⟨_, e6, b28, of29, vsb28, rfl, hc30, hrepb28⟩ := hd 6 rfl
      have hrepb28 := hrepb28
      obtain rfl := hrepb28
      refine o_loadI (v := .int .u8 q26) rfl rfl rfl z_sc5 e6 (hc30 0 _ rfl) ?_
      exact st_addNil (hk _ _ (Sto.Le.refl _) rfl)
    · intro ρ' τ pool rs hl hd hout hk
      obtain ⟨_, e7, rfl⟩ := hd 7 rfl
      refine o_conv rfl rfl rfl Tryd.underlying5 Tryd.underlying22 e7 ?_
      exact st_addNil (hk _ _ (Sto.Le.refl _) rfl)
    · intro ρ' τ pool rs hl hd hout hk
      obtain ⟨_, e8, rfl⟩ := hd 8 rfl
      refine o_shl rfl rfl rfl e8 rfl (by decide) ?_
      exact st_addNil (hk _ _ (Sto.Le.refl _) rfl)
    · intro ρ' τ pool rs hl hd hout hk
      obtain ⟨_, e4, rfl⟩ := hd 4 rfl
      obtain ⟨_, e9, rfl⟩ := hd 9 rfl
      refine o_ibin (v := .int .u32 (ior .u32 (IntKind.u32.wrap q21) (ishl .u32 (IntKind.u32.wrap q26) 8))) rfl rfl rfl e4 e9 rfl ?_
      exact st_addNil (hk _ _ (Sto.Le.refl _) rfl)
    · intro ρ' τ pool rs hl hd hout hk
      refine o_move rfl rfl rfl ((hout 2 rfl).trans rfl) ?_
      exact st_addNil (hk _ _ (Sto.Le.refl _) rfl)
    · intro ρ' τ pool rs hl hd hout hk
      obtain ⟨_, e11, rfl⟩ := hd 11 rfl
      refine o_index rfl rfl rfl z_slT31 rfl e11 (hs20.up hl) rfl hf32 (fun b33 of34 vsb33 hc35 hrepb33 => ?_)
      exact st_addNil (hk _ _ (Sto.Le.refl _) ⟨b33, of34, vsb33, rfl, hc35, hrepb33⟩)
    · intro ρ' τ pool rs hl hd hout hk
      obtain ⟨_, e12, b33, of34, vsb33, rfl, hc35, hrepb33⟩ := hd 12 rfl
      have hrepb33 := hrepb33
      obtain rfl := hrepb33
      refine o_loadI (v := .int .u8 q31) rfl rfl rfl z_sc5 e12 (hc35 0 _ rfl) ?_
      exact st_addNil (hk _ _ (Sto.Le.refl _) rfl)
    · intro ρ' τ pool rs hl hd hout hk
      obtain ⟨_, e13, rfl⟩ := hd 13 rfl
      refine o_conv rfl rfl rfl Tryd.underlying5 Tryd.underlying22 e13 ?_
      exact st_addNil (hk _ _ (Sto.Le.refl _) rfl)
    · intro ρ' τ pool rs hl hd hout hk
      obtain ⟨_, e14, rfl⟩ := hd 14 rfl
      refine o_shl rfl rfl rfl e14 rfl (by decide) ?_
      exact st_addNil (hk _ _ (Sto.Le.refl _) rfl)
    · intro ρ' τ pool rs hl hd hout hk
      obtain ⟨_, e10, rfl⟩ := hd 10 rfl
      obtain ⟨_, e15, rfl⟩ := hd 15 rfl
      refine o_ibin (v := .int .u32 (ior .u32 (ior .u32 (IntKind.u32.wrap q21) (ishl .u32 (IntKind.u32.wrap q26) 8)) (ishl .u32 (IntKind.u32.wrap q31) 16))) rfl rfl rfl e10 e15 rfl ?_
      exact st_addNil (hk _ _ (Sto.Le.refl _) rfl)
    · intro ρ' τ pool rs hl hd hout hk
      refine o_move rfl rfl rfl ((hout 2 rfl).trans rfl) ?_
      exact st_addNil (hk _ _ (Sto.Le.refl _) rfl)
    · intro ρ' τ pool rs hl hd hout hk
      obtain ⟨_, e17, rfl⟩ := hd 17 rfl
      refine o_index rfl rfl rfl z_slT31 rfl e17 (hs20.up hl) rfl hf37 (fun b38 of39 vsb38 hc40 hrepb38 => ?_)
      exact st_addNil (hk _ _ (Sto.Le.refl _) ⟨b38, of39, vsb38, rfl, hc40, hrepb38⟩)
    · intro ρ' τ pool rs hl hd hout hk
      obtain ⟨_, e18, b38, of39, vsb38, rfl, hc40, hrepb38⟩ := hd 18 rfl
      have hrepb38 := hrepb38
      obtain rfl := hrepb38
      refine o_loadI (v := .int .u8 q36) rfl rfl rfl z_sc5 e18 (hc40 0 _ rfl) ?_
      exact st_addNil (hk _ _ (Sto.Le.refl _) rfl)
    · intro ρ' τ pool rs hl hd hout hk
      obtain ⟨_, e19, rfl⟩ := hd 19 rfl
      refine o_conv rfl rfl rfl Tryd.underlying5 Tryd.underlying22 e19 ?_
      exact st_addNil (hk _ _ (Sto.Le.refl _) rfl)
    · intro ρ' τ pool rs hl hd hout hk
      obtain ⟨_, e20, rfl⟩ := hd 20 rfl
      refine o_shl rfl rfl rfl e20 rfl (by decide) ?_
      exact st_addNil (hk _ _ (Sto.Le.refl _) rfl)
    · intro ρ' τ pool rs hl hd hout hk
      obtain ⟨_, e16, rfl⟩ := hd 16 rfl
      obtain ⟨_, e21, rfl⟩ := hd 21 rfl
      refine o_ibin (v := .int .u32 (ior .u32 (ior .u32 (ior .u32 (IntKind.u32.wrap q21) (ishl .u32 (IntKind.u32.wrap q26) 8)) (ishl .u32 (IntKind.u32.wrap q31) 16)) (ishl .u32 (IntKind.u32.wrap q36) 24))) rfl rfl rfl e16 e21 rfl ?_
      exact st_addNil (hk _ _ (Sto.Le.refl _) rfl)
    · intro ρ' τ pool rs hl hd hout hk
      obtain ⟨_, e0, rfl⟩ := hd 0 rfl
      obtain ⟨_, e22, rfl⟩ := hd 22 rfl
      refine o_ibin (v := .int .u32 (ixor .u32 s18.1 (ior .u32 (ior .u32 (ior .u32 (IntKind.u32.wrap q21) (ishl .u32 (IntKind.u32.wrap q26) 8)) (ishl .u32 (IntKind.u32.wrap q31) 16)) (ishl .u32 (IntKind.u32.wrap q36) 24)))) rfl rfl rfl e0 e22 rfl ?_
      exact st_addNil (hk _ _ (Sto.Le.refl _) rfl)
    intro ρ' τ41 vals hl41 hv hout
    have l23 : Eng.look ρ' 37 = some (.int .u32 (ixor .u32 s18.1 (ior .u32 (ior .u32 (ior .u32 (IntKind.u32.wrap q21) (ishl .u32 (IntKind.u32.wrap q26) 8)) (ishl .u32 (IntKind.u32.wrap q31) 16)) (ishl .u32 (IntKind.u32.wrap q36) 24)))) := (hv 23 (by decide)).1.trans (congrArg some (show vals 23 = .int .u32 (ixor .u32 s18.1 (ior .u32 (ior .u32 (ior .u32 (IntKind.u32.wrap q21) (ishl .u32 (IntKind.u32.wrap q26) 8)) (ishl .u32 (IntKind.u32.wrap q31) 16)) (ishl .u32 (IntKind.u32.wrap q36) 24))) from Eq.symm (hv 23 (by decide)).2))
    refine st_ord [] [] rfl ?_
    refine st_env (ρ' := [(37, .int .u32 (ixor .u32 s18.1 (ior .u32 (ior .u32 (ior .u32 (IntKind.u32.wrap q21) (ishl .u32 (IntKind.u32.wrap q26) 8)) (ishl .u32 (IntKind.u32.wrap q31) 16)) (ishl .u32 (IntKind.u32.wrap q36) 24)))), (0, .pointer (some ⟨bi1, 0, none⟩)), (2, v19), (6, .int .u32 0)]) ⟨l23, (hout 0 rfl).trans rfl, (hout 2 rfl).trans rfl, (hout 6 rfl).trans rfl, trivial⟩ ?_
    refine o_assign rfl rfl rfl rfl ?_
    refine st_end ?_
    refine st_seq ?_
    obtain ⟨hf42, h⟩ := h
    obtain ⟨hf43, h⟩ := h
    obtain ⟨hf44, h⟩ := h
    obtain ⟨hf45, h⟩ := h
    obtain ⟨hf46, h⟩ := h
    obtain ⟨hf47, h⟩ := h
    obtain ⟨hf48, h⟩ := h
    obtain ⟨hf49, h⟩ := h
    refine st_draw 37 (tl [fun τ v => (.pointer (some ⟨bi1, 0, none⟩) : Value) = v,
    fun τ v => (.int .u32 (ixor .u32 s18.1 (ior .u32 (ior .u32 (ior .u32 (IntKind.u32.wrap q21) (ishl .u32 (IntKind.u32.wrap q26) 8)) (ishl .u32 (IntKind.u32.wrap q31) 16)) (ishl .u32 (IntKind.u32.wrap q36) 24))) : Value) = v,
    fun τ v => (.int .u32 (iand .u32 (ixor .u32 s18.1 (ior .u32 (ior .u32 (ior .u32 (IntKind.u32.wrap q21) (ishl .u32 (IntKind.u32.wrap q26) 8)) (ishl .u32 (IntKind.u32.wrap q31) 16)) (ishl .u32 (IntKind.u32.wrap q36) 24))) 255) : Value) = v,
    fun τ v => (.pointer (some ⟨bi1, 0, none⟩) : Value) = v,
    fun τ v => (.pointer (some ⟨bi1, 0 + 0, none⟩) : Value) = v,
    fun τ v => (.pointer (some ⟨bi1, 0 + 0 + (3 : Int).toNat * 256, none⟩) : Value) = v,
    fun τ v => (.pointer (some ⟨bi1, 0 + 0 + (3 : Int).toNat * 256 + (iand .u32 (ixor .u32 s18.1 (ior .u32 (ior .u32 (ior .u32 (IntKind.u32.wrap q21) (ishl .u32 (IntKind.u32.wrap q26) 8)) (ishl .u32 (IntKind.u32.wrap q31) 16)) (ishl .u32 (IntKind.u32.wrap q36) 24))) 255).toNat * 1, none⟩) : Value) = v,
    fun τ v => (.int .u32 (a0.getD (768 + (iand .u32 (ixor .u32 s18.1 (ior .u32 (ior .u32 (ior .u32 (IntKind.u32.wrap q21) (ishl .u32 (IntKind.u32.wrap q26) 8)) (ishl .u32 (IntKind.u32.wrap q31) 16)) (ishl .u32 (IntKind.u32.wrap q36) 24))) 255).toNat) 0) : Value) = v,
    fun τ v => (.pointer (some ⟨bi1, 0, none⟩) : Value) = v,
    fun τ v => (.int .u32 (ixor .u32 s18.1 (ior .u32 (ior .u32 (ior .u32 (IntKind.u32.wrap q21) (ishl .u32 (IntKind.u32.wrap q26) 8)) (ishl .u32 (IntKind.u32.wrap q31) 16)) (ishl .u32 (IntKind.u32.wrap q36) 24))) : Value) = v,
    fun τ v => (.int .u32 (ishr .u32 (ixor .u32 s18.1 (ior .u32 (ior .u32 (ior .u32 (IntKind.u32.wrap q21) (ishl .u32 (IntKind.u32.wrap q26) 8)) (ishl .u32 (IntKind.u32.wrap q31) 16)) (ishl .u32 (IntKind.u32.wrap q36) 24))) 8) : Value) = v,
    fun τ v => (.int .u32 (iand .u32 (ishr .u32 (ixor .u32 s18.1 (ior .u32 (ior .u32 (ior .u32 (IntKind.u32.wrap q21) (ishl .u32 (IntKind.u32.wrap q26) 8)) (ishl .u32 (IntKind.u32.wrap q31) 16)) (ishl .u32 (IntKind.u32.wrap q36) 24))) 8) 255) : Value) = v,
    fun τ v => (.pointer (some ⟨bi1, 0, none⟩) : Value) = v,
    fun τ v => (.pointer (some ⟨bi1, 0 + 0, none⟩) : Value) = v,
    fun τ v => (.pointer (some ⟨bi1, 0 + 0 + (2 : Int).toNat * 256, none⟩) : Value) = v,
    fun τ v => (.pointer (some ⟨bi1, 0 + 0 + (2 : Int).toNat * 256 + (iand .u32 (ishr .u32 (ixor .u32 s18.1 (ior .u32 (ior .u32 (ior .u32 (IntKind.u32.wrap q21) (ishl .u32 (IntKind.u32.wrap q26) 8)) (ishl .u32 (IntKind.u32.wrap q31) 16)) (ishl .u32 (IntKind.u32.wrap q36) 24))) 8) 255).toNat * 1, none⟩) : Value) = v,
    fun τ v => (.int .u32 (a0.getD (512 + (iand .u32 (ishr .u32 (ixor .u32 s18.1 (ior .u32 (ior .u32 (ior .u32 (IntKind.u32.wrap q21) (ishl .u32 (IntKind.u32.wrap q26) 8)) (ishl .u32 (IntKind.u32.wrap q31) 16)) (ishl .u32 (IntKind.u32.wrap q36) 24))) 8) 255).toNat) 0) : Value) = v,
    fun τ v => (.int .u32 (ixor .u32 (a0.getD (768 + (iand .u32 (ixor .u32 s18.1 (ior .u32 (ior .u32 (ior .u32 (IntKind.u32.wrap q21) (ishl .u32 (IntKind.u32.wrap q26) 8)) (ishl .u32 (IntKind.u32.wrap q31) 16)) (ishl .u32 (IntKind.u32.wrap q36) 24))) 255).toNat) 0) (a0.getD (512 + (iand .u32 (ishr .u32 (ixor .u32 s18.1 (ior .u32 (ior .u32 (ior .u32 (IntKind.u32.wrap q21) (ishl .u32 (IntKind.u32.wrap q26) 8)) (ishl .u32 (IntKind.u32.wrap q31) 16)) (ishl .u32 (IntKind.u32.wrap q36) 24))) 8) 255).toNat) 0)) : Value) = v,
    fun τ v => (.pointer (some ⟨bi1, 0, none⟩) : Value) = v,
    fun τ v => (.int .u32 (ixor .u32 s18.1 (ior .u32 (ior .u32 (ior .u32 (IntKind.u32.wrap q21) (ishl .u32 (IntKind.u32.wrap q26) 8)) (ishl .u32 (IntKind.u32.wrap q31) 16)) (ishl .u32 (IntKind.u32.wrap q36) 24))) : Value) = v,
    fun τ v => (.int .u32 (ishr .u32 (ixor .u32 s18.1 (ior .u32 (ior .u32 (ior .u32 (IntKind.u32.wrap q21) (ishl .u32 (IntKind.u32.wrap q26) 8)) (ishl .u32 (IntKind.u32.wrap q31) 16)) (ishl .u32 (IntKind.u32.wrap q36) 24))) 16) : Value) = v,
    fun τ v => (.int .u32 (iand .u32 (ishr .u32 (ixor .u32 s18.1 (ior .u32 (ior .u32 (ior .u32 (IntKind.u32.wrap q21) (ishl .u32 (IntKind.u32.wrap q26) 8)) (ishl .u32 (IntKind.u32.wrap q31) 16)) (ishl .u32 (IntKind.u32.wrap q36) 24))) 16) 255) : Value) = v,
    fun τ v => (.pointer (some ⟨bi1, 0, none⟩) : Value) = v,
    fun τ v => (.pointer (some ⟨bi1, 0 + 0, none⟩) : Value) = v,
    fun τ v => (.pointer (some ⟨bi1, 0 + 0 + (1 : Int).toNat * 256, none⟩) : Value) = v,
    fun τ v => (.pointer (some ⟨bi1, 0 + 0 + (1 : Int).toNat * 256 + (iand .u32 (ishr .u32 (ixor .u32 s18.1 (ior .u32 (ior .u32 (ior .u32 (IntKind.u32.wrap q21) (ishl .u32 (IntKind.u32.wrap q26) 8)) (ishl .u32 (IntKind.u32.wrap q31) 16)) (ishl .u32 (IntKind.u32.wrap q36) 24))) 16) 255).toNat * 1, none⟩) : Value) = v,
    fun τ v => (.int .u32 (a0.getD (256 + (iand .u32 (ishr .u32 (ixor .u32 s18.1 (ior .u32 (ior .u32 (ior .u32 (IntKind.u32.wrap q21) (ishl .u32 (IntKind.u32.wrap q26) 8)) (ishl .u32 (IntKind.u32.wrap q31) 16)) (ishl .u32 (IntKind.u32.wrap q36) 24))) 16) 255).toNat) 0) : Value) = v,
    fun τ v => (.int .u32 (ixor .u32 (ixor .u32 (a0.getD (768 + (iand .u32 (ixor .u32 s18.1 (ior .u32 (ior .u32 (ior .u32 (IntKind.u32.wrap q21) (ishl .u32 (IntKind.u32.wrap q26) 8)) (ishl .u32 (IntKind.u32.wrap q31) 16)) (ishl .u32 (IntKind.u32.wrap q36) 24))) 255).toNat) 0) (a0.getD (512 + (iand .u32 (ishr .u32 (ixor .u32 s18.1 (ior .u32 (ior .u32 (ior .u32 (IntKind.u32.wrap q21) (ishl .u32 (IntKind.u32.wrap q26) 8)) (ishl .u32 (IntKind.u32.wrap q31) 16)) (ishl .u32 (IntKind.u32.wrap q36) 24))) 8) 255).toNat) 0)) (a0.getD (256 + (iand .u32 (ishr .u32 (ixor .u32 s18.1 (ior .u32 (ior .u32 (ior .u32 (IntKind.u32.wrap q21) (ishl .u32 (IntKind.u32.wrap q26) 8)) (ishl .u32 (IntKind.u32.wrap q31) 16)) (ishl .u32 (IntKind.u32.wrap q36) 24))) 16) 255).toNat) 0)) : Value) = v,
    fun τ v => (.pointer (some ⟨bi1, 0, none⟩) : Value) = v,
    fun τ v => (.int .u32 (ixor .u32 s18.1 (ior .u32 (ior .u32 (ior .u32 (IntKind.u32.wrap q21) (ishl .u32 (IntKind.u32.wrap q26) 8)) (ishl .u32 (IntKind.u32.wrap q31) 16)) (ishl .u32 (IntKind.u32.wrap q36) 24))) : Value) = v,
    fun τ v => (.int .u32 (ishr .u32 (ixor .u32 s18.1 (ior .u32 (ior .u32 (ior .u32 (IntKind.u32.wrap q21) (ishl .u32 (IntKind.u32.wrap q26) 8)) (ishl .u32 (IntKind.u32.wrap q31) 16)) (ishl .u32 (IntKind.u32.wrap q36) 24))) 24) : Value) = v,
    fun τ v => (.pointer (some ⟨bi1, 0, none⟩) : Value) = v,
    fun τ v => (.pointer (some ⟨bi1, 0 + 0, none⟩) : Value) = v,
    fun τ v => (.pointer (some ⟨bi1, 0 + 0 + (0 : Int).toNat * 256, none⟩) : Value) = v,
    fun τ v => (.pointer (some ⟨bi1, 0 + 0 + (0 : Int).toNat * 256 + (ishr .u32 (ixor .u32 s18.1 (ior .u32 (ior .u32 (ior .u32 (IntKind.u32.wrap q21) (ishl .u32 (IntKind.u32.wrap q26) 8)) (ishl .u32 (IntKind.u32.wrap q31) 16)) (ishl .u32 (IntKind.u32.wrap q36) 24))) 24).toNat * 1, none⟩) : Value) = v,
    fun τ v => (.int .u32 (a0.getD ((ishr .u32 (ixor .u32 s18.1 (ior .u32 (ior .u32 (ior .u32 (IntKind.u32.wrap q21) (ishl .u32 (IntKind.u32.wrap q26) 8)) (ishl .u32 (IntKind.u32.wrap q31) 16)) (ishl .u32 (IntKind.u32.wrap q36) 24))) 24).toNat) 0) : Value) = v,
    fun τ v => (.int .u32 (ixor .u32 (ixor .u32 (ixor .u32 (a0.getD (768 + (iand .u32 (ixor .u32 s18.1 (ior .u32 (ior .u32 (ior .u32 (IntKind.u32.wrap q21) (ishl .u32 (IntKind.u32.wrap q26) 8)) (ishl .u32 (IntKind.u32.wrap q31) 16)) (ishl .u32 (IntKind.u32.wrap q36) 24))) 255).toNat) 0) (a0.getD (512 + (iand .u32 (ishr .u32 (ixor .u32 s18.1 (ior .u32 (ior .u32 (ior .u32 (IntKind.u32.wrap q21) (ishl .u32 (IntKind.u32.wrap q26) 8)) (ishl .u32 (IntKind.u32.wrap q31) 16)) (ishl .u32 (IntKind.u32.wrap q36) 24))) 8) 255).toNat) 0)) (a0.getD (256 + (iand .u32 (ishr .u32 (ixor .u32 s18.1 (ior .u32 (ior .u32 (ior .u32 (IntKind.u32.wrap q21) (ishl .u32 (IntKind.u32.wrap q26) 8)) (ishl .u32 (IntKind.u32.wrap q31) 16)) (ishl .u32 (IntKind.u32.wrap q36) 24))) 16) 255).toNat) 0)) (a0.getD ((ishr .u32 (ixor .u32 s18.1 (ior .u32 (ior .u32 (ior .u32 (IntKind.u32.wrap q21) (ishl .u32 (IntKind.u32.wrap q26) 8)) (ishl .u32 (IntKind.u32.wrap q31) 16)) (ishl .u32 (IntKind.u32.wrap q36) 24))) 24).toNat) 0)) : Value) = v]) (fun _ _ => []) z_mix rfl (tl_mono ⟨fun _ _ _ _ h => h, ⟨fun _ _ _ _ h => h, ⟨fun _ _ _ _ h => h, ⟨fun _ _ _ _ h => h, ⟨fun _ _ _ _ h => h, ⟨fun _ _ _ _ h => h, ⟨fun _ _ _ _ h => h, ⟨fun _ _ _ _ h => h, ⟨fun _ _ _ _ h => h, ⟨fun _ _ _ _ h => h, ⟨fun _ _ _ _ h => h, ⟨fun _ _ _ _ h => h, ⟨fun _ _ _ _ h => h, ⟨fun _ _ _ _ h => h, ⟨fun _ _ _ _ h => h, ⟨fun _ _ _ _ h => h, ⟨fun _ _ _ _ h => h, ⟨fun _ _ _ _ h => h, ⟨fun _ _ _ _ h => h, ⟨fun _ _ _ _ h => h, ⟨fun _ _ _ _ h => h, ⟨fun _ _ _ _ h => h, ⟨fun _ _ _ _ h => h, ⟨fun _ _ _ _ h => h, ⟨fun _ _ _ _ h => h, ⟨fun _ _ _ _ h => h, ⟨fun _ _ _ _ h => h, ⟨fun _ _ _ _ h => h, ⟨fun _ _ _ _ h => h, ⟨fun _ _ _ _ h => h, ⟨fun _ _ _ _ h => h, ⟨fun _ _ _ _ h => h, ⟨fun _ _ _ _ h => h, ⟨fun _ _ _ _ h => h, ⟨fun _ _ _ _ h => h, ⟨fun _ _ _ _ h => h, ⟨fun _ _ _ _ h => h, trivial⟩⟩⟩⟩⟩⟩⟩⟩⟩⟩⟩⟩⟩⟩⟩⟩⟩⟩⟩⟩⟩⟩⟩⟩⟩⟩⟩⟩⟩⟩⟩⟩⟩⟩⟩⟩⟩) (allB_cons (allB_cons (allB_cons (allB_cons (allB_cons (allB_cons (allB_cons (allB_cons (allB_cons (allB_cons (allB_cons (allB_cons (allB_cons (allB_cons (allB_cons (allB_cons (allB_cons (allB_cons (allB_cons (allB_cons (allB_cons (allB_cons (allB_cons (allB_cons (allB_cons (allB_cons (allB_cons (allB_cons (allB_cons (allB_cons (allB_cons (allB_cons (allB_cons (allB_cons (allB_cons (allB_cons (allB_cons allB_nil ?_) ?_) ?_) ?_) ?_) ?_) ?_) ?_) ?_) ?_) ?_) ?_) ?_) ?_) ?_) ?_) ?_) ?_) ?_) ?_) ?_) ?_) ?_) ?_) ?_) ?_) ?_) ?_) ?_) ?_) ?_) ?_) ?_) ?_) ?_) ?_) ?_) ?_
    · intro ρ' τ pool rs hl hd hout hk
      refine o_move rfl rfl rfl ((hout 0 rfl).trans rfl) ?_
      exact st_addNil (hk _ _ (Sto.Le.refl _) rfl)
    · intro ρ' τ pool rs hl hd hout hk
      refine o_move rfl rfl rfl ((hout 1 rfl).trans rfl) ?_
      exact st_addNil (hk _ _ (Sto.Le.refl _) rfl)
    · intro ρ' τ pool rs hl hd hout hk
      obtain ⟨_, e1, rfl⟩ := hd 1 rfl
      refine o_ibin (v := .int .u32 (iand .u32 (ixor .u32 s18.1 (ior .u32 (ior .u32 (ior .u32 (IntKind.u32.wrap q21) (ishl .u32 (IntKind.u32.wrap q26) 8)) (ishl .u32 (IntKind.u32.wrap q31) 16)) (ishl .u32 (IntKind.u32.wrap q36) 24))) 255)) rfl rfl rfl e1 rfl rfl ?_
      exact st_addNil (hk _ _ (Sto.Le.refl _) rfl)
    · intro ρ' τ pool rs hl hd hout hk
      obtain ⟨_, e0, rfl⟩ := hd 0 rfl
      refine o_nilCheck rfl rfl rfl e0 ?_
      exact st_addNil (hk _ _ (Sto.Le.refl _) rfl)
    · intro ρ' τ pool rs hl hd hout hk
      obtain ⟨_, e3, rfl⟩ := hd 3 rfl
      refine o_fieldAddr rfl rfl rfl z_field126_0 e3 ?_
      exact st_addNil (hk _ _ (Sto.Le.refl _) rfl)
    · intro ρ' τ pool rs hl hd hout hk
      obtain ⟨_, e4, rfl⟩ := hd 4 rfl
      refine o_indexA rfl rfl rfl z_arr124 e4 rfl (by decide) (by decide) ?_
      exact st_addNil (hk _ _ (Sto.Le.refl _) rfl)
    · intro ρ' τ pool rs hl hd hout hk
      obtain ⟨_, e2, rfl⟩ := hd 2 rfl
      obtain ⟨_, e5, rfl⟩ := hd 5 rfl
      refine o_indexA rfl rfl rfl z_arr123 e5 e2 hf42 hf43 ?_
      exact st_addNil (hk _ _ (Sto.Le.refl _) rfl)
    · intro ρ' τ pool rs hl hd hout hk
      obtain ⟨_, e6, rfl⟩ := hd 6 rfl
      refine o_loadI (v := .int .u32 (a0.getD (768 + (iand .u32 (ixor .u32 s18.1 (ior .u32 (ior .u32 (ior .u32 (IntKind.u32.wrap q21) (ishl .u32 (IntKind.u32.wrap q26) 8)) (ishl .u32 (IntKind.u32.wrap q31) 16)) (ishl .u32 (IntKind.u32.wrap q36) 24))) 255).toNat) 0)) rfl rfl rfl z_sc22 e6 (cel_big (q := (768 + (iand .u32 (ixor .u32 s18.1 (ior .u32 (ior .u32 (ior .u32 (IntKind.u32.wrap q21) (ishl .u32 (IntKind.u32.wrap q26) 8)) (ishl .u32 (IntKind.u32.wrap q31) 16)) (ishl .u32 (IntKind.u32.wrap q36) 24))) 255).toNat)) (hc2.up ((hl18.trans hl41).trans hl)) (by omega) (by omega)) ?_
      exact st_addNil (hk _ _ (Sto.Le.refl _) rfl)
    · intro ρ' τ pool rs hl hd hout hk
      refine o_move rfl rfl rfl ((hout 0 rfl).trans rfl) ?_
      exact st_addNil (hk _ _ (Sto.Le.refl _) rfl)
    · intro ρ' τ pool rs hl hd hout hk
      refine o_move rfl rfl rfl ((hout 1 rfl).trans rfl) ?_
      exact st_addNil (hk _ _ (Sto.Le.refl _) rfl)
    · intro ρ' τ pool rs hl hd hout hk
      obtain ⟨_, e9, rfl⟩ := hd 9 rfl
      refine o_shr rfl rfl rfl e9 rfl (by decide) ?_
      exact st_addNil (hk _ _ (Sto.Le.refl _) rfl)
    · intro ρ' τ pool rs hl hd hout hk
      obtain ⟨_, e10, rfl⟩ := hd 10 rfl
      refine o_ibin (v := .int .u32 (iand .u32 (ishr .u32 (ixor .u32 s18.1 (ior .u32 (ior .u32 (ior .u32 (IntKind.u32.wrap q21) (ishl .u32 (IntKind.u32.wrap q26) 8)) (ishl .u32 (IntKind.u32.wrap q31) 16)) (ishl .u32 (IntKind.u32.wrap q36) 24))) 8) 255)) rfl rfl rfl e10 rfl rfl ?_
      exact st_addNil (hk _ _ (Sto.Le.refl _) rfl)
    · intro ρ' τ pool rs hl hd hout hk
      obtain ⟨_, e8, rfl⟩ := hd 8 rfl
      refine o_nilCheck rfl rfl rfl e8 ?_
      exact st_addNil (hk _ _ (Sto.Le.refl _) rfl)
    · intro ρ' τ pool rs hl hd hout hk
      obtain ⟨_, e12, rfl⟩ := hd 12 rfl
      refine o_fieldAddr rfl rfl rfl z_field126_0 e12 ?_
      exact st_addNil (hk _ _ (Sto.Le.refl _) rfl)
    · intro ρ' τ pool rs hl hd hout hk
      obtain ⟨_, e13, rfl⟩ := hd 13 rfl
      refine o_indexA rfl rfl rfl z_arr124 e13 rfl (by decide) (by decide) ?_
      exact st_addNil (hk _ _ (Sto.Le.refl _) rfl)
    · intro ρ' τ pool rs hl hd hout hk
      obtain ⟨_, e11, rfl⟩ := hd 11 rfl
      obtain ⟨_, e14, rfl⟩ := hd 14 rfl
      refine o_indexA rfl rfl rfl z_arr123 e14 e11 hf44 hf45 ?_
      exact st_addNil (hk _ _ (Sto.Le.refl _) rfl)
    · intro ρ' τ pool rs hl hd hout hk
      obtain ⟨_, e15, rfl⟩ := hd 15 rfl
      refine o_loadI (v := .int .u32 (a0.getD (512 + (iand .u32 (ishr .u32 (ixor .u32 s18.1 (ior .u32 (ior .u32 (ior .u32 (IntKind.u32.wrap q21) (ishl .u32 (IntKind.u32.wrap q26) 8)) (ishl .u32 (IntKind.u32.wrap q31) 16)) (ishl .u32 (IntKind.u32.wrap q36) 24))) 8) 255).toNat) 0)) rfl rfl rfl z_sc22 e15 (cel_big (q := (512 + (iand .u32 (ishr .u32 (ixor .u32 s18.1 (ior .u32 (ior .u32 (ior .u32 (IntKind.u32.wrap q21) (ishl .u32 (IntKind.u32.wrap q26) 8)) (ishl .u32 (IntKind.u32.wrap q31) 16)) (ishl .u32 (IntKind.u32.wrap q36) 24))) 8) 255).toNat)) (hc2.up ((hl18.trans hl41).trans hl)) (by omega) (by omega)) ?_
      exact st_addNil (hk _ _ (Sto.Le.refl _) rfl)
    · intro ρ' τ pool rs hl hd hout hk
      obtain ⟨_, e7, rfl⟩ := hd 7 rfl
      obtain ⟨_, e16, rfl⟩ := hd 16 rfl
      refine o_ibin (v := .int .u32 (ixor .u32 (a0.getD (768 + (iand .u32 (ixor .u32 s18.1 (ior .u32 (ior .u32 (ior .u32 (IntKind.u32.wrap q21) (ishl .u32 (IntKind.u32.wrap q26) 8)) (ishl .u32 (IntKind.u32.wrap q31) 16)) (ishl .u32 (IntKind.u32.wrap q36) 24))) 255).toNat) 0) (a0.getD (512 + (iand .u32 (ishr .u32 (ixor .u32 s18.1 (ior .u32 (ior .u32 (ior .u32 (IntKind.u32.wrap q21) (ishl .u32 (IntKind.u32.wrap q26) 8)) (ishl .u32 (IntKind.u32.wrap q31) 16)) (ishl .u32 (IntKind.u32.wrap q36) 24))) 8) 255).toNat) 0))) rfl rfl rfl e7 e16 rfl ?_
      exact st_addNil (hk _ _ (Sto.Le.refl _) rfl)
    · intro ρ' τ pool rs hl hd hout hk
      refine o_move rfl rfl rfl ((hout 0 rfl).trans rfl) ?_
      exact st_addNil (hk _ _ (Sto.Le.refl _) rfl)
    · intro ρ' τ pool rs hl hd hout hk
      refine o_move rfl rfl rfl ((hout 1 rfl).trans rfl) ?_
      exact st_addNil (hk _ _ (Sto.Le.refl _) rfl)
    · intro ρ' τ pool rs hl hd hout hk
      obtain ⟨_, e19, rfl⟩ := hd 19 rfl
      refine o_shr rfl rfl rfl e19 rfl (by decide) ?_
      exact st_addNil (hk _ _ (Sto.Le.refl _) rfl)
    · intro ρ' τ pool rs hl hd hout hk
      obtain ⟨_, e20, rfl⟩ := hd 20 rfl
      refine o_ibin (v := .int .u32 (iand .u32 (ishr .u32 (ixor .u32 s18.1 (ior .u32 (ior .u32 (ior .u32 (IntKind.u32.wrap q21) (ishl .u32 (IntKind.u32.wrap q26) 8)) (ishl .u32 (IntKind.u32.wrap q31) 16)) (ishl .u32 (IntKind.u32.wrap q36) 24))) 16) 255)) rfl rfl rfl e20 rfl rfl ?_
      exact st_addNil (hk _ _ (Sto.Le.refl _) rfl)
    · intro ρ' τ pool rs hl hd hout hk
      obtain ⟨_, e18, rfl⟩ := hd 18 rfl
      refine o_nilCheck rfl rfl rfl e18 ?_
      exact st_addNil (hk _ _ (Sto.Le.refl _) rfl)
    · intro ρ' τ pool rs hl hd hout hk
      obtain ⟨_, e22, rfl⟩ := hd 22 rfl
      refine o_fieldAddr rfl rfl rfl z_field126_0 e22 ?_
      exact st_addNil (hk _ _ (Sto.Le.refl _) rfl)
    · intro ρ' τ pool rs hl hd hout hk
      obtain ⟨_, e23, rfl⟩ := hd 23 rfl
      refine o_indexA rfl rfl rfl z_arr124 e23 rfl (by decide) (by decide) ?_
      exact st_addNil (hk _ _ (Sto.Le.refl _) rfl)
    · intro ρ' τ pool rs hl hd hout hk
      obtain ⟨_, e21, rfl⟩ := hd 21 rfl
      obtain ⟨_, e24, rfl⟩ := hd 24 rfl
      refine o_indexA rfl rfl rfl z_arr123 e24 e21 hf46 hf47 ?_
      exact st_addNil (hk _ _ (Sto.Le.refl _) rfl)
    · intro ρ' τ pool rs hl hd hout hk
      obtain ⟨_, e25, rfl⟩ := hd 25 rfl
      refine o_loadI (v := .int .u32 (a0.getD (256 + (iand .u32 (ishr .u32 (ixor .u32 s18.1 (ior .u32 (ior .u32 (ior .u32 (IntKind.u32.wrap q21) (ishl .u32 (IntKind.u32.wrap q26) 8)) (ishl .u32 (IntKind.u32.wrap q31) 16)) (ishl .u32 (IntKind.u32.wrap q36) 24))) 16) 255).toNat) 0)) rfl rfl rfl z_sc22 e25 (cel_big (q := (256 + (iand .u32 (ishr .u32 (ixor .u32 s18.1 (ior .u32 (ior .u32 (ior .u32 (IntKind.u32.wrap q21) (ishl .u32 (IntKind.u32.wrap q26) 8)) (ishl .u32 (IntKind.u32.wrap q31) 16)) (ishl .u32 (IntKind.u32.wrap q36) 24))) 16) 255).toNat)) (hc2.up ((hl18.trans hl41).trans hl)) (by omega) (by omega)) ?_
      exact st_addNil (hk _ _ (Sto.Le.refl _) rfl)
    · intro ρ' τ pool rs hl hd hout hk
      obtain ⟨_, e17, rfl⟩ := hd 17 rfl
      obtain ⟨_, e26, rfl⟩ := hd 26 rfl
      refine o_ibin (v := .int .u32 (ixor .u32 (ixor .u32 (a0.getD (768 + (iand .u32 (ixor .u32 s18.1 (ior .u32 (ior .u32 (ior .u32 (IntKind.u32.wrap q21) (ishl .u32 (IntKind.u32.wrap q26) 8)) (ishl .u32 (IntKind.u32.wrap q31) 16)) (ishl .u32 (IntKind.u32.wrap q36) 24))) 255).toNat) 0) (a0.getD (512 + (iand .u32 (ishr .u32 (ixor .u32 s18.1 (ior .u32 (ior .u32 (ior .u32 (IntKind.u32.wrap q21) (ishl .u32 (IntKind.u32.wrap q26) 8)) (ishl .u32 (IntKind.u32.wrap q31) 16)) (ishl .u32 (IntKind.u32.wrap q36) 24))) 8) 255).toNat) 0)) (a0.getD (256 + (iand .u32 (ishr .u32 (ixor .u32 s18.1 (ior .u32 (ior .u32 (ior .u32 (IntKind.u32.wrap q21) (ishl .u32 (IntKind.u32.wrap q26) 8)) (ishl .u32 (IntKind.u32.wrap q31) 16)) (ishl .u32 (IntKind.u32.wrap q36) 24))) 16) 255).toNat) 0))) rfl rfl rfl e17 e26 rfl ?_
      exact st_addNil (hk _ _ (Sto.Le.refl _) rfl)
    · intro ρ' τ pool rs hl hd hout hk
      refine o_move rfl rfl rfl ((hout 0 rfl).trans rfl) ?_
      exact st_addNil (hk _ _ (Sto.Le.refl _) rfl)
    · intro ρ' τ pool rs hl hd hout hk
      refine o_move rfl rfl rfl ((hout 1 rfl).trans rfl) ?_
      exact st_addNil (hk _ _ (Sto.Le.refl _) rfl)
    · intro ρ' τ pool rs hl hd hout hk
      obtain ⟨_, e29, rfl⟩ := hd 29 rfl
      refine o_shr rfl rfl rfl e29 rfl (by decide) ?_
      exact st_addNil (hk _ _ (Sto.Le.refl _) rfl)
    · intro ρ' τ pool rs hl hd hout hk
      obtain ⟨_, e28, rfl⟩ := hd 28 rfl
      refine o_nilCheck rfl rfl rfl e28 ?_
      exact st_addNil (hk _ _ (Sto.Le.refl _) rfl)
    · intro ρ' τ pool rs hl hd hout hk
      obtain ⟨_, e31, rfl⟩ := hd 31 rfl
      refine o_fieldAddr rfl rfl rfl z_field126_0 e31 ?_
      exact st_addNil (hk _ _ (Sto.Le.refl _) rfl)
    · intro ρ' τ pool rs hl hd hout hk
      obtain ⟨_, e32, rfl⟩ := hd 32 rfl
      refine o_indexA rfl rfl rfl z_arr124 e32 rfl (by decide) (by decide) ?_
      exact st_addNil (hk _ _ (Sto.Le.refl _) rfl)
    · intro ρ' τ pool rs hl hd hout hk
      obtain ⟨_, e30, rfl⟩ := hd 30 rfl
      obtain ⟨_, e33, rfl⟩ := hd 33 rfl
      refine o_indexA rfl rfl rfl z_arr123 e33 e30 hf48 hf49 ?_
      exact st_addNil (hk _ _ (Sto.Le.refl _) rfl)
    · intro ρ' τ pool rs hl hd hout hk
      obtain ⟨_, e34, rfl⟩ := hd 34 rfl
      refine o_loadI (v := .int .u32 (a0.getD ((ishr .u32 (ixor .u32 s18.1 (ior .u32 (ior .u32 (ior .u32 (IntKind.u32.wrap q21) (ishl .u32 (IntKind.u32.wrap q26) 8)) (ishl .u32 (IntKind.u32.wrap q31) 16)) (ishl .u32 (IntKind.u32.wrap q36) 24))) 24).toNat) 0)) rfl rfl rfl z_sc22 e34 (cel_big (q := (ishr .u32 (ixor .u32 s18.1 (ior .u32 (ior .u32 (ior .u32 (IntKind.u32.wrap q21) (ishl .u32 (IntKind.u32.wrap q26) 8)) (ishl .u32 (IntKind.u32.wrap q31) 16)) (ishl .u32 (IntKind.u32.wrap q36) 24))) 24).toNat) (hc2.up ((hl18.trans hl41).trans hl)) (by omega) (by omega)) ?_
      exact st_addNil (hk _ _ (Sto.Le.refl _) rfl)
    · intro ρ' τ pool rs hl hd hout hk
      obtain ⟨_, e27, rfl⟩ := hd 27 rfl
      obtain ⟨_, e35, rfl⟩ := hd 35 rfl
      refine o_ibin (v := .int .u32 (ixor .u32 (ixor .u32 (ixor .u32 (a0.getD (768 + (iand .u32 (ixor .u32 s18.1 (ior .u32 (ior .u32 (ior .u32 (IntKind.u32.wrap q21) (ishl .u32 (IntKind.u32.wrap q26) 8)) (ishl .u32 (IntKind.u32.wrap q31) 16)) (ishl .u32 (IntKind.u32.wrap q36) 24))) 255).toNat) 0) (a0.getD (512 + (iand .u32 (ishr .u32 (ixor .u32 s18.1 (ior .u32 (ior .u32 (ior .u32 (IntKind.u32.wrap q21) (ishl .u32 (IntKind.u32.wrap q26) 8)) (ishl .u32 (IntKind.u32.wrap q31) 16)) (ishl .u32 (IntKind.u32.wrap q36) 24))) 8) 255).toNat) 0)) (a0.getD (256 + (iand .u32 (ishr .u32 (ixor .u32 s18.1 (ior .u32 (ior .u32 (ior .u32 (IntKind.u32.wrap q21) (ishl .u32 (IntKind.u32.wrap q26) 8)) (ishl .u32 (IntKind.u32.wrap q31) 16)) (ishl .u32 (IntKind.u32.wrap q36) 24))) 16) 255).toNat) 0)) (a0.getD ((ishr .u32 (ixor .u32 s18.1 (ior .u32 (ior .u32 (ior .u32 (IntKind.u32.wrap q21) (ishl .u32 (IntKind.u32.wrap q26) 8)) (ishl .u32 (IntKind.u32.wrap q31) 16)) (ishl .u32 (IntKind.u32.wrap q36) 24))) 24).toNat) 0))) rfl rfl rfl e27 e35 rfl ?_
      exact st_addNil (hk _ _ (Sto.Le.refl _) rfl)
    intro ρ' τ50 vals hl50 hv hout
    have l36 : Eng.look ρ' 74 = some (.int .u32 (ixor .u32 (ixor .u32 (ixor .u32 (a0.getD (768 + (iand .u32 (ixor .u32 s18.1 (ior .u32 (ior .u32 (ior .u32 (IntKind.u32.wrap q21) (ishl .u32 (IntKind.u32.wrap q26) 8)) (ishl .u32 (IntKind.u32.wrap q31) 16)) (ishl .u32 (IntKind.u32.wrap q36) 24))) 255).toNat) 0) (a0.getD (512 + (iand .u32 (ishr .u32 (ixor .u32 s18.1 (ior .u32 (ior .u32 (ior .u32 (IntKind.u32.wrap q21) (ishl .u32 (IntKind.u32.wrap q26) 8)) (ishl .u32 (IntKind.u32.wrap q31) 16)) (ishl .u32 (IntKind.u32.wrap q36) 24))) 8) 255).toNat) 0)) (a0.getD (256 + (iand .u32 (ishr .u32 (ixor .u32 s18.1 (ior .u32 (ior .u32 (ior .u32 (IntKind.u32.wrap q21) (ishl .u32 (IntKind.u32.wrap q26) 8)) (ishl .u32 (IntKind.u32.wrap q31) 16)) (ishl .u32 (IntKind.u32.wrap q36) 24))) 16) 255).toNat) 0)) (a0.getD ((ishr .u32 (ixor .u32 s18.1 (ior .u32 (ior .u32 (ior .u32 (IntKind.u32.wrap q21) (ishl .u32 (IntKind.u32.wrap q26) 8)) (ishl .u32 (IntKind.u32.wrap q31) 16)) (ishl .u32 (IntKind.u32.wrap q36) 24))) 24).toNat) 0))) := (hv 36 (by decide)).1.trans (congrArg some (show vals 36 = .int .u32 (ixor .u32 (ixor .u32 (ixor .u32 (a0.getD (768 + (iand .u32 (ixor .u32 s18.1 (ior .u32 (ior .u32 (ior .u32 (IntKind.u32.wrap q21) (ishl .u32 (IntKind.u32.wrap q26) 8)) (ishl .u32 (IntKind.u32.wrap q31) 16)) (ishl .u32 (IntKind.u32.wrap q36) 24))) 255).toNat) 0) (a0.getD (512 + (iand .u32 (ishr .u32 (ixor .u32 s18.1 (ior .u32 (ior .u32 (ior .u32 (IntKind.u32.wrap q21) (ishl .u32 (IntKind.u32.wrap q26) 8)) (ishl .u32 (IntKind.u32.wrap q31) 16)) (ishl .u32 (IntKind.u32.wrap q36) 24))) 8) 255).toNat) 0)) (a0.getD (256 + (iand .u32 (ishr .u32 (ixor .u32 s18.1 (ior .u32 (ior .u32 (ior .u32 (IntKind.u32.wrap q21) (ishl .u32 (IntKind.u32.wrap q26) 8)) (ishl .u32 (IntKind.u32.wrap q31) 16)) (ishl .u32 (IntKind.u32.wrap q36) 24))) 16) 255).toNat) 0)) (a0.getD ((ishr .u32 (ixor .u32 s18.1 (ior .u32 (ior .u32 (ior .u32 (IntKind.u32.wrap q21) (ishl .u32 (IntKind.u32.wrap q26) 8)) (ishl .u32 (IntKind.u32.wrap q31) 16)) (ishl .u32 (IntKind.u32.wrap q36) 24))) 24).toNat) 0)) from Eq.symm (hv 36 (by decide)).2))
    refine st_ord [] [] rfl ?_
    refine st_env (ρ' := [(74, .int .u32 (ixor .u32 (ixor .u32 (ixor .u32 (a0.getD (768 + (iand .u32 (ixor .u32 s18.1 (ior .u32 (ior .u32 (ior .u32 (IntKind.u32.wrap q21) (ishl .u32 (IntKind.u32.wrap q26) 8)) (ishl .u32 (IntKind.u32.wrap q31) 16)) (ishl .u32 (IntKind.u32.wrap q36) 24))) 255).toNat) 0) (a0.getD (512 + (iand .u32 (ishr .u32 (ixor .u32 s18.1 (ior .u32 (ior .u32 (ior .u32 (IntKind.u32.wrap q21) (ishl .u32 (IntKind.u32.wrap q26) 8)) (ishl .u32 (IntKind.u32.wrap q31) 16)) (ishl .u32 (IntKind.u32.wrap q36) 24))) 8) 255).toNat) 0)) (a0.getD (256 + (iand .u32 (ishr .u32 (ixor .u32 s18.1 (ior .u32 (ior .u32 (ior .u32 (IntKind.u32.wrap q21) (ishl .u32 (IntKind.u32.wrap q26) 8)) (ishl .u32 (IntKind.u32.wrap q31) 16)) (ishl .u32 (IntKind.u32.wrap q36) 24))) 16) 255).toNat) 0)) (a0.getD ((ishr .u32 (ixor .u32 s18.1 (ior .u32 (ior .u32 (ior .u32 (IntKind.u32.wrap q21) (ishl .u32 (IntKind.u32.wrap q26) 8)) (ishl .u32 (IntKind.u32.wrap q31) 16)) (ishl .u32 (IntKind.u32.wrap q36) 24))) 24).toNat) 0))), (0, .pointer (some ⟨bi1, 0, none⟩)), (2, v19), (6, .int .u32 0)]) ⟨l36, (hout 0 rfl).trans rfl, (hout 2 rfl).trans rfl, (hout 6 rfl).trans rfl, trivial⟩ ?_
    refine o_assign rfl rfl rfl rfl ?_
    refine st_end ?_
    refine st_region ?_
    refine o_move rfl rfl rfl rfl ?_
    obtain ⟨hf51, h⟩ := h
    obtain ⟨hf52, h⟩ := h
    refine o_slice (L := 4) (H := (s18.2.length : Int)) rfl rfl rfl z_slT31 rfl rfl (hs20.up (hl41.trans hl50)) ⟨_, rfl⟩ rfl (by decide) hf51 hf52 trivial (by simp) (fun v53 hs54 => ?_)
    refine o_assign rfl rfl rfl rfl ?_
    refine st_end ?_
    refine st_inBlock ?_
    refine st_env (ρ' := [(0, .pointer (some ⟨bi1, 0, none⟩)), (1, .int .u32 (ixor .u32 (ixor .u32 (ixor .u32 (a0.getD (768 + (iand .u32 (ixor .u32 s18.1 (ior .u32 (ior .u32 (ior .u32 (IntKind.u32.wrap q21) (ishl .u32 (IntKind.u32.wrap q26) 8)) (ishl .u32 (IntKind.u32.wrap q31) 16)) (ishl .u32 (IntKind.u32.wrap q36) 24))) 255).toNat) 0) (a0.getD (512 + (iand .u32 (ishr .u32 (ixor .u32 s18.1 (ior .u32 (ior .u32 (ior .u32 (IntKind.u32.wrap q21) (ishl .u32 (IntKind.u32.wrap q26) 8)) (ishl .u32 (IntKind.u32.wrap q31) 16)) (ishl .u32 (IntKind.u32.wrap q36) 24))) 8) 255).toNat) 0)) (a0.getD (256 + (iand .u32 (ishr .u32 (ixor .u32 s18.1 (ior .u32 (ior .u32 (ior .u32 (IntKind.u32.wrap q21) (ishl .u32 (IntKind.u32.wrap q26) 8)) (ishl .u32 (IntKind.u32.wrap q31) 16)) (ishl .u32 (IntKind.u32.wrap q36) 24))) 16) 255).toNat) 0)) (a0.getD ((ishr .u32 (ixor .u32 s18.1 (ior .u32 (ior .u32 (ior .u32 (IntKind.u32.wrap q21) (ishl .u32 (IntKind.u32.wrap q26) 8)) (ishl .u32 (IntKind.u32.wrap q31) 16)) (ishl .u32 (IntKind.u32.wrap q36) 24))) 24).toNat) 0))), (2, v53), (6, .int .u32 0)]) ⟨rfl, rfl, rfl, rfl, trivial⟩ ?_
    exact hn18 _ _ _ _ h ⟨((hl18.trans hl41).trans hl50), _, rfl, rfl, hs54⟩
theorem crc_Table_End_ok {a0 : List Int} {a1 : Int} {bi1 : Nat} {r : Int} (h : crc_Table_End a0 a1 r) (σ : Sto) (hc2 : CelN σ ⟨bi1, 0, none⟩ (cellsN (Value.int .u32) 0 1024 a0)) :
    Does Tryd.prog 101 [.pointer (some ⟨bi1, 0, none⟩), .int .u32 a1] σ [] (fun v τ gs => gs = [] ∧ .int .u32 r = v) := by
  refine call_of Tryd.func101 Tryd.ntmps101 rfl rfl (fun cs fs => ?_)
  refine st_seq ?_
  refine st_region ?_
  refine o_assign rfl rfl rfl rfl ?_
  refine st_end ?_
  refine st_seq ?_
  refine st_seq ?_
  refine st_region ?_
  refine o_move rfl rfl rfl rfl ?_
  refine o_ptrNil (b := false) rfl rfl rfl Tryd.underlying90 rfl rfl rfl ?_
  refine st_end ?_
  refine st_condF rfl ?_
  refine st_skip ?_
  refine st_seq ?_
  refine st_region ?_
  refine o_move rfl rfl rfl rfl ?_
  refine o_compl rfl rfl rfl rfl rfl ?_
  refine o_assign rfl rfl rfl rfl ?_
  refine st_end ?_
  obtain rfl := Eq.symm h
  exact st_ret (gs' := []) Tryd.func101 rfl (List.Sublist.refl _) (Sto.Le.refl _) ⟨rfl, rfl⟩
theorem crc_Table_Sum_ok {a0 : List Int} {a1 : List (List Int)} {bi1 : Nat} {v3 : Value} {r : Int} (h : crc_Table_Sum a0 a1 r) (σ : Sto) (hc2 : CelN σ ⟨bi1, 0, none⟩ (cellsN (Value.int .u32) 0 1024 a0)) (hs4 : Sl (kSl (kI .u8)) σ v3 a1) :
    Does Tryd.prog 76 [.pointer (some ⟨bi1, 0, none⟩), v3] σ [] (fun v τ gs => gs = [] ∧ .int .u32 r = v) := by
  refine call_of Tryd.func76 Tryd.ntmps76 rfl rfl (fun cs fs => ?_)
  refine st_seq ?_
  refine st_region ?_
  refine o_assign rfl rfl rfl rfl ?_
  refine st_end ?_
  refine st_seq ?_
  refine st_region ?_
  refine o_move rfl rfl rfl rfl ?_
  obtain ⟨r5, hr6, h⟩ := h
  refine st_call (foot := []) rfl rfl rfl rfl rfl rfl (callV_fn z_en99 (crc_Table_Begin_ok hr6 σ hc2)) ?_
  rintro vτ7 τ7 gsτ7 hl8 ⟨rfl, rfl⟩
  refine o_assign rfl rfl rfl rfl ?_
  refine st_end ?_
  refine st_seq ?_
  refine st_cut (fun ρ τ9 gs => ∃ (s9 : Int), crc_Table_Sum_j1 a0 s9 r ∧ τ7.Le τ9 ∧ ρ = [(0, .pointer (some ⟨bi1, 0, none⟩)), (4, .int .u32 0), (5, .int .u32 s9)] ∧ gs = []) ?_ (fun hk9 => ?_)
  · rintro ρ9 τ9 gs9 ⟨s9, h, hl9, rfl, rfl⟩
    refine st_seq ?_
    refine st_region ?_
    refine o_move rfl rfl rfl rfl ?_
    refine o_move rfl rfl rfl rfl ?_
    obtain ⟨r10, hr11, h⟩ := h
    refine st_call (foot := []) rfl rfl rfl rfl rfl rfl (callV_fn z_en101 (crc_Table_End_ok hr11 τ9 (hc2.up (hl8.trans hl9)))) ?_
    rintro vτ12 τ12 gsτ12 hl13 ⟨rfl, rfl⟩
    refine o_assign rfl rfl rfl rfl ?_
    refine st_end ?_
    obtain rfl := Eq.symm h
    exact st_ret (gs' := []) Tryd.func76 rfl (List.Sublist.refl _) ((hl8.trans hl9).trans hl13) ⟨rfl, rfl⟩
  refine st_seq ?_
  refine st_region ?_
  refine o_move rfl rfl rfl rfl ?_
  refine o_lenI rfl rfl rfl z_slT153 rfl (hs4.up hl8) ?_
  refine o_move rfl rfl rfl rfl ?_
  refine st_end ?_
  obtain ⟨e14, hL14, hA14⟩ := h
  refine st_env (ρ' := [(0, .pointer (some ⟨bi1, 0, none⟩)), (4, .int .u32 0), (5, .int .u32 r5), (10, v3), (11, .int .i64 (a1.length : Int)), (12, .int .i64 0)]) ⟨rfl, rfl, rfl, rfl, rfl, rfl, trivial⟩ ?_
  refine st_loop hL14 (fun (s14 : Int × Int) ρ τ14 gs => τ7.Le τ14 ∧ ρ = [(0, .pointer (some ⟨bi1, 0, none⟩)), (4, .int .u32 0), (5, .int .u32 s14.1), (10, v3), (11, .int .i64 (a1.length : Int)), (12, .int .i64 s14.2)] ∧ gs = []) ⟨Sto.Le.refl _, rfl, rfl⟩ ?_
  rintro s14 o14 h he14 ρ14 τ14 gs14 ⟨hl14, rfl, rfl⟩ hn14
  refine st_seq ?_
  refine st_region ?_
  refine o_ibin (v := .bool (decide (s14.2 < (a1.length : Int)))) rfl rfl rfl rfl rfl rfl ?_
  refine st_end ?_
  refine st_seq ?_
  refine st_cond rfl (fun hc => ?_) (fun hc => ?_)
  · replace h := (if_pos hc).mp h
    refine st_skip ?_
    refine st_seq ?_
    refine st_block ?_
    refine st_seq ?_
    refine st_region ?_
    obtain ⟨q15, hf16, h⟩ := h
    refine o_index rfl rfl rfl z_slT153 rfl rfl (hs4.up (hl8.trans hl14)) rfl hf16 (fun b17 of18 vs hc20 hrep => ?_)
    obtain ⟨v19, rfl, hs21⟩ := hrep
    refine o_loadI (v := v19) rfl rfl rfl z_sc31 rfl (hc20 0 _ rfl) ?_
    refine o_assign rfl rfl rfl rfl ?_
    refine st_end ?_
    refine st_region ?_
    refine o_move rfl rfl rfl rfl ?_
    refine o_move rfl rfl rfl rfl ?_
    refine o_move rfl rfl rfl rfl ?_
    obtain ⟨r22, hr23, h⟩ := h
    refine st_call (foot := []) rfl rfl rfl rfl rfl rfl (callV_fn z_en100 (crc_Table_Add_ok hr23 τ14 (hc2.up (hl8.trans hl14)) hs21)) ?_
    rintro vτ24 τ24 gsτ24 hl25 ⟨rfl, rfl⟩
    refine o_assign rfl rfl rfl rfl ?_
    refine st_end ?_
    refine st_inBlock ?_
    refine st_region ?_
    refine o_ibin (v := .int .i64 (IntKind.i64.wrap (s14.2 + 1))) rfl rfl rfl rfl rfl rfl ?_
    refine o_move rfl rfl rfl rfl ?_
    refine st_end ?_
    refine st_env (ρ' := [(0, .pointer (some ⟨bi1, 0, none⟩)), (4, .int .u32 0), (5, .int .u32 r22), (10, v3), (11, .int .i64 (a1.length : Int)), (12, .int .i64 (IntKind.i64.wrap (s14.2 + 1)))]) ⟨rfl, rfl, rfl, rfl, rfl, rfl, trivial⟩ ?_
    exact hn14 _ _ _ _ h ⟨(hl14.trans hl25), rfl, rfl⟩
  · replace h := (if_neg (ne_t hc)).mp h
    refine st_exit rfl ?_
    obtain rfl := he14 _ h
    replace h := hA14
    refine st_env (ρ' := [(0, .pointer (some ⟨bi1, 0, none⟩)), (4, .int .u32 0), (5, .int .u32 s14.1)]) ⟨rfl, rfl, rfl, trivial⟩ ?_
    exact hk9 _ _ _ ⟨s14.1, h, hl14, rfl, rfl⟩
theorem crc_bytes_ok {a0 : Int} {r : List Int} (h : crc_bytes a0 r) (σ : Sto)  :
    Does Tryd.prog 75 [.int .u32 a0] σ [] (fun v τ gs => gs = [] ∧ .agg [.int .u8 (r.getD 0 0), .int .u8 (r.getD 1 0), .int .u8 (r.getD 2 0), .int .u8 (r.getD 3 0)].toArray = v) := by
  refine call_of Tryd.func75 Tryd.ntmps75 rfl rfl (fun cs fs => ?_)
  refine st_seq ?_
  refine st_region ?_
  refine o_alloc rfl rfl rfl z_zero120 (fun b1 => ?_)
  refine st_end ?_
  refine st_seq ?_
  refine st_region ?_
  refine o_move rfl rfl rfl rfl ?_
  refine o_conv rfl rfl rfl Tryd.underlying22 Tryd.underlying5 rfl ?_
  refine o_move rfl rfl rfl rfl ?_
  refine o_shr rfl rfl rfl rfl rfl (by decide) ?_
  refine o_conv rfl rfl rfl Tryd.underlying22 Tryd.underlying5 rfl ?_
  refine o_move rfl rfl rfl rfl ?_
  refine o_shr rfl rfl rfl rfl rfl (by decide) ?_
  refine o_conv rfl rfl rfl Tryd.underlying22 Tryd.underlying5 rfl ?_
  refine o_move rfl rfl rfl rfl ?_
  refine o_shr rfl rfl rfl rfl rfl (by decide) ?_
  refine o_conv rfl rfl rfl Tryd.underlying22 Tryd.underlying5 rfl ?_
  refine o_buildA (ps := [(0, [.int .u8 (IntKind.u8.wrap a0)]), (1, [.int .u8 (IntKind.u8.wrap (ishr .u32 a0 8))]), (2, [.int .u8 (IntKind.u8.wrap (ishr .u32 a0 16))]), (3, [.int .u8 (IntKind.u8.wrap (ishr .u32 a0 24))])]) (cs := [.int .u8 (IntKind.u8.wrap a0), .int .u8 (IntKind.u8.wrap (ishr .u32 a0 8)), .int .u8 (IntKind.u8.wrap (ishr .u32 a0 16)), .int .u8 (IntKind.u8.wrap (ishr .u32 a0 24))]) rfl rfl rfl z_arrz120 ⟨rfl, ⟨_, rfl, rfl⟩, ⟨rfl, ⟨_, rfl, rfl⟩, ⟨rfl, ⟨_, rfl, rfl⟩, ⟨rfl, ⟨_, rfl, rfl⟩, trivial⟩⟩⟩⟩ (fill_all [.int .u8 (IntKind.u8.wrap a0), .int .u8 (IntKind.u8.wrap (ishr .u32 a0 8)), .int .u8 (IntKind.u8.wrap (ishr .u32 a0 16)), .int .u8 (IntKind.u8.wrap (ishr .u32 a0 24))] _ rfl) ?_
  refine o_store (j := 0) (vs := [.int .u8 (IntKind.u8.wrap a0), .int .u8 (IntKind.u8.wrap (ishr .u32 a0 8)), .int .u8 (IntKind.u8.wrap (ishr .u32 a0 16)), .int .u8 (IntKind.u8.wrap (ishr .u32 a0 24))]) (cs' := [.int .u8 (IntKind.u8.wrap a0), .int .u8 (IntKind.u8.wrap (ishr .u32 a0 8)), .int .u8 (IntKind.u8.wrap (ishr .u32 a0 16)), .int .u8 (IntKind.u8.wrap (ishr .u32 a0 24))]) rfl rfl rfl z_size120 rfl rfl rfl (ones_cons rfl (ones_cons rfl (ones_cons rfl (ones_cons rfl ones_nil)))) rfl rfl rfl ?_
  refine st_gs [[(b1, .cells [.int .u8 (IntKind.u8.wrap a0), .int .u8 (IntKind.u8.wrap (ishr .u32 a0 8)), .int .u8 (IntKind.u8.wrap (ishr .u32 a0 16)), .int .u8 (IntKind.u8.wrap (ishr .u32 a0 24))].toArray 120 (0, 0))]] rfl ?_
  refine st_end ?_
  obtain rfl := Eq.symm h
  exact st_retC (gs' := []) [.agg [.int .u8 (IntKind.u8.wrap a0), .int .u8 (IntKind.u8.wrap (ishr .u32 a0 8)), .int .u8 (IntKind.u8.wrap (ishr .u32 a0 16)), .int .u8 (IntKind.u8.wrap (ishr .u32 a0 24))].toArray] Tryd.func75 ⟨⟨_, _, _, _, rfl, mem_flat 0 rfl, fun w hw => cellOfN (vs := [.int .u8 (IntKind.u8.wrap a0), .int .u8 (IntKind.u8.wrap (ishr .u32 a0 8)), .int .u8 (IntKind.u8.wrap (ishr .u32 a0 16)), .int .u8 (IntKind.u8.wrap (ishr .u32 a0 24))]) z_agg120 rfl w hw⟩, trivial⟩ (by simp) (Sto.Le.refl _) ⟨rfl, rfl⟩
theorem crc_Seal_ok {a0 : List Int} {a1 : List Int} {bi1 : Nat} {v3 : Value} {r : List Int} (h : crc_Seal a0 a1 r) (σ : Sto) (hc2 : CelN σ ⟨bi1, 0, none⟩ (cellsN (Value.int .u32) 0 1024 a0)) (hs4 : Sl (kI .u8) σ v3 a1) :
    Does Tryd.prog 49 [.pointer (some ⟨bi1, 0, none⟩), v3] σ [] (fun v τ gs => ∃ (v55 : Value), gs = [] ∧ v55 = v ∧ Sl (kI .u8) τ v55 r) := by
  refine call_of Tryd.func49 Tryd.ntmps49 rfl rfl (fun cs fs => ?_)
  refine st_seq ?_
  refine st_region ?_
  refine o_assign rfl rfl rfl rfl ?_
  refine st_end ?_
  refine st_seq ?_
  refine st_seq ?_
  refine st_region ?_
  refine o_move rfl rfl rfl rfl ?_
  refine o_ptrNil (b := false) rfl rfl rfl Tryd.underlying90 rfl rfl rfl ?_
  refine st_end ?_
  refine st_condF rfl ?_
  refine st_skip ?_
  refine st_seq ?_
  refine st_region ?_
  refine o_move rfl rfl rfl rfl ?_
  refine o_move rfl rfl rfl rfl ?_
  refine o_lit (dk := (kSl (kI .u8))) (xs := [a1]) (ps := [(0, [v3])]) (cs := [v3]) rfl rfl rfl z_slT153 z_zero31 ⟨rfl, ⟨_, rfl, (oneL_sl hs4)⟩, trivial⟩ rfl rfl rfl rfl (Kd.Many.cons (a := [v3]) ⟨_, rfl, hs4⟩ Kd.Many.nil) (fun v5 g6 ho7 => ?_)
  obtain ⟨r12, hr13, h⟩ := h
  refine st_freeze (fun τ8 hl9 hg10 => ?_)
  have hs11 := ho7.freeze hl9 hg10
  refine st_call (foot := []) rfl rfl rfl rfl rfl rfl (callV_fn z_en76 (crc_Table_Sum_ok hr13 τ8 (hc2.up hl9) hs11)) ?_
  rintro vτ14 τ14 gsτ14 hl15 ⟨rfl, rfl⟩
  obtain ⟨r16, hr17, h⟩ := h
  refine st_call (foot := []) rfl rfl rfl rfl rfl rfl (callV_fn z_en75 (crc_bytes_ok hr17 τ14)) ?_
  rintro vτ18 τ18 gsτ18 hl19 ⟨rfl, rfl⟩
  refine o_alloc rfl rfl rfl z_zero120 (fun b20 => ?_)
  refine o_store (j := 0) (vs := [.int .u8 (r16.getD 0 0), .int .u8 (r16.getD 1 0), .int .u8 (r16.getD 2 0), .int .u8 (r16.getD 3 0)]) (cs' := [.int .u8 (r16.getD 0 0), .int .u8 (r16.getD 1 0), .int .u8 (r16.getD 2 0), .int .u8 (r16.getD 3 0)]) rfl rfl rfl z_size120 rfl rfl rfl (ones_cons rfl (ones_cons rfl (ones_cons rfl (ones_cons rfl ones_nil)))) rfl rfl rfl ?_
  refine st_gs [[(b20, .cells [.int .u8 (r16.getD 0 0), .int .u8 (r16.getD 1 0), .int .u8 (r16.getD 2 0), .int .u8 (r16.getD 3 0)].toArray 120 (0, 0))]] rfl ?_
  refine st_end ?_
  refine st_seq ?_
  obtain ⟨hf33, h⟩ := h
  obtain ⟨hf34, h⟩ := h
  obtain ⟨hf44, h⟩ := h
  obtain ⟨hf45, h⟩ := h
  refine st_freeze (fun τ21 hl22 hg23 => ?_)
  refine st_draw2 (gs := []) (F0 := []) 5 3 (tlS [some 0, none, some 1, none, some 2]) (tlN [0, 13, 15, 17]) (tl [fun _ _ => True,
    fun τ v => (v3 : Value) = v,
    fun _ _ => True,
    fun τ v => ∃ (v38 : Value), (v38 : Value) = v ∧ Sl (kI .u8) τ v38 [(r16.getD 0 0), (r16.getD 1 0), (r16.getD 2 0), (r16.getD 3 0)],
    fun _ _ => True]) (tlI [fun τ u F => F = [],
    fun τ u F => ∃ (v27 : Value) (g28 : Grp), F = [g28] ∧ v27 = u ∧ Ow (kI .u8) 5 τ v27 ([] : List Int) g28,
    fun τ u F => ∃ (v35 : Value) (g36 : Grp), F = [g36] ∧ v35 = u ∧ Ow (kI .u8) 5 τ v35 (([] : List Int) ++ a1) g36,
    fun τ u F => ∃ (v46 : Value) (g47 : Grp), F = [g47] ∧ v46 = u ∧ Ow (kI .u8) 5 τ v46 ((([] : List Int) ++ a1) ++ [(r16.getD 0 0), (r16.getD 1 0), (r16.getD 2 0), (r16.getD 3 0)]) g47]) z_mix rfl (tl_mono ⟨fun _ _ _ _ _ => trivial, ⟨fun _ _ _ _ h => h, ⟨fun _ _ _ _ _ => trivial, ⟨fun _ _ _ hl ⟨v38, hv, hs39⟩ => ⟨v38, hv, hs39.up hl⟩, ⟨fun _ _ _ _ _ => trivial, trivial⟩⟩⟩⟩⟩) (tlI_mono ⟨fun _ _ _ _ hl h => h, ⟨fun _ _ _ _ hl h => (let ⟨v27, g28, hF, hU, ho29⟩ := h; ⟨v27, g28, hF, hU, ho29.up hl⟩), ⟨fun _ _ _ _ hl h => (let ⟨v35, g36, hF, hU, ho37⟩ := h; ⟨v35, g36, hF, hU, ho37.up hl⟩), ⟨fun _ _ _ _ hl h => (let ⟨v46, g47, hF, hU, ho48⟩ := h; ⟨v46, g47, hF, hU, ho48.up hl⟩), trivial⟩⟩⟩⟩) rfl (rowSd rfl) rfl (allB_cons (allB_cons (allB_cons (allB_cons (allB_cons allB_nil ?_) ?_) ?_) ?_) ?_) ?_
  · intro ρ' τ u Fv rs hl hI hu hd hout hk
    have hI0 := hI
    obtain rfl := hI
    refine st_gs [] rfl ?_
    refine o_lit (dk := (kI .u8)) (xs := ([] : List Int)) (ps := []) (cs := []) rfl rfl rfl z_slT31 z_zero5 trivial rfl rfl rfl rfl Kd.Many.nil (fun v24 g25 ho26 => ?_)
    exact hk _ _ [g25] (Sto.Le.refl _) trivial ⟨v24, g25, rfl, rfl, ho26⟩
  · intro ρ' τ Fv rs hl hd hout hk
    refine st_flat (gs := []) (fun pool hp => ?_)
    refine o_move rfl rfl rfl ((hout 1 rfl).trans rfl) ?_
    exact st_unflat (gs := []) hp (hk _ _ (Sto.Le.refl _) rfl)
  · intro ρ' τ u Fv rs hl hI hu hd hout hk
    obtain ⟨_, e1, rfl⟩ := hd 1 rfl
    obtain ⟨v27, g28, rfl, rfl, ho29⟩ := hI
    refine st_gs [g28] rfl ?_
    refine o_append (dk := (kI .u8)) (xs := ([] : List Int)) (ys := a1) rfl rfl rfl rfl z_slT31 (hu (by decide)) ho29 e1 (Sl.src (hs4.up ((((hl9.trans hl15).trans hl19).trans hl22).trans hl))) hf33 hf34 (fun v30 g31 ho32 => ?_)
    exact hk _ _ [g31] (Sto.Le.refl _) trivial ⟨v30, g31, rfl, rfl, ho32⟩
  · intro ρ' τ Fv rs hl hd hout hk
    refine st_flat (gs := []) (fun pool hp => ?_)
    refine o_sliceF (dk := (kI .u8)) (xs := [(r16.getD 0 0), (r16.getD 1 0), (r16.getD 2 0), (r16.getD 3 0)]) rfl rfl rfl z_arr120 ((hout 5 rfl).trans rfl) (hl.imm _ _ (hg23 _ List.mem_cons_self)) (manyI [(r16.getD 0 0), (r16.getD 1 0), (r16.getD 2 0), (r16.getD 3 0)]) rfl rfl (fun v38 hs39 hF40 => ?_)
    exact st_unflat (gs := []) hp (hk _ _ (Sto.Le.refl _) ⟨v38, rfl, hs39⟩)
  · intro ρ' τ u Fv rs hl hI hu hd hout hk
    obtain ⟨_, e3, v38, rfl, hs39⟩ := hd 3 rfl
    obtain ⟨v35, g36, rfl, rfl, ho37⟩ := hI
    refine st_gs [g36] rfl ?_
    refine o_append (dk := (kI .u8)) (xs := (([] : List Int) ++ a1)) (ys := [(r16.getD 0 0), (r16.getD 1 0), (r16.getD 2 0), (r16.getD 3 0)]) rfl rfl rfl rfl z_slT31 (hu (by decide)) ho37 e3 (Sl.src hs39) hf44 hf45 (fun v41 g42 ho43 => ?_)
    exact hk _ _ [g42] (Sto.Le.refl _) trivial ⟨v41, g42, rfl, rfl, ho43⟩
  intro ρ' τ49 vals u Fv hl49 hI hu hv hout
  obtain ⟨v46, g47, rfl, rfl, ho48⟩ := hI
  refine st_gs [g47] rfl ?_
  refine st_env (ρ' := [(4, .slice none 0 0), (17, v46)]) ⟨(hout 4 rfl).trans rfl, (by exact hu), trivial⟩ ?_
  refine o_assign rfl rfl rfl rfl ?_
  refine st_end ?_
  refine st_freeze (fun τ50 hl51 hg52 => ?_)
  have hs53 := ho48.freeze hl51 hg52
  obtain rfl := Eq.symm h
  exact st_ret (gs' := []) Tryd.func49 rfl (List.Sublist.refl _) (((((hl9.trans hl15).trans hl19).trans hl22).trans hl49).trans hl51) ⟨_, rfl, rfl, hs53⟩
theorem ack_Bytes_ok {a0 : Int × Int} {r : List Int} (h : ack_Bytes a0 r) (σ : Sto)  :
    Does Tryd.prog 22 [.agg [.int .u32 a0.1, .int .u64 a0.2].toArray] σ [] (fun v τ gs => ∃ (v46 : Value), gs = [] ∧ v46 = v ∧ Sl (kI .u8) τ v46 r) := by
  refine call_of Tryd.func22 Tryd.ntmps22 rfl rfl (fun cs fs => ?_)
  refine st_seq ?_
  refine st_region ?_
  refine o_box (cs := [.int .u32 a0.1, .int .u64 a0.2]) rfl rfl rfl rfl rfl (fun b1 => ?_)
  refine o_assign rfl rfl rfl rfl ?_
  refine st_end ?_
  refine st_seq ?_
  refine st_region ?_
  obtain ⟨r2, hr3, h⟩ := h
  refine st_call (foot := []) rfl rfl rfl rfl rfl rfl (callV_fn z_en47 (pen_New_ok hr3 σ)) ?_
  rintro vτ4 τ4 gsτ4 hl5 ⟨b6, v7, g8, rfl, rfl, ho9⟩
  refine o_assign rfl rfl rfl rfl ?_
  refine st_end ?_
  refine st_seq ?_
  refine st_cut (fun ρ τ10 gs => ∃ (s10 : List Int × Int × Bool) (v11 : Value) (g12 : Grp), ack_Bytes_j1 s10 r ∧ τ4.Le τ10 ∧ ρ = [(2, .slice none 0 0), (3, .pointer (some ⟨b6, 0, none⟩))] ∧ gs = [[(b6, .cells [v11, .int .i64 s10.2.1, .bool s10.2.2].toArray 118 (0, 0))], g12] ∧ Ow (kI .u8) 5 τ10 v11 s10.1 g12) ?_ (fun hk10 => ?_)
  · rintro ρ10 τ10 gs10 ⟨s10, v11, g12, h, hl10, rfl, rfl, ho13⟩
    refine st_seq ?_
    refine st_region ?_
    obtain ⟨r14, hr15, h⟩ := h
    refine st_call (foot := []) rfl rfl rfl rfl rfl rfl (callV_fn z_en50 (crc_New_ok hr15 τ10)) ?_
    rintro vτ16 τ16 gsτ16 hl17 ⟨bi18, rfl, rfl, hc19⟩
    refine o_move rfl rfl rfl rfl ?_
    obtain ⟨r20, hr21, h⟩ := h
    refine st_call (foot := [[(b6, .cells [v11, .int .i64 s10.2.1, .bool s10.2.2].toArray 118 (0, 0))], g12]) rfl rfl rfl rfl rfl rfl (callV_fn z_en51 (pen_Pen_Bytes_ok hr21 τ16 (ho13.up hl17))) ?_
    rintro vτ22 τ22 gsτ22 hl23 ⟨v24, rfl, rfl, hs25⟩
    obtain ⟨r26, hr27, h⟩ := h
    refine st_call (foot := []) rfl rfl rfl rfl rfl rfl (callV_fn z_en49 (crc_Seal_ok hr27 τ22 (hc19.up hl23) hs25)) ?_
    rintro vτ28 τ28 gsτ28 hl29 ⟨v30, rfl, rfl, hs31⟩
    refine o_assign rfl rfl rfl rfl ?_
    refine st_end ?_
    refine st_ord [] [] rfl ?_
    obtain rfl := Eq.symm h
    exact st_ret (gs' := []) Tryd.func22 rfl (List.Sublist.refl _) ((((hl5.trans hl10).trans hl17).trans hl23).trans hl29) ⟨_, rfl, rfl, hs31⟩
  refine st_seq ?_
  refine st_region ?_
  refine o_fieldAddr rfl rfl rfl z_field50_0 rfl ?_
  refine o_load (j := 2) (v := .int .u32 a0.1) rfl rfl rfl z_sc22 rfl rfl rfl ?_
  refine o_fieldAddr rfl rfl rfl z_field50_1 rfl ?_
  refine o_load (j := 2) (v := .int .u64 a0.2) rfl rfl rfl z_sc48 rfl rfl rfl ?_
  refine o_conv rfl rfl rfl Tryd.underlying48 Tryd.underlying22 rfl ?_
  refine o_fieldAddr rfl rfl rfl z_field50_1 rfl ?_
  refine o_load (j := 2) (v := .int .u64 a0.2) rfl rfl rfl z_sc48 rfl rfl rfl ?_
  refine o_shr rfl rfl rfl rfl rfl (by decide) ?_
  refine o_conv rfl rfl rfl Tryd.underlying48 Tryd.underlying22 rfl ?_
  refine o_buildA (ps := [(0, [.int .u32 a0.1]), (1, [.int .u32 (IntKind.u32.wrap a0.2)]), (2, [.int .u32 (IntKind.u32.wrap (ishr .u64 a0.2 32))])]) (cs := [.int .u32 a0.1, .int .u32 (IntKind.u32.wrap a0.2), .int .u32 (IntKind.u32.wrap (ishr .u64 a0.2 32))]) rfl rfl rfl z_arrz87 ⟨rfl, ⟨_, rfl, rfl⟩, ⟨rfl, ⟨_, rfl, rfl⟩, ⟨rfl, ⟨_, rfl, rfl⟩, trivial⟩⟩⟩ (fill_all [.int .u32 a0.1, .int .u32 (IntKind.u32.wrap a0.2), .int .u32 (IntKind.u32.wrap (ishr .u64 a0.2 32))] _ rfl) ?_
  refine o_move rfl rfl rfl rfl ?_
  refine st_end ?_
  obtain ⟨e32, hL32, hA32⟩ := h
  refine st_env (ρ' := [(2, .slice none 0 0), (3, .pointer (some ⟨b6, 0, none⟩)), (16, .agg [.int .u32 a0.1, .int .u32 (IntKind.u32.wrap a0.2), .int .u32 (IntKind.u32.wrap (ishr .u64 a0.2 32))].toArray), (17, .int .i64 0)]) ⟨rfl, rfl, rfl, rfl, trivial⟩ ?_
  refine st_ord [0, 0] [[(b6, .cells [v7, .int .i64 r2.2.1, .bool r2.2.2].toArray 118 (0, 0))], g8] rfl ?_
  refine st_loop hL32 (fun (s32 : Int × List Int × Int × Bool) ρ τ32 gs => τ4.Le τ32 ∧ ∃ (v33 : Value) (g34 : Grp), ρ = [(2, .slice none 0 0), (3, .pointer (some ⟨b6, 0, none⟩)), (16, .agg [.int .u32 a0.1, .int .u32 (IntKind.u32.wrap a0.2), .int .u32 (IntKind.u32.wrap (ishr .u64 a0.2 32))].toArray), (17, .int .i64 s32.1)] ∧ gs = [[(b6, .cells [v33, .int .i64 s32.2.2.1, .bool s32.2.2.2].toArray 118 (0, 0))], g34] ∧ Ow (kI .u8) 5 τ32 v33 s32.2.1 g34) ⟨Sto.Le.refl _, _, _, rfl, rfl, ho9⟩ ?_
  rintro s32 o32 h he32 ρ32 τ32 gs32 ⟨hl32, v33, g34, rfl, rfl, ho35⟩ hn32
  refine st_seq ?_
  refine st_region ?_
  refine o_ibin (v := .bool (decide (s32.1 < 3))) rfl rfl rfl rfl rfl rfl ?_
  refine st_end ?_
  refine st_seq ?_
  refine st_cond rfl (fun hc => ?_) (fun hc => ?_)
  · replace h := (if_pos hc).mp h
    refine st_skip ?_
    refine st_seq ?_
    refine st_block ?_
    refine st_seq ?_
    refine st_region ?_
    obtain ⟨hf36, h⟩ := h
    obtain ⟨hf37, h⟩ := h
    refine o_indexV (f := (Value.int .u32)) (zz := 0) (l := 3) (xs := [a0.1, (IntKind.u32.wrap a0.2), (IntKind.u32.wrap (ishr .u64 a0.2 32))]) (cs := [.int .u32 a0.1, .int .u32 (IntKind.u32.wrap a0.2), .int .u32 (IntKind.u32.wrap (ishr .u64 a0.2 32))]) rfl rfl rfl z_arr87 z_sc22 rfl rfl rfl hf36 hf37 ?_
    refine o_assign rfl rfl rfl rfl ?_
    refine st_end ?_
    refine st_region ?_
    refine o_move rfl rfl rfl rfl ?_
    refine o_move rfl rfl rfl rfl ?_
    obtain ⟨r38, hr39, h⟩ := h
    refine st_call (foot := [[(b6, .cells [v33, .int .i64 s32.2.2.1, .bool s32.2.2.2].toArray 118 (0, 0))], g34]) rfl rfl rfl rfl rfl rfl (callV_fn z_en48 (pen_Pen_U32_ok hr39 τ32 ho35)) ?_
    rintro vτ40 τ40 gsτ40 hl41 ⟨v42, g43, rfl, rfl, ho44⟩
    refine st_end ?_
    refine st_inBlock ?_
    refine st_region ?_
    refine o_ibin (v := .int .i64 (IntKind.i64.wrap (s32.1 + 1))) rfl rfl rfl rfl rfl rfl ?_
    refine o_move rfl rfl rfl rfl ?_
    refine st_end ?_
    refine st_env (ρ' := [(2, .slice none 0 0), (3, .pointer (some ⟨b6, 0, none⟩)), (16, .agg [.int .u32 a0.1, .int .u32 (IntKind.u32.wrap a0.2), .int .u32 (IntKind.u32.wrap (ishr .u64 a0.2 32))].toArray), (17, .int .i64 (IntKind.i64.wrap (s32.1 + 1)))]) ⟨rfl, rfl, rfl, rfl, trivial⟩ ?_
    exact hn32 _ _ _ _ h ⟨(hl32.trans hl41), _, _, rfl, rfl, ho44⟩
  · replace h := (if_neg (ne_t hc)).mp h
    refine st_exit rfl ?_
    obtain rfl := he32 _ h
    replace h := hA32
    refine st_env (ρ' := [(2, .slice none 0 0), (3, .pointer (some ⟨b6, 0, none⟩))]) ⟨rfl, rfl, trivial⟩ ?_
    exact hk10 _ _ _ ⟨(s32.2.1, s32.2.2.1, s32.2.2.2), _, _, h, hl32, rfl, rfl, ho35⟩
theorem crc_Open_ok {a0 : List Int} {a1 : List Int} {bi1 : Nat} {v3 : Value} {r : List Int × Int} (h : crc_Open a0 a1 r) (σ : Sto) (hc2 : CelN σ ⟨bi1, 0, none⟩ (cellsN (Value.int .u32) 0 1024 a0)) (hs4 : Sl (kI .u8) σ v3 a1) :
    Does Tryd.prog 52 [.pointer (some ⟨bi1, 0, none⟩), v3] σ [] (fun v τ gs => ∃ (v52 : Value), gs = [] ∧ .tuple [v52, .int .i64 r.2].toArray = v ∧ Sl (kI .u8) τ v52 r.1) := by
  refine call_of Tryd.func52 Tryd.ntmps52 rfl rfl (fun cs fs => ?_)
  refine st_seq ?_
  refine st_region ?_
  refine o_assign rfl rfl rfl rfl ?_
  refine o_assign rfl rfl rfl rfl ?_
  refine st_end ?_
  refine st_seq ?_
  refine st_region ?_
  refine o_move rfl rfl rfl rfl ?_
  refine o_lenI rfl rfl rfl z_slT31 rfl hs4 ?_
  refine o_ibin (v := .int .i64 (IntKind.i64.wrap ((a1.length : Int) - 4))) rfl rfl rfl rfl rfl rfl ?_
  refine o_assign rfl rfl rfl rfl ?_
  refine st_end ?_
  refine st_seq ?_
  refine st_block ?_
  refine st_seq ?_
  refine st_region ?_
  refine o_move rfl rfl rfl rfl ?_
  refine o_ptrNil (b := false) rfl rfl rfl Tryd.underlying90 rfl rfl rfl ?_
  refine o_assign rfl rfl rfl rfl ?_
  refine st_end ?_
  refine st_condF rfl ?_
  refine st_seq ?_
  refine st_region ?_
  refine o_move rfl rfl rfl rfl ?_
  refine o_ibin (v := .bool (decide ((IntKind.i64.wrap ((a1.length : Int) - 4)) < 0))) rfl rfl rfl rfl rfl rfl ?_
  refine o_assign rfl rfl rfl rfl ?_
  refine st_end ?_
  refine st_cond rfl (fun hc => ?_) (fun hc => ?_)
  · replace h := (if_pos hc).mp h
    refine st_seq ?_
    refine st_region ?_
    refine o_assign rfl rfl rfl rfl ?_
    refine o_assign rfl rfl rfl rfl ?_
    refine st_end ?_
    obtain rfl := Eq.symm h
    exact st_ret (gs' := []) Tryd.func52 rfl (List.Sublist.refl _) (Sto.Le.refl _) ⟨_, rfl, rfl, Sl.nil⟩
  · replace h := (if_neg (ne_t hc)).mp h
    refine st_skip ?_
    refine st_inBlock ?_
    refine st_seq ?_
    refine st_region ?_
    refine o_move rfl rfl rfl rfl ?_
    refine o_move rfl rfl rfl rfl ?_
    refine o_move rfl rfl rfl rfl ?_
    obtain ⟨hf5, h⟩ := h
    obtain ⟨hf6, h⟩ := h
    obtain ⟨hf7, h⟩ := h
    obtain ⟨hf8, h⟩ := h
    refine o_slice (L := 0) (H := (IntKind.i64.wrap ((a1.length : Int) - 4))) rfl rfl rfl z_slT31 rfl rfl hs4 rfl ⟨_, rfl⟩ (by decide) hf5 hf6 ⟨_, _, rfl, hf7, hf8⟩ (by simp) (fun v9 hs10 => ?_)
    refine o_assign rfl rfl rfl rfl ?_
    refine st_end ?_
    refine st_seq ?_
    refine st_seq ?_
    obtain ⟨r21, hr22, h⟩ := h
    obtain ⟨r25, hr26, h⟩ := h
    obtain ⟨hf29, h⟩ := h
    obtain ⟨hf30, h⟩ := h
    obtain ⟨hf31, h⟩ := h
    obtain ⟨hf34, h⟩ := h
    refine st_draw2 (gs := []) (F0 := []) 11 2 (tlS [none, none, some 0, some 1, none, none, none, none, none, none, none]) (tlN [0, 23, 24]) (tl [fun τ v => (.pointer (some ⟨bi1, 0, none⟩) : Value) = v,
    fun τ v => (v9 : Value) = v,
    fun _ _ => True,
    fun τ v => (.int .u32 r21 : Value) = v,
    fun τ v => (.agg [.int .u8 (r25.getD 0 0), .int .u8 (r25.getD 1 0), .int .u8 (r25.getD 2 0), .int .u8 (r25.getD 3 0)].toArray : Value) = v,
    fun τ v => (v3 : Value) = v,
    fun τ v => (.int .i64 (IntKind.i64.wrap ((a1.length : Int) - 4)) : Value) = v,
    fun τ v => ∃ (v32 : Value), (v32 : Value) = v ∧ Sl (kI .u8) τ v32 ((a1.drop (IntKind.i64.wrap ((a1.length : Int) - 4)).toNat).take (((a1.length : Int) : Int) - (IntKind.i64.wrap ((a1.length : Int) - 4))).toNat),
    fun τ v => ∃ (b35 : Nat) (of36 : Nat) (vsb35 : List Value), (.pointer (some ⟨b35, of36, none⟩) : Value) = v ∧ CelN τ ⟨b35, of36, none⟩ vsb35 ∧ (kA .u8 4).rep τ vsb35 ((a1.drop (IntKind.i64.wrap ((a1.length : Int) - 4)).toNat).take (((a1.length : Int) : Int) - (IntKind.i64.wrap ((a1.length : Int) - 4))).toNat),
    fun τ v => (.agg [.int .u8 (((a1.drop (IntKind.i64.wrap ((a1.length : Int) - 4)).toNat).take (((a1.length : Int) : Int) - (IntKind.i64.wrap ((a1.length : Int) - 4))).toNat).getD 0 0), .int .u8 (((a1.drop (IntKind.i64.wrap ((a1.length : Int) - 4)).toNat).take (((a1.length : Int) : Int) - (IntKind.i64.wrap ((a1.length : Int) - 4))).toNat).getD 1 0), .int .u8 (((a1.drop (IntKind.i64.wrap ((a1.length : Int) - 4)).toNat).take (((a1.length : Int) : Int) - (IntKind.i64.wrap ((a1.length : Int) - 4))).toNat).getD 2 0), .int .u8 (((a1.drop (IntKind.i64.wrap ((a1.length : Int) - 4)).toNat).take (((a1.length : Int) : Int) - (IntKind.i64.wrap ((a1.length : Int) - 4))).toNat).getD 3 0)].toArray : Value) = v,
    fun τ v => (.bool (!(eqN 4 0 r25 ((a1.drop (IntKind.i64.wrap ((a1.length : Int) - 4)).toNat).take (((a1.length : Int) : Int) - (IntKind.i64.wrap ((a1.length : Int) - 4))).toNat))) : Value) = v]) (tlI [fun τ u F => F = [],
    fun τ u F => ∃ (v14 : Value) (g15 : Grp), F = [g15] ∧ v14 = u ∧ Ow (kSl (kI .u8)) 31 τ v14 [((a1.drop (0 : Int).toNat).take (((IntKind.i64.wrap ((a1.length : Int) - 4)) : Int) - 0).toNat)] g15,
    fun τ u F => F = []]) z_mix rfl (tl_mono ⟨fun _ _ _ _ h => h, ⟨fun _ _ _ _ h => h, ⟨fun _ _ _ _ _ => trivial, ⟨fun _ _ _ _ h => h, ⟨fun _ _ _ _ h => h, ⟨fun _ _ _ _ h => h, ⟨fun _ _ _ _ h => h, ⟨fun _ _ _ hl ⟨v32, hv, hs33⟩ => ⟨v32, hv, hs33.up hl⟩, ⟨fun _ _ _ hl ⟨b35, of36, vsb35, hv, hc37, hrepb35⟩ => ⟨b35, of36, vsb35, hv, hc37.up hl, Kd.mono _ hl hrepb35⟩, ⟨fun _ _ _ _ h => h, ⟨fun _ _ _ _ h => h, trivial⟩⟩⟩⟩⟩⟩⟩⟩⟩⟩⟩) (tlI_mono ⟨fun _ _ _ _ hl h => h, ⟨fun _ _ _ _ hl h => (let ⟨v14, g15, hF, hU, ho16⟩ := h; ⟨v14, g15, hF, hU, ho16.up hl⟩), ⟨fun _ _ _ _ hl h => h, trivial⟩⟩⟩) rfl (rowSd rfl) rfl (allB_cons (allB_cons (allB_cons (allB_cons (allB_cons (allB_cons (allB_cons (allB_cons (allB_cons (allB_cons (allB_cons allB_nil ?_) ?_) ?_) ?_) ?_) ?_) ?_) ?_) ?_) ?_) ?_) ?_
    · intro ρ' τ Fv rs hl hd hout hk
      refine st_flat (gs := []) (fun pool hp => ?_)
      refine o_move rfl rfl rfl ((hout 0 rfl).trans rfl) ?_
      exact st_unflat (gs := []) hp (hk _ _ (Sto.Le.refl _) rfl)
    · intro ρ' τ Fv rs hl hd hout hk
      refine st_flat (gs := []) (fun pool hp => ?_)
      refine o_move rfl rfl rfl ((hout 7 rfl).trans rfl) ?_
      exact st_unflat (gs := []) hp (hk _ _ (Sto.Le.refl _) rfl)
    · intro ρ' τ u Fv rs hl hI hu hd hout hk
      obtain ⟨_, e1, rfl⟩ := hd 1 rfl
      have hI0 := hI
      obtain rfl := hI
      refine st_gs [] rfl ?_
      refine o_lit (dk := (kSl (kI .u8))) (xs := [((a1.drop (0 : Int).toNat).take (((IntKind.i64.wrap ((a1.length : Int) - 4)) : Int) - 0).toNat)]) (ps := [(0, [v9])]) (cs := [v9]) rfl rfl rfl z_slT153 z_zero31 ⟨rfl, ⟨_, e1, (oneL_sl (hs10.up hl))⟩, trivial⟩ rfl rfl rfl rfl (Kd.Many.cons (a := [v9]) ⟨_, rfl, (hs10.up hl)⟩ Kd.Many.nil) (fun v11 g12 ho13 => ?_)
      exact hk _ _ [g12] (Sto.Le.refl _) trivial ⟨v11, g12, rfl, rfl, ho13⟩
    · intro ρ' τ u Fv rs hl hI hu hd hout hk
      obtain ⟨_, e0, rfl⟩ := hd 0 rfl
      obtain ⟨v14, g15, rfl, rfl, ho16⟩ := hI
      refine st_gs [g15] rfl ?_
      refine st_freeze (fun τ17 hl18 hg19 => ?_)
      have hs20 := ho16.freeze hl18 hg19
      refine st_call (foot := []) rfl rfl rfl rfl (evs_cons e0 (evs_cons (hu (by decide)) rfl)) rfl (callV_fn z_en76 (crc_Table_Sum_ok hr22 τ17 (hc2.up (hl.trans hl18)) hs20)) ?_
      rintro vτ23 τ23 gsτ23 hl24 ⟨rfl, rfl⟩
      exact hk _ _ [] (hl18.trans hl24) rfl rfl
    · intro ρ' τ Fv rs hl hd hout hk
      obtain ⟨_, e3, rfl⟩ := hd 3 rfl
      refine st_flat (gs := []) (fun pool hp => ?_)
      refine st_call (foot := []) rfl rfl rfl rfl (evs_cons e3 rfl) rfl (callV_fn z_en75 (crc_bytes_ok hr26 τ)) ?_
      rintro vτ27 τ27 gsτ27 hl28 ⟨rfl, rfl⟩
      exact st_unflat (gs := []) hp (hk _ _ hl28 rfl)
    · intro ρ' τ Fv rs hl hd hout hk
      refine st_flat (gs := []) (fun pool hp => ?_)
      refine o_move rfl rfl rfl ((hout 1 rfl).trans rfl) ?_
      exact st_unflat (gs := []) hp (hk _ _ (Sto.Le.refl _) rfl)
    · intro ρ' τ Fv rs hl hd hout hk
      refine st_flat (gs := []) (fun pool hp => ?_)
      refine o_move rfl rfl rfl ((hout 6 rfl).trans rfl) ?_
      exact st_unflat (gs := []) hp (hk _ _ (Sto.Le.refl _) rfl)
    · intro ρ' τ Fv rs hl hd hout hk
      obtain ⟨_, e5, rfl⟩ := hd 5 rfl
      obtain ⟨_, e6, rfl⟩ := hd 6 rfl
      refine st_flat (gs := []) (fun pool hp => ?_)
      refine o_slice (L := (IntKind.i64.wrap ((a1.length : Int) - 4))) (H := (a1.length : Int)) rfl rfl rfl z_slT31 rfl e5 (hs4.up hl) ⟨_, e6⟩ rfl hf29 hf30 hf31 trivial (by simp) (fun v32 hs33 => ?_)
      exact st_unflat (gs := []) hp (hk _ _ (Sto.Le.refl _) ⟨v32, rfl, hs33⟩)
    · intro ρ' τ Fv rs hl hd hout hk
      obtain ⟨_, e7, v32, rfl, hs33⟩ := hd 7 rfl
      refine st_flat (gs := []) (fun pool hp => ?_)
      refine o_toArr (dk := (kI .u8)) rfl rfl rfl z_arr120 e7 hs33 rfl hf34 (fun b35 of36 csb35 hcsb35 hmb35 => ?_)
      obtain ⟨vsb35, hc37, hrepb35⟩ : ∃ vs, CelN τ ⟨b35, of36, none⟩ vs ∧ Kd.rep (kA .u8 4) τ vs ((a1.drop (IntKind.i64.wrap ((a1.length : Int) - 4)).toNat).take (((a1.length : Int) : Int) - (IntKind.i64.wrap ((a1.length : Int) - 4))).toNat) := ⟨_, celn_arr hcsb35 hmb35 hf34, rfl⟩
      exact st_unflat (gs := []) hp (hk _ _ (Sto.Le.refl _) ⟨b35, of36, vsb35, rfl, hc37, hrepb35⟩)
    · intro ρ' τ Fv rs hl hd hout hk
      obtain ⟨_, e8, b35, of36, vsb35, rfl, hc37, hrepb35⟩ := hd 8 rfl
      refine st_flat (gs := []) (fun pool hp => ?_)
      have hrepb35 := hrepb35
      obtain rfl := hrepb35
      refine o_loadIN (vs := [.int .u8 (((a1.drop (IntKind.i64.wrap ((a1.length : Int) - 4)).toNat).take (((a1.length : Int) : Int) - (IntKind.i64.wrap ((a1.length : Int) - 4))).toNat).getD 0 0), .int .u8 (((a1.drop (IntKind.i64.wrap ((a1.length : Int) - 4)).toNat).take (((a1.length : Int) : Int) - (IntKind.i64.wrap ((a1.length : Int) - 4))).toNat).getD 1 0), .int .u8 (((a1.drop (IntKind.i64.wrap ((a1.length : Int) - 4)).toNat).take (((a1.length : Int) : Int) - (IntKind.i64.wrap ((a1.length : Int) - 4))).toNat).getD 2 0), .int .u8 (((a1.drop (IntKind.i64.wrap ((a1.length : Int) - 4)).toNat).take (((a1.length : Int) : Int) - (IntKind.i64.wrap ((a1.length : Int) - 4))).toNat).getD 3 0)]) rfl rfl rfl z_agg120 e8 rfl (celn_part 0 rfl hc37) ?_
      exact st_unflat (gs := []) hp (hk _ _ (Sto.Le.refl _) rfl)
    · intro ρ' τ Fv rs hl hd hout hk
      obtain ⟨_, e4, rfl⟩ := hd 4 rfl
      obtain ⟨_, e9, rfl⟩ := hd 9 rfl
      refine st_flat (gs := []) (fun pool hp => ?_)
      refine o_aggEq (b := (eqN 4 0 r25 ((a1.drop (IntKind.i64.wrap ((a1.length : Int) - 4)).toNat).take (((a1.length : Int) : Int) - (IntKind.i64.wrap ((a1.length : Int) - 4))).toNat))) (e := (!(eqN 4 0 r25 ((a1.drop (IntKind.i64.wrap ((a1.length : Int) - 4)).toNat).take (((a1.length : Int) : Int) - (IntKind.i64.wrap ((a1.length : Int) - 4))).toNat)))) rfl rfl rfl z_eqg120 e4 e9 (fun w => by exact eq_arr (xs := r25) (ys := ((a1.drop (IntKind.i64.wrap ((a1.length : Int) - 4)).toNat).take (((a1.length : Int) : Int) - (IntKind.i64.wrap ((a1.length : Int) - 4))).toNat)) Tryd.underlying120 Tryd.underlying5 z_info5 z_cell5) rfl ?_
      exact st_unflat (gs := []) hp (hk _ _ (Sto.Le.refl _) rfl)
    intro ρ' τ38 vals u Fv hl38 hI hu hv hout
    have l10 : Eng.look ρ' 31 = some (.bool (!(eqN 4 0 r25 ((a1.drop (IntKind.i64.wrap ((a1.length : Int) - 4)).toNat).take (((a1.length : Int) : Int) - (IntKind.i64.wrap ((a1.length : Int) - 4))).toNat)))) := (hv 10 (by decide)).1.trans (congrArg some (show vals 10 = .bool (!(eqN 4 0 r25 ((a1.drop (IntKind.i64.wrap ((a1.length : Int) - 4)).toNat).take (((a1.length : Int) : Int) - (IntKind.i64.wrap ((a1.length : Int) - 4))).toNat))) from Eq.symm (hv 10 (by decide)).2))
    obtain rfl := hI
    refine st_gs [] rfl ?_
    refine st_env (ρ' := [(31, .bool (!(eqN 4 0 r25 ((a1.drop (IntKind.i64.wrap ((a1.length : Int) - 4)).toNat).take (((a1.length : Int) : Int) - (IntKind.i64.wrap ((a1.length : Int) - 4))).toNat)))), (4, .slice none 0 0), (5, .int .i64 0), (7, v9)]) ⟨l10, (hout 4 rfl).trans rfl, (hout 5 rfl).trans rfl, (hout 7 rfl).trans rfl, trivial⟩ ?_
    refine st_end ?_
    refine st_cond rfl (fun hc => ?_) (fun hc => ?_)
    · replace h := (if_pos hc).mp h
      refine st_seq ?_
      refine st_region ?_
      refine o_assign rfl rfl rfl rfl ?_
      refine o_assign rfl rfl rfl rfl ?_
      refine st_end ?_
      obtain rfl := Eq.symm h
      exact st_ret (gs' := []) Tryd.func52 rfl (List.Sublist.refl _) hl38 ⟨_, rfl, rfl, Sl.nil⟩
    · replace h := (if_neg (ne_t hc)).mp h
      refine st_skip ?_
      refine st_seq ?_
      refine st_region ?_
      refine o_lit (dk := (kI .u8)) (xs := ([] : List Int)) (ps := []) (cs := []) rfl rfl rfl z_slT31 z_zero5 trivial rfl rfl rfl rfl Kd.Many.nil (fun v39 g40 ho41 => ?_)
      refine o_move rfl rfl rfl rfl ?_
      obtain ⟨hf45, h⟩ := h
      obtain ⟨hf46, h⟩ := h
      refine o_append (dk := (kI .u8)) (xs := ([] : List Int)) (ys := ((a1.drop (0 : Int).toNat).take (((IntKind.i64.wrap ((a1.length : Int) - 4)) : Int) - 0).toNat)) rfl rfl rfl rfl z_slT31 rfl ho41 rfl (Sl.src (hs10.up hl38)) hf45 hf46 (fun v42 g43 ho44 => ?_)
      refine o_assign rfl rfl rfl rfl ?_
      refine o_assign rfl rfl rfl rfl ?_
      refine st_end ?_
      refine st_freeze (fun τ47 hl48 hg49 => ?_)
      have hs50 := ho44.freeze hl48 hg49
      obtain rfl := Eq.symm h
      exact st_ret (gs' := []) Tryd.func52 rfl (List.Sublist.refl _) (hl38.trans hl48) ⟨_, rfl, rfl, hs50⟩
theorem lens_Lens_Words_1_ok {c0 : Int} {c1 : List Int × Int × Int} {bc0 : Nat} {bc1 : Nat} {bp1 : Nat} {v1 : Value} {σ0 : Sto} (hc0_0 : Cel σ0 ⟨bc0, 0, none⟩ (.int .i64 c0)) (hc1_0 : Cel σ0 ⟨bc1, 0, none⟩ (.pointer (some ⟨bp1, 0, none⟩))) (hs2 : Sl (kI .u8) σ0 v1 c1.1) :
    IterV Tryd.prog (fun _ x vx => vx = [.int .u32 x]) (.func (.func 78) #[] [.pointer (some ⟨bc0, 0, none⟩), .pointer (some ⟨bc1, 0, none⟩)].toArray) σ0 [(bp1, .cells [v1, .int .i64 c1.2.1, .int .i64 c1.2.2].toArray 111 (0, 0))] (fun (oo : (List Int × Int × Int)) υ f => ∃ (v40 : Value), f = [(bp1, .cells [v40, .int .i64 oo.2.1, .int .i64 oo.2.2].toArray 111 (0, 0))] ∧ Sl (kI .u8) υ v40 oo.1) (lens_Lens_Words_1 c0 c1) := by
  intro S Y I y hyc hyo hIm hY s s' o hR σ g hle hIg
  obtain ⟨r, hr0⟩ : ∃ r, r = (s', o) := ⟨_, rfl⟩
  rw [← hr0] at hR
  have h := hR
  refine callV_of (caps := [.pointer (some ⟨bc0, 0, none⟩), .pointer (some ⟨bc1, 0, none⟩)]) z_en78 ?_
  refine call_of Tryd.func78 Tryd.ntmps78 rfl rfl (fun cs fs => ?_)
  refine st_perm (gs' := [g, [(bp1, .cells [v1, .int .i64 c1.2.1, .int .i64 c1.2.2].toArray 111 (0, 0))]]) (by simp) ?_
  refine st_scope ?_
  refine st_seq ?_
  refine st_label ?_
  obtain ⟨e3, hL3, hA3⟩ := h
  refine st_env (ρ' := [(0, y), (1, .pointer (some ⟨bc0, 0, none⟩)), (2, .pointer (some ⟨bc1, 0, none⟩))]) ⟨rfl, rfl, rfl, trivial⟩ ?_
  refine st_ord [1, 0] [[(bp1, .cells [v1, .int .i64 c1.2.1, .int .i64 c1.2.2].toArray 111 (0, 0))], g] rfl ?_
  refine st_loop hL3 (fun (s3 : S × List Int × Int × Int) ρ τ3 gs => σ.Le τ3 ∧ ∃ (g4 : Grp) (v6 : Value), ρ = [(0, y), (1, .pointer (some ⟨bc0, 0, none⟩)), (2, .pointer (some ⟨bc1, 0, none⟩))] ∧ gs = [[(bp1, .cells [v6, .int .i64 s3.2.2.1, .int .i64 s3.2.2.2].toArray 111 (0, 0))], g4] ∧ I s3.1 τ3 g4 ∧ Sl (kI .u8) τ3 v6 s3.2.1) ⟨Sto.Le.refl _, g, _, rfl, rfl, hIg, (hs2.up hle)⟩ ?_
  rintro s3 o3 h he3 ρ3 τ3 gs3 ⟨hl3, g4, v6, rfl, rfl, hI5, hs7⟩ hn3
  refine st_seq ?_
  refine st_seq ?_
  refine st_cut (fun ρ τ8 gs => ∃ (s8 : S × Bool) (g9 : Grp), lens_Lens_Words_1_j2 S Y c0 s3 s8 o3 ∧ τ3.Le τ8 ∧ ρ = [(0, y), (1, .pointer (some ⟨bc0, 0, none⟩)), (2, .pointer (some ⟨bc1, 0, none⟩)), (13, .bool s8.2)] ∧ gs = [[(bp1, .cells [v6, .int .i64 s3.2.2.1, .int .i64 s3.2.2.2].toArray 111 (0, 0))], g9] ∧ I s8.1 τ8 g9) ?_ (fun hk8 => ?_)
  · rintro ρ8 τ8 gs8 ⟨s8, g9, h, hl8, rfl, rfl, hI10⟩
    refine st_cond rfl (fun hc => ?_) (fun hc => ?_)
    · replace h := (if_pos hc).mp h
      refine st_skip ?_
      refine st_block ?_
      refine st_seq ?_
      obtain ⟨r11, hr12, h⟩ := h
      obtain ⟨r15, hr16, h⟩ := h
      obtain ⟨r19, hr20, h⟩ := h
      obtain ⟨y27, u28, hy29, h⟩ := h
      refine st_draw2 (gs := []) (F0 := [[(bp1, .cells [v6, .int .i64 s3.2.2.1, .int .i64 s3.2.2.2].toArray 111 (0, 0))], g9]) 17 6 (tlS [none, some 0, none, some 1, none, some 2, none, none, none, some 3, none, none, none, some 4, some 5, none, none]) (tlN [0, 15, 17, 19, 23, 27, 28]) (tl [fun τ v => (.pointer (some ⟨bp1, 0, none⟩) : Value) = v,
    fun τ v => (.int .i64 r11 : Value) = v,
    fun τ v => (.bool (!(decide (r11 = 0))) : Value) = v,
    fun τ v => (.bool (!(decide (r11 = 0))) : Value) = v,
    fun τ v => (((!(decide (r11 = 0))) = false) → (.pointer (some ⟨bp1, 0, none⟩) : Value) = v) ∧ (¬ ((!(decide (r11 = 0))) = false) → v = undef),
    fun τ v => (((!(decide (r11 = 0))) = false) → (.int .i64 r15 : Value) = v) ∧ (¬ ((!(decide (r11 = 0))) = false) → v = undef),
    fun τ v => (((!(decide (r11 = 0))) = false) → (.int .i64 c0 : Value) = v) ∧ (¬ ((!(decide (r11 = 0))) = false) → v = undef),
    fun τ v => (((!(decide (r11 = 0))) = false) → (.bool (decide (r15 < c0)) : Value) = v) ∧ (¬ ((!(decide (r11 = 0))) = false) → v = undef),
    fun τ v => (.bool ((!(decide (r11 = 0))) || (decide (r15 < c0))) : Value) = v,
    fun τ v => (.bool ((!(decide (r11 = 0))) || (decide (r15 < c0))) : Value) = v,
    fun τ v => ((((!(decide (r11 = 0))) || (decide (r15 < c0))) = false) → (y : Value) = v) ∧ (¬ (((!(decide (r11 = 0))) || (decide (r15 < c0))) = false) → v = undef),
    fun τ v => ((((!(decide (r11 = 0))) || (decide (r15 < c0))) = false) → (.pointer (some ⟨bp1, 0, none⟩) : Value) = v) ∧ (¬ (((!(decide (r11 = 0))) || (decide (r15 < c0))) = false) → v = undef),
    fun τ v => ((((!(decide (r11 = 0))) || (decide (r15 < c0))) = false) → (.int .i64 c0 : Value) = v) ∧ (¬ (((!(decide (r11 = 0))) || (decide (r15 < c0))) = false) → v = undef),
    fun τ v => ((((!(decide (r11 = 0))) || (decide (r15 < c0))) = false) → (.int .u32 r19.1 : Value) = v) ∧ (¬ (((!(decide (r11 = 0))) || (decide (r15 < c0))) = false) → v = undef),
    fun τ v => ((((!(decide (r11 = 0))) || (decide (r15 < c0))) = false) → (.bool y27 : Value) = v) ∧ (¬ (((!(decide (r11 = 0))) || (decide (r15 < c0))) = false) → v = undef),
    fun τ v => ((((!(decide (r11 = 0))) || (decide (r15 < c0))) = false) → (.bool (!y27) : Value) = v) ∧ (¬ (((!(decide (r11 = 0))) || (decide (r15 < c0))) = false) → v = undef),
    fun τ v => (.bool (((!(decide (r11 = 0))) || (decide (r15 < c0))) || (!y27)) : Value) = v]) (tlI [fun τ u F => F = [[(bp1, .cells [v6, .int .i64 s3.2.2.1, .int .i64 s3.2.2.2].toArray 111 (0, 0))], g9],
    fun τ u F => F = [[(bp1, .cells [v6, .int .i64 s3.2.2.1, .int .i64 s3.2.2.2].toArray 111 (0, 0))], g9],
    fun τ u F => F = [[(bp1, .cells [v6, .int .i64 s3.2.2.1, .int .i64 s3.2.2.2].toArray 111 (0, 0))], g9],
    fun τ u F => F = [[(bp1, .cells [v6, .int .i64 s3.2.2.1, .int .i64 s3.2.2.2].toArray 111 (0, 0))], g9],
    fun τ u F => F = [[(bp1, .cells [v6, .int .i64 s3.2.2.1, .int .i64 s3.2.2.2].toArray 111 (0, 0))], g9],
    fun τ u F => ((((!(decide (r11 = 0))) || (decide (r15 < c0))) = false) → ∃ (v25 : Value), F = [[(bp1, .cells [v25, .int .i64 r19.2.2.1, .int .i64 r19.2.2.2].toArray 111 (0, 0))], g9] ∧ Sl (kI .u8) τ v25 r19.2.1) ∧ (¬ (((!(decide (r11 = 0))) || (decide (r15 < c0))) = false) → F = [[(bp1, .cells [v6, .int .i64 s3.2.2.1, .int .i64 s3.2.2.2].toArray 111 (0, 0))], g9]),
    fun τ u F => ((((!(decide (r11 = 0))) || (decide (r15 < c0))) = false) → ∃ (v34 : Value) (g36 : Grp), F = [g36, [(bp1, .cells [v34, .int .i64 r19.2.2.1, .int .i64 r19.2.2.2].toArray 111 (0, 0))]] ∧ Sl (kI .u8) τ v34 r19.2.1 ∧ I u28 τ g36) ∧ (¬ (((!(decide (r11 = 0))) || (decide (r15 < c0))) = false) → F = [[(bp1, .cells [v6, .int .i64 s3.2.2.1, .int .i64 s3.2.2.2].toArray 111 (0, 0))], g9])]) z_mix rfl (tl_mono ⟨fun _ _ _ _ h => h, ⟨fun _ _ _ _ h => h, ⟨fun _ _ _ _ h => h, ⟨fun _ _ _ _ h => h, ⟨fun _ _ _ _ h => h, ⟨fun _ _ _ _ h => h, ⟨fun _ _ _ _ h => h, ⟨fun _ _ _ _ h => h, ⟨fun _ _ _ _ h => h, ⟨fun _ _ _ _ h => h, ⟨fun _ _ _ _ h => h, ⟨fun _ _ _ _ h => h, ⟨fun _ _ _ _ h => h, ⟨fun _ _ _ _ h => h, ⟨fun _ _ _ _ h => h, ⟨fun _ _ _ _ h => h, ⟨fun _ _ _ _ h => h, trivial⟩⟩⟩⟩⟩⟩⟩⟩⟩⟩⟩⟩⟩⟩⟩⟩⟩) (tlI_mono ⟨fun _ _ _ _ hl h => h, ⟨fun _ _ _ _ hl h => h, ⟨fun _ _ _ _ hl h => h, ⟨fun _ _ _ _ hl h => h, ⟨fun _ _ _ _ hl h => h, ⟨fun _ _ _ _ hl h => ⟨fun hC => (let ⟨v25, hF, hs26⟩ := (h.1 hC); ⟨v25, hF, hs26.up hl⟩), fun hn => (h.2 hn)⟩, ⟨fun _ _ _ _ hl h => ⟨fun hC => (let ⟨v34, g36, hF, hs35, hI37⟩ := (h.1 hC); ⟨v34, g36, hF, hs35.up hl, hIm _ _ _ _ hl hI37⟩), fun hn => (h.2 hn)⟩, trivial⟩⟩⟩⟩⟩⟩⟩) rfl (rowSd rfl) rfl (allB_cons (allB_cons (allB_cons (allB_cons (allB_cons (allB_cons (allB_cons (allB_cons (allB_cons (allB_cons (allB_cons (allB_cons (allB_cons (allB_cons (allB_cons (allB_cons (allB_cons allB_nil ?_) ?_) ?_) ?_) ?_) ?_) ?_) ?_) ?_) ?_) ?_) ?_) ?_) ?_) ?_) ?_) ?_) ?_
      · intro ρ' τ Fv rs hl hd hout hk
        refine st_flat (gs := []) (fun pool hp => ?_)
        refine o_loadI (v := .pointer (some ⟨bp1, 0, none⟩)) rfl rfl rfl z_sc72 ((hout 2 rfl).trans rfl) (Cel.up hc1_0 (((hle.trans hl3).trans hl8).trans hl)) ?_
        exact st_unflat (gs := []) hp (hk _ _ (Sto.Le.refl _) rfl)
      · intro ρ' τ u Fv rs hl hI hu hd hout hk
        obtain ⟨_, e0, rfl⟩ := hd 0 rfl
        have hI0 := hI
        obtain rfl := hI
        refine st_gs [[(bp1, .cells [v6, .int .i64 s3.2.2.1, .int .i64 s3.2.2.2].toArray 111 (0, 0))], g9] rfl ?_
        refine st_call (foot := [[(bp1, .cells [v6, .int .i64 s3.2.2.1, .int .i64 s3.2.2.2].toArray 111 (0, 0))]]) rfl rfl rfl rfl (evs_cons e0 rfl) rfl (callV_fn z_en69 (lens_Lens_Err_ok hr12 τ (hs7.up (hl8.trans hl)))) ?_
        rintro vτ13 τ13 gsτ13 hl14 ⟨rfl, rfl⟩
        exact hk _ _ [[(bp1, .cells [v6, .int .i64 s3.2.2.1, .int .i64 s3.2.2.2].toArray 111 (0, 0))], g9] hl14 rfl hI0
      · intro ρ' τ Fv rs hl hd hout hk
        obtain ⟨_, e1, rfl⟩ := hd 1 rfl
        refine st_flat (gs := []) (fun pool hp => ?_)
        refine o_ibin (v := .bool (!(decide (r11 = 0)))) rfl rfl rfl e1 rfl rfl ?_
        exact st_unflat (gs := []) hp (hk _ _ (Sto.Le.refl _) rfl)
      · intro ρ' τ u Fv rs hl hI hu hd hout hk
        obtain ⟨_, e2, rfl⟩ := hd 2 rfl
        refine st_flat (gs := []) (fun pool hp => ?_)
        refine o_move rfl rfl rfl e2 ?_
        exact st_unflat (gs := []) hp (hk _ _ _ (Sto.Le.refl _) rfl hI)
      · intro ρ' τ Fv rs hl hd hout hk
        obtain ⟨_, e3, rfl⟩ := hd 3 rfl
        by_cases hG : (!(decide (r11 = 0))) = false
        · have hC := hG
          refine st_flat (gs := []) (fun pool hp => ?_)
          refine o_loadI (v := .pointer (some ⟨bp1, 0, none⟩)) rfl (wants_of rfl e3 hG) rfl z_sc72 ((hout 2 rfl).trans rfl) (Cel.up hc1_0 (((hle.trans hl3).trans hl8).trans hl)) ?_
          exact st_unflat (gs := []) hp (hk _ _ (Sto.Le.refl _) ⟨fun _ => rfl, fun hn => absurd hC hn⟩)
        · refine st_pass rfl rfl rfl e3 (beq_off hG) rfl ?_
          exact hk _ _ (Sto.Le.refl _) ⟨fun h => absurd h hG, fun _ => rfl⟩
      · intro ρ' τ u Fv rs hl hI hu hd hout hk
        obtain ⟨_, e3, rfl⟩ := hd 3 rfl
        obtain ⟨w4, e4, t4⟩ := hd 4 rfl
        by_cases hG : (!(decide (r11 = 0))) = false
        · have hC := hG
          replace hr16 := hr16 hC
          have hI0 := hI
          obtain rfl := hI
          refine st_gs [[(bp1, .cells [v6, .int .i64 s3.2.2.1, .int .i64 s3.2.2.2].toArray 111 (0, 0))], g9] rfl ?_
          obtain ⟨rfl⟩ := t4.1 hC
          refine st_call (foot := [[(bp1, .cells [v6, .int .i64 s3.2.2.1, .int .i64 s3.2.2.2].toArray 111 (0, 0))]]) rfl (wants_of rfl e3 hG) rfl rfl (evs_cons e4 rfl) rfl (callV_fn z_en70 (lens_Lens_Left_ok hr16 τ (hs7.up (hl8.trans hl)))) ?_
          rintro vτ17 τ17 gsτ17 hl18 ⟨rfl, rfl⟩
          exact hk _ _ [[(bp1, .cells [v6, .int .i64 s3.2.2.1, .int .i64 s3.2.2.2].toArray 111 (0, 0))], g9] hl18 ⟨fun _ => rfl, fun hn => absurd hC hn⟩ hI0
        · refine st_pass rfl rfl rfl e3 (beq_off hG) rfl ?_
          exact hk _ _ _ (Sto.Le.refl _) ⟨fun h => absurd h hG, fun _ => rfl⟩ hI
      · intro ρ' τ Fv rs hl hd hout hk
        obtain ⟨_, e3, rfl⟩ := hd 3 rfl
        by_cases hG : (!(decide (r11 = 0))) = false
        · have hC := hG
          refine st_flat (gs := []) (fun pool hp => ?_)
          refine o_loadI (v := .int .i64 c0) rfl (wants_of rfl e3 hG) rfl z_sc3 ((hout 1 rfl).trans rfl) (Cel.up hc0_0 (((hle.trans hl3).trans hl8).trans hl)) ?_
          exact st_unflat (gs := []) hp (hk _ _ (Sto.Le.refl _) ⟨fun _ => rfl, fun hn => absurd hC hn⟩)
        · refine st_pass rfl rfl rfl e3 (beq_off hG) rfl ?_
          exact hk _ _ (Sto.Le.refl _) ⟨fun h => absurd h hG, fun _ => rfl⟩
      · intro ρ' τ Fv rs hl hd hout hk
        obtain ⟨_, e3, rfl⟩ := hd 3 rfl
        obtain ⟨w5, e5, t5⟩ := hd 5 rfl
        obtain ⟨w6, e6, t6⟩ := hd 6 rfl
        by_cases hG : (!(decide (r11 = 0))) = false
        · have hC := hG
          refine st_flat (gs := []) (fun pool hp => ?_)
          obtain ⟨rfl⟩ := t5.1 hC
          obtain ⟨rfl⟩ := t6.1 hC
          refine o_ibin (v := .bool (decide (r15 < c0))) rfl (wants_of rfl e3 hG) rfl e5 e6 rfl ?_
          exact st_unflat (gs := []) hp (hk _ _ (Sto.Le.refl _) ⟨fun _ => rfl, fun hn => absurd hC hn⟩)
        · refine st_pass rfl rfl rfl e3 (beq_off hG) rfl ?_
          exact hk _ _ (Sto.Le.refl _) ⟨fun h => absurd h hG, fun _ => rfl⟩
      · intro ρ' τ Fv rs hl hd hout hk
        obtain ⟨_, e3, rfl⟩ := hd 3 rfl
        obtain ⟨w7, e7, t7⟩ := hd 7 rfl
        refine st_flat (gs := []) (fun pool hp => ?_)
        refine o_pickOr rfl rfl rfl e3 rfl (fun hp => e7.trans (congrArg some (Eq.symm (t7.1 hp)))) ?_
        exact st_unflat (gs := []) hp (hk _ _ (Sto.Le.refl _) rfl)
      · intro ρ' τ u Fv rs hl hI hu hd hout hk
        obtain ⟨_, e8, rfl⟩ := hd 8 rfl
        refine st_flat (gs := []) (fun pool hp => ?_)
        refine o_move rfl rfl rfl e8 ?_
        exact st_unflat (gs := []) hp (hk _ _ _ (Sto.Le.refl _) rfl hI)
      · intro ρ' τ Fv rs hl hd hout hk
        obtain ⟨_, e9, rfl⟩ := hd 9 rfl
        by_cases hG : ((!(decide (r11 = 0))) || (decide (r15 < c0))) = false
        · have hC := hG
          refine st_flat (gs := []) (fun pool hp => ?_)
          refine o_move rfl (wants_of rfl e9 hG) rfl ((hout 0 rfl).trans rfl) ?_
          exact st_unflat (gs := []) hp (hk _ _ (Sto.Le.refl _) ⟨fun _ => rfl, fun hn => absurd hC hn⟩)
        · refine st_pass rfl rfl rfl e9 (beq_off hG) rfl ?_
          exact hk _ _ (Sto.Le.refl _) ⟨fun h => absurd h hG, fun _ => rfl⟩
      · intro ρ' τ Fv rs hl hd hout hk
        obtain ⟨_, e9, rfl⟩ := hd 9 rfl
        by_cases hG : ((!(decide (r11 = 0))) || (decide (r15 < c0))) = false
        · have hC := hG
          refine st_flat (gs := []) (fun pool hp => ?_)
          refine o_loadI (v := .pointer (some ⟨bp1, 0, none⟩)) rfl (wants_of rfl e9 hG) rfl z_sc72 ((hout 2 rfl).trans rfl) (Cel.up hc1_0 (((hle.trans hl3).trans hl8).trans hl)) ?_
          exact st_unflat (gs := []) hp (hk _ _ (Sto.Le.refl _) ⟨fun _ => rfl, fun hn => absurd hC hn⟩)
        · refine st_pass rfl rfl rfl e9 (beq_off hG) rfl ?_
          exact hk _ _ (Sto.Le.refl _) ⟨fun h => absurd h hG, fun _ => rfl⟩
      · intro ρ' τ Fv rs hl hd hout hk
        obtain ⟨_, e9, rfl⟩ := hd 9 rfl
        by_cases hG : ((!(decide (r11 = 0))) || (decide (r15 < c0))) = false
        · have hC := hG
          refine st_flat (gs := []) (fun pool hp => ?_)
          refine o_loadI (v := .int .i64 c0) rfl (wants_of rfl e9 hG) rfl z_sc3 ((hout 1 rfl).trans rfl) (Cel.up hc0_0 (((hle.trans hl3).trans hl8).trans hl)) ?_
          exact st_unflat (gs := []) hp (hk _ _ (Sto.Le.refl _) ⟨fun _ => rfl, fun hn => absurd hC hn⟩)
        · refine st_pass rfl rfl rfl e9 (beq_off hG) rfl ?_
          exact hk _ _ (Sto.Le.refl _) ⟨fun h => absurd h hG, fun _ => rfl⟩
      · intro ρ' τ u Fv rs hl hI hu hd hout hk
        obtain ⟨_, e9, rfl⟩ := hd 9 rfl
        obtain ⟨w11, e11, t11⟩ := hd 11 rfl
        obtain ⟨w12, e12, t12⟩ := hd 12 rfl
        by_cases hG : ((!(decide (r11 = 0))) || (decide (r15 < c0))) = false
        · have hC := hG
          replace hr20 := hr20 hC
          have hI0 := hI
          obtain rfl := hI
          refine st_gs [[(bp1, .cells [v6, .int .i64 s3.2.2.1, .int .i64 s3.2.2.2].toArray 111 (0, 0))], g9] rfl ?_
          obtain ⟨rfl⟩ := t11.1 hC
          obtain ⟨rfl⟩ := t12.1 hC
          refine st_call (foot := [[(bp1, .cells [v6, .int .i64 s3.2.2.1, .int .i64 s3.2.2.2].toArray 111 (0, 0))]]) rfl (wants_of rfl e9 hG) rfl rfl (evs_cons e11 (evs_cons e12 rfl)) rfl (callV_fn z_en68 (lens_Lens_word_ok hr20 τ (hs7.up (hl8.trans hl)))) ?_
          rintro vτ21 τ21 gsτ21 hl22 ⟨v23, rfl, rfl, hs24⟩
          exact hk _ _ [[(bp1, .cells [v23, .int .i64 r19.2.2.1, .int .i64 r19.2.2.2].toArray 111 (0, 0))], g9] hl22 ⟨fun _ => rfl, fun hn => absurd hC hn⟩ ⟨fun _ => ⟨v23, rfl, hs24⟩, fun hn => absurd hC hn⟩
        · refine st_pass rfl rfl rfl e9 (beq_off hG) rfl ?_
          exact hk _ _ _ (Sto.Le.refl _) ⟨fun h => absurd h hG, fun _ => rfl⟩ ⟨fun h => absurd h hG, fun _ => hI⟩
      · intro ρ' τ u Fv rs hl hI hu hd hout hk
        obtain ⟨_, e9, rfl⟩ := hd 9 rfl
        obtain ⟨w10, e10, t10⟩ := hd 10 rfl
        obtain ⟨w13, e13, t13⟩ := hd 13 rfl
        by_cases hG : ((!(decide (r11 = 0))) || (decide (r15 < c0))) = false
        · have hC := hG
          replace hy29 := hy29 hC
          have hI0 := hI
          obtain ⟨v25, rfl, hs26⟩ := (hI.1 hC)
          refine st_gs [[(bp1, .cells [v25, .int .i64 r19.2.2.1, .int .i64 r19.2.2.2].toArray 111 (0, 0))], g9] rfl ?_
          obtain ⟨rfl⟩ := t10.1 hC
          obtain ⟨rfl⟩ := t13.1 hC
          refine st_ord [1, 0] [g9, [(bp1, .cells [v25, .int .i64 r19.2.2.1, .int .i64 r19.2.2.2].toArray 111 (0, 0))]] rfl ?_
          refine st_call (foot := [g9]) rfl (wants_of rfl e9 hG) rfl e10 (evs_cons e13 rfl) rfl (hY r19.1 s8.1 _ _ _ _ _ (hle.trans ((hl3.trans hl8).trans hl)) hy29 rfl (hIm _ _ _ _ hl hI10)) ?_
          rintro vτ30 τ30 gsτ30 hl31 ⟨rfl, g32, rfl, hI33⟩
          exact hk _ _ [g32, [(bp1, .cells [v25, .int .i64 r19.2.2.1, .int .i64 r19.2.2.2].toArray 111 (0, 0))]] hl31 ⟨fun _ => rfl, fun hn => absurd hC hn⟩ ⟨fun _ => ⟨v25, g32, rfl, (hs26.up hl31), hI33⟩, fun hn => absurd hC hn⟩
        · refine st_pass rfl rfl rfl e9 (beq_off hG) rfl ?_
          exact hk _ _ _ (Sto.Le.refl _) ⟨fun h => absurd h hG, fun _ => rfl⟩ ⟨fun h => absurd h hG, hI.2⟩
      · intro ρ' τ Fv rs hl hd hout hk
        obtain ⟨_, e9, rfl⟩ := hd 9 rfl
        obtain ⟨w14, e14, t14⟩ := hd 14 rfl
        by_cases hG : ((!(decide (r11 = 0))) || (decide (r15 < c0))) = false
        · have hC := hG
          refine st_flat (gs := []) (fun pool hp => ?_)
          obtain ⟨rfl⟩ := t14.1 hC
          refine o_not rfl (wants_of rfl e9 hG) rfl e14 ?_
          exact st_unflat (gs := []) hp (hk _ _ (Sto.Le.refl _) ⟨fun _ => rfl, fun hn => absurd hC hn⟩)
        · refine st_pass rfl rfl rfl e9 (beq_off hG) rfl ?_
          exact hk _ _ (Sto.Le.refl _) ⟨fun h => absurd h hG, fun _ => rfl⟩
      · intro ρ' τ Fv rs hl hd hout hk
        obtain ⟨_, e9, rfl⟩ := hd 9 rfl
        obtain ⟨w15, e15, t15⟩ := hd 15 rfl
        refine st_flat (gs := []) (fun pool hp => ?_)
        refine o_pickOr rfl rfl rfl e9 rfl (fun hp => e15.trans (congrArg some (Eq.symm (t15.1 hp)))) ?_
        exact st_unflat (gs := []) hp (hk _ _ (Sto.Le.refl _) rfl)
      intro ρ' τ38 vals u Fv hl38 hI hu hv hout
      have l16 : Eng.look ρ' 30 = some (.bool (((!(decide (r11 = 0))) || (decide (r15 < c0))) || (!y27))) := (hv 16 (by decide)).1.trans (congrArg some (show vals 16 = .bool (((!(decide (r11 = 0))) || (decide (r15 < c0))) || (!y27)) from Eq.symm (hv 16 (by decide)).2))
      by_cases hCC : ((!(decide (r11 = 0))) || (decide (r15 < c0))) = false
      · replace h := (if_pos hCC).mp h
        obtain ⟨v34, g36, rfl, hs35, hI37⟩ := (hI.1 hCC)
        refine st_gs [g36, [(bp1, .cells [v34, .int .i64 r19.2.2.1, .int .i64 r19.2.2.2].toArray 111 (0, 0))]] rfl ?_
        refine st_env (ρ' := [(30, .bool (((!(decide (r11 = 0))) || (decide (r15 < c0))) || (!y27))), (0, y), (1, .pointer (some ⟨bc0, 0, none⟩)), (2, .pointer (some ⟨bc1, 0, none⟩))]) ⟨l16, (hout 0 rfl).trans rfl, (hout 1 rfl).trans rfl, (hout 2 rfl).trans rfl, trivial⟩ ?_
        refine st_end ?_
        refine st_cond rfl (fun hc => ?_) (fun hc => ?_)
        · replace h := (if_pos hc).mp h
          refine st_exit rfl ?_
          refine st_inScope ?_
          obtain rfl := he3 _ h
          replace h := hA3
          obtain rfl := Eq.symm h
          cases hr0
          exact st_fin (gs' := [g36, [(bp1, .cells [v34, .int .i64 r19.2.2.1, .int .i64 r19.2.2.2].toArray 111 (0, 0))]]) Tryd.func78 rfl (by simp) ((hl3.trans hl8).trans hl38) ⟨g36, _, rfl, hI37, ⟨_, rfl, hs35⟩⟩
        · replace h := (if_neg (ne_t hc)).mp h
          refine st_skip ?_
          refine st_inBlock ?_
          refine st_env (ρ' := [(0, y), (1, .pointer (some ⟨bc0, 0, none⟩)), (2, .pointer (some ⟨bc1, 0, none⟩))]) ⟨rfl, rfl, rfl, trivial⟩ ?_
          refine st_ord [1, 0] [[(bp1, .cells [v34, .int .i64 r19.2.2.1, .int .i64 r19.2.2.2].toArray 111 (0, 0))], g36] rfl ?_
          exact hn3 _ _ _ _ h ⟨((hl3.trans hl8).trans hl38), g36, _, rfl, rfl, hI37, hs35⟩
      · replace h := (if_neg hCC).mp h
        obtain rfl := (hI.2 hCC)
        refine st_gs [[(bp1, .cells [v6, .int .i64 s3.2.2.1, .int .i64 s3.2.2.2].toArray 111 (0, 0))], g9] rfl ?_
        refine st_env (ρ' := [(30, .bool (((!(decide (r11 = 0))) || (decide (r15 < c0))) || (!y27))), (0, y), (1, .pointer (some ⟨bc0, 0, none⟩)), (2, .pointer (some ⟨bc1, 0, none⟩))]) ⟨l16, (hout 0 rfl).trans rfl, (hout 1 rfl).trans rfl, (hout 2 rfl).trans rfl, trivial⟩ ?_
        refine st_end ?_
        refine st_cond rfl (fun hc => ?_) (fun hc => ?_)
        · replace h := (if_pos hc).mp h
          refine st_exit rfl ?_
          refine st_inScope ?_
          refine st_ord [1, 0] [g9, [(bp1, .cells [v6, .int .i64 s3.2.2.1, .int .i64 s3.2.2.2].toArray 111 (0, 0))]] rfl ?_
          obtain rfl := he3 _ h
          replace h := hA3
          obtain rfl := Eq.symm h
          cases hr0
          exact st_fin (gs' := [g9, [(bp1, .cells [v6, .int .i64 s3.2.2.1, .int .i64 s3.2.2.2].toArray 111 (0, 0))]]) Tryd.func78 rfl (by simp) ((hl3.trans hl8).trans hl38) ⟨g9, _, rfl, (hIm _ _ _ _ hl38 hI10), ⟨_, rfl, (hs7.up (hl8.trans hl38))⟩⟩
        · replace h := (if_neg (ne_t hc)).mp h
          refine st_skip ?_
          refine st_inBlock ?_
          refine st_env (ρ' := [(0, y), (1, .pointer (some ⟨bc0, 0, none⟩)), (2, .pointer (some ⟨bc1, 0, none⟩))]) ⟨rfl, rfl, rfl, trivial⟩ ?_
          exact hn3 _ _ _ _ h ⟨((hl3.trans hl8).trans hl38), g9, _, rfl, rfl, (hIm _ _ _ _ hl38 hI10), (hs7.up (hl8.trans hl38))⟩
    · replace h := (if_neg (ne_t hc)).mp h
      refine st_exit rfl ?_
      refine st_inScope ?_
      refine st_ord [1, 0] [g9, [(bp1, .cells [v6, .int .i64 s3.2.2.1, .int .i64 s3.2.2.2].toArray 111 (0, 0))]] rfl ?_
      obtain rfl := he3 _ h
      replace h := hA3
      obtain rfl := Eq.symm h
      cases hr0
      exact st_fin (gs' := [g9, [(bp1, .cells [v6, .int .i64 s3.2.2.1, .int .i64 s3.2.2.2].toArray 111 (0, 0))]]) Tryd.func78 rfl (by simp) (hl3.trans hl8) ⟨g9, _, rfl, hI10, ⟨_, rfl, (hs7.up hl8)⟩⟩
  refine st_region ?_
  refine o_loadI (v := .int .i64 c0) rfl rfl rfl z_sc3 rfl (Cel.up hc0_0 (hle.trans hl3)) ?_
  refine o_ibin (v := .bool (decide (c0 = 1))) rfl rfl rfl rfl rfl rfl ?_
  refine o_moveB rfl rfl rfl rfl (fun hc => ?_) (fun hc => ?_)
  · replace h := (if_pos hc).mp h
    refine st_pass rfl rfl rfl rfl rfl rfl ?_
    refine st_pass rfl rfl rfl rfl rfl rfl ?_
    refine o_pick rfl rfl rfl rfl rfl ?_
    refine o_move rfl rfl rfl rfl ?_
    refine st_pass rfl rfl rfl rfl rfl rfl ?_
    refine st_pass rfl rfl rfl rfl rfl rfl ?_
    refine o_pick rfl rfl rfl rfl rfl ?_
    refine st_end ?_
    refine st_env (ρ' := [(0, y), (1, .pointer (some ⟨bc0, 0, none⟩)), (2, .pointer (some ⟨bc1, 0, none⟩)), (13, .bool true)]) ⟨rfl, rfl, rfl, rfl, trivial⟩ ?_
    exact hk8 _ _ _ ⟨(s3.1, true), g4, h, (Sto.Le.refl _), rfl, rfl, hI5⟩
  · replace h := (if_neg (ne_t hc)).mp h
    refine o_loadI (v := .int .i64 c0) rfl rfl rfl z_sc3 rfl (Cel.up hc0_0 (hle.trans hl3)) ?_
    refine o_ibin (v := .bool (decide (c0 = 2))) rfl rfl rfl rfl rfl rfl ?_
    refine o_pick rfl rfl rfl rfl rfl ?_
    refine o_moveB rfl rfl rfl rfl (fun hc => ?_) (fun hc => ?_)
    · replace h := (if_pos hc).mp h
      refine st_pass rfl rfl rfl rfl rfl rfl ?_
      refine st_pass rfl rfl rfl rfl rfl rfl ?_
      refine o_pick rfl rfl rfl rfl rfl ?_
      refine st_end ?_
      refine st_env (ρ' := [(0, y), (1, .pointer (some ⟨bc0, 0, none⟩)), (2, .pointer (some ⟨bc1, 0, none⟩)), (13, .bool true)]) ⟨rfl, rfl, rfl, rfl, trivial⟩ ?_
      exact hk8 _ _ _ ⟨(s3.1, true), g4, h, (Sto.Le.refl _), rfl, rfl, hI5⟩
    · replace h := (if_neg (ne_t hc)).mp h
      refine o_loadI (v := .int .i64 c0) rfl rfl rfl z_sc3 rfl (Cel.up hc0_0 (hle.trans hl3)) ?_
      refine o_ibin (v := .bool (decide (c0 = 4))) rfl rfl rfl rfl rfl rfl ?_
      refine o_pick rfl rfl rfl rfl rfl ?_
      refine st_end ?_
      refine st_env (ρ' := [(0, y), (1, .pointer (some ⟨bc0, 0, none⟩)), (2, .pointer (some ⟨bc1, 0, none⟩)), (13, .bool (decide (c0 = 4)))]) ⟨rfl, rfl, rfl, rfl, trivial⟩ ?_
      exact hk8 _ _ _ ⟨(s3.1, (decide (c0 = 4))), g4, h, (Sto.Le.refl _), rfl, rfl, hI5⟩
theorem lens_Lens_Words_ok {a0 : List Int × Int × Int} {a1 : Int} {ba0 : Nat} {v1 : Value} {r : (((List Int × Int × Int) → (S : Type) → (Int → S → Bool × S → Prop) → S → S × (List Int × Int × Int) → Prop))} (h : lens_Lens_Words a0 a1 r) (σ : Sto) (hs2 : Sl (kI .u8) σ v1 a0.1) :
    Does Tryd.prog 53 [.pointer (some ⟨ba0, 0, none⟩), .int .i64 a1] σ [[(ba0, .cells [v1, .int .i64 a0.2.1, .int .i64 a0.2.2].toArray 111 (0, 0))]] (fun v τ gs => ∃ (f14 : Nat) (q15 : Array Value), gs = [[(ba0, .cells [v1, .int .i64 a0.2.1, .int .i64 a0.2.2].toArray 111 (0, 0))]] ∧ .func (.func f14) #[] q15 = v ∧ ∀ (x18 : List Int × Int × Int) (v19 : Value) (σ17 : Sto), τ.Le σ17 → Sl (kI .u8) σ17 v19 x18.1 → IterV Tryd.prog (fun _ x vx => vx = [.int .u32 x]) (.func (.func f14) #[] q15) σ17 [(ba0, .cells [v19, .int .i64 x18.2.1, .int .i64 x18.2.2].toArray 111 (0, 0))] (fun (o21 : (List Int × Int × Int)) υ f => ∃ (v22 : Value), f = [(ba0, .cells [v22, .int .i64 o21.2.1, .int .i64 o21.2.2].toArray 111 (0, 0))] ∧ Sl (kI .u8) υ v22 o21.1) (r x18)) := by
  refine call_of Tryd.func53 Tryd.ntmps53 rfl rfl (fun cs fs => ?_)
  refine st_seq ?_
  refine st_region ?_
  refine o_box (cs := [.pointer (some ⟨ba0, 0, none⟩)]) rfl rfl rfl rfl rfl (fun b3 => ?_)
  refine o_box (cs := [.int .i64 a1]) rfl rfl rfl rfl rfl (fun b4 => ?_)
  refine o_assign rfl rfl rfl rfl ?_
  refine st_end ?_
  refine st_seq ?_
  refine st_region ?_
  refine st_freeze (fun τ5 hl6 hg7 => ?_)
  refine st_freeze (fun τ8 hl9 hg10 => ?_)
  refine o_func rfl rfl rfl rfl rfl ?_
  refine o_assign rfl rfl rfl rfl ?_
  refine st_end ?_
  obtain rfl := Eq.symm h
  exact st_ret (gs' := [[(ba0, .cells [v1, .int .i64 a0.2.1, .int .i64 a0.2.2].toArray 111 (0, 0))]]) Tryd.func53 rfl (List.Sublist.refl _) (hl6.trans hl9) ⟨_, _, rfl, rfl, (fun _ _ _ hl hs13 => lens_Lens_Words_1_ok ((Cel.up (cel_of hg7 rfl) hl9).up hl) ((cel_of hg10 rfl).up hl) hs13)⟩
theorem ack_Parse_ok {a0 : List Int} {v1 : Value} {r : (Int × Int) × Int} (h : ack_Parse a0 r) (σ : Sto) (hs2 : Sl (kI .u8) σ v1 a0) :
    Does Tryd.prog 23 [v1] σ [] (fun v τ gs => gs = [] ∧ .tuple [.agg [.int .u32 r.1.1, .int .u64 r.1.2].toArray, .int .i64 r.2].toArray = v) := by
  refine call_of Tryd.func23 Tryd.ntmps23 rfl rfl (fun cs fs => ?_)
  refine st_seq ?_
  refine st_region ?_
  refine o_alloc rfl rfl rfl z_zero50 (fun b3 => ?_)
  refine o_assign rfl rfl rfl rfl ?_
  refine st_end ?_
  refine st_scope ?_
  refine st_seq ?_
  refine st_block ?_
  refine st_seq ?_
  refine st_region ?_
  refine o_move rfl rfl rfl rfl ?_
  refine o_lenI rfl rfl rfl z_slT31 rfl hs2 ?_
  refine o_ibin (v := .bool (decide ((a0.length : Int) < 16))) rfl rfl rfl rfl rfl rfl ?_
  refine o_assign rfl rfl rfl rfl ?_
  refine st_end ?_
  refine st_cond rfl (fun hc => ?_) (fun hc => ?_)
  · replace h := (if_pos hc).mp h
    refine st_seq ?_
    refine st_region ?_
    refine o_build (ps := []) (cs := [.int .u32 0, .int .u64 0]) rfl rfl rfl z_struct50 trivial rfl ?_
    refine o_store (j := 0) (vs := [.int .u32 0, .int .u64 0]) (cs' := [.int .u32 0, .int .u64 0]) rfl rfl rfl z_size50 rfl rfl rfl (ones_cons rfl (ones_cons rfl ones_nil)) rfl rfl rfl ?_
    refine st_gs [[(b3, .cells [.int .u32 0, .int .u64 0].toArray 50 (0, 0))]] rfl ?_
    refine o_assign rfl rfl rfl rfl ?_
    refine st_end ?_
    obtain rfl := Eq.symm h
    exact st_retC (gs' := []) [.agg [.int .u32 0, .int .u64 0].toArray, .int .i64 13] Tryd.func23 ⟨⟨_, _, _, _, rfl, mem_flat 0 rfl, fun w hw => cellOfN (vs := [.int .u32 0, .int .u64 0]) z_agg50 rfl w hw⟩, rfl, trivial⟩ (by simp) (Sto.Le.refl _) ⟨rfl, rfl⟩
  · replace h := (if_neg (ne_t hc)).mp h
    refine st_seq ?_
    refine st_region ?_
    refine o_move rfl rfl rfl rfl ?_
    refine o_lenI rfl rfl rfl z_slT31 rfl hs2 ?_
    refine o_ibin (v := .bool (decide (16 < (a0.length : Int)))) rfl rfl rfl rfl rfl rfl ?_
    refine o_assign rfl rfl rfl rfl ?_
    refine st_end ?_
    refine st_cond rfl (fun hc => ?_) (fun hc => ?_)
    · replace h := (if_pos hc).mp h
      refine st_seq ?_
      refine st_region ?_
      refine o_build (ps := []) (cs := [.int .u32 0, .int .u64 0]) rfl rfl rfl z_struct50 trivial rfl ?_
      refine o_store (j := 0) (vs := [.int .u32 0, .int .u64 0]) (cs' := [.int .u32 0, .int .u64 0]) rfl rfl rfl z_size50 rfl rfl rfl (ones_cons rfl (ones_cons rfl ones_nil)) rfl rfl rfl ?_
      refine st_gs [[(b3, .cells [.int .u32 0, .int .u64 0].toArray 50 (0, 0))]] rfl ?_
      refine o_assign rfl rfl rfl rfl ?_
      refine st_end ?_
      obtain rfl := Eq.symm h
      exact st_retC (gs' := []) [.agg [.int .u32 0, .int .u64 0].toArray, .int .i64 3] Tryd.func23 ⟨⟨_, _, _, _, rfl, mem_flat 0 rfl, fun w hw => cellOfN (vs := [.int .u32 0, .int .u64 0]) z_agg50 rfl w hw⟩, rfl, trivial⟩ (by simp) (Sto.Le.refl _) ⟨rfl, rfl⟩
    · replace h := (if_neg (ne_t hc)).mp h
      refine st_skip ?_
      refine st_inBlock ?_
      refine st_seq ?_
      refine st_region ?_
      obtain ⟨r4, hr5, h⟩ := h
      refine st_call (foot := []) rfl rfl rfl rfl rfl rfl (callV_fn z_en50 (crc_New_ok hr5 σ)) ?_
      rintro vτ6 τ6 gsτ6 hl7 ⟨bi8, rfl, rfl, hc9⟩
      refine o_move rfl rfl rfl rfl ?_
      obtain ⟨r10, hr11, h⟩ := h
      refine st_call (foot := []) rfl rfl rfl rfl rfl rfl (callV_fn z_en52 (crc_Open_ok hr11 τ6 hc9 (hs2.up hl7))) ?_
      rintro vτ12 τ12 gsτ12 hl13 ⟨v14, rfl, rfl, hs15⟩
      refine o_move rfl rfl rfl rfl ?_
      refine o_extract rfl rfl rfl rfl rfl ?_
      refine o_extract rfl rfl rfl rfl rfl ?_
      refine o_assign rfl rfl rfl rfl ?_
      refine o_assign rfl rfl rfl rfl ?_
      refine st_end ?_
      refine st_seq ?_
      refine st_seq ?_
      refine st_region ?_
      refine o_move rfl rfl rfl rfl ?_
      refine o_ibin (v := .bool (!(decide (r10.2 = 0)))) rfl rfl rfl rfl rfl rfl ?_
      refine st_end ?_
      refine st_cond rfl (fun hc => ?_) (fun hc => ?_)
      · replace h := (if_pos hc).mp h
        refine st_seq ?_
        refine st_region ?_
        refine o_build (ps := []) (cs := [.int .u32 0, .int .u64 0]) rfl rfl rfl z_struct50 trivial rfl ?_
        refine o_move rfl rfl rfl rfl ?_
        refine o_store (j := 0) (vs := [.int .u32 0, .int .u64 0]) (cs' := [.int .u32 0, .int .u64 0]) rfl rfl rfl z_size50 rfl rfl rfl (ones_cons rfl (ones_cons rfl ones_nil)) rfl rfl rfl ?_
        refine st_gs [[(b3, .cells [.int .u32 0, .int .u64 0].toArray 50 (0, 0))]] rfl ?_
        refine o_assign rfl rfl rfl rfl ?_
        refine st_end ?_
        obtain rfl := Eq.symm h
        exact st_retC (gs' := []) [.agg [.int .u32 0, .int .u64 0].toArray, .int .i64 r10.2] Tryd.func23 ⟨⟨_, _, _, _, rfl, mem_flat 0 rfl, fun w hw => cellOfN (vs := [.int .u32 0, .int .u64 0]) z_agg50 rfl w hw⟩, rfl, trivial⟩ (by simp) (hl7.trans hl13) ⟨rfl, rfl⟩
      · replace h := (if_neg (ne_t hc)).mp h
        refine st_skip ?_
        refine st_seq ?_
        refine st_region ?_
        refine o_move rfl rfl rfl rfl ?_
        obtain ⟨r16, hr17, h⟩ := h
        refine st_call (foot := []) rfl rfl rfl rfl rfl rfl (callV_fn z_en38 (lens_New_ok hr17 τ12 hs15)) ?_
        rintro vτ18 τ18 gsτ18 hl19 ⟨b20, v21, rfl, rfl, hs22⟩
        refine o_assign rfl rfl rfl rfl ?_
        refine st_end ?_
        refine st_seq ?_
        refine st_region ?_
        refine o_alloc rfl rfl rfl z_zero87 (fun b23 => ?_)
        refine st_end ?_
        refine st_seq ?_
        refine st_region ?_
        refine o_alloc rfl rfl rfl z_zero3 (fun b24 => ?_)
        refine o_store (j := 0) (vs := [.int .i64 0]) (cs' := [.int .i64 0]) rfl rfl rfl z_size3 rfl rfl rfl (ones_cons rfl ones_nil) rfl rfl rfl ?_
        refine st_gs [[(b24, .cells [.int .i64 0].toArray 3 (0, 0))], [(b23, .cells [.int .u32 0, .int .u32 0, .int .u32 0].toArray 87 (0, 0))], [(b20, .cells [v21, .int .i64 r16.2.1, .int .i64 r16.2.2].toArray 111 (0, 0))], [(b3, .cells [.int .u32 0, .int .u64 0].toArray 50 (0, 0))]] rfl ?_
        refine st_end ?_
        refine st_seq ?_
        refine st_label ?_
        refine st_seq ?_
        refine st_cut (fun ρ τ25 gs => ∃ (s25 : Int × Int × Int), ack_Parse_j1 s25 r ∧ τ18.Le τ25 ∧ ρ = [(2, .pointer (some ⟨b3, 0, none⟩)), (3, .int .i64 0), (7, .pointer (some ⟨b23, 0, none⟩))] ∧ gs = [[(b3, .cells [.int .u32 0, .int .u64 0].toArray 50 (0, 0))], [(b23, .cells [.int .u32 s25.1, .int .u32 s25.2.1, .int .u32 s25.2.2].toArray 87 (0, 0))]]) ?_ (fun hk25 => ?_)
        · rintro ρ25 τ25 gs25 ⟨s25, h, hl25, rfl, rfl⟩
          refine st_seq ?_
          refine st_region ?_
          refine o_indexA rfl rfl rfl z_arr87 rfl rfl (by decide) (by decide) ?_
          refine o_load (j := 1) (v := .int .u32 s25.1) rfl rfl rfl z_sc22 rfl rfl rfl ?_
          refine o_indexA rfl rfl rfl z_arr87 rfl rfl (by decide) (by decide) ?_
          refine o_load (j := 1) (v := .int .u32 s25.2.2) rfl rfl rfl z_sc22 rfl rfl rfl ?_
          refine o_conv rfl rfl rfl Tryd.underlying22 Tryd.underlying48 rfl ?_
          refine o_shl rfl rfl rfl rfl rfl (by decide) ?_
          refine o_indexA rfl rfl rfl z_arr87 rfl rfl (by decide) (by decide) ?_
          refine o_load (j := 1) (v := .int .u32 s25.2.1) rfl rfl rfl z_sc22 rfl rfl rfl ?_
          refine o_conv rfl rfl rfl Tryd.underlying22 Tryd.underlying48 rfl ?_
          refine o_ibin (v := .int .u64 (ior .u64 (ishl .u64 (IntKind.u64.wrap s25.2.2) 32) (IntKind.u64.wrap s25.2.1))) rfl rfl rfl rfl rfl rfl ?_
          refine o_build (ps := [(0, [.int .u32 s25.1]), (1, [.int .u64 (ior .u64 (ishl .u64 (IntKind.u64.wrap s25.2.2) 32) (IntKind.u64.wrap s25.2.1))])]) (cs := [.int .u32 s25.1, .int .u64 (ior .u64 (ishl .u64 (IntKind.u64.wrap s25.2.2) 32) (IntKind.u64.wrap s25.2.1))]) rfl rfl rfl z_struct50 ⟨rfl, ⟨_, rfl, rfl⟩, ⟨rfl, ⟨_, rfl, rfl⟩, trivial⟩⟩ rfl ?_
          refine o_store (j := 0) (vs := [.int .u32 s25.1, .int .u64 (ior .u64 (ishl .u64 (IntKind.u64.wrap s25.2.2) 32) (IntKind.u64.wrap s25.2.1))]) (cs' := [.int .u32 s25.1, .int .u64 (ior .u64 (ishl .u64 (IntKind.u64.wrap s25.2.2) 32) (IntKind.u64.wrap s25.2.1))]) rfl rfl rfl z_size50 rfl rfl rfl (ones_cons rfl (ones_cons rfl ones_nil)) rfl rfl rfl ?_
          refine st_gs [[(b3, .cells [.int .u32 s25.1, .int .u64 (ior .u64 (ishl .u64 (IntKind.u64.wrap s25.2.2) 32) (IntKind.u64.wrap s25.2.1))].toArray 50 (0, 0))], [(b23, .cells [.int .u32 s25.1, .int .u32 s25.2.1, .int .u32 s25.2.2].toArray 87 (0, 0))]] rfl ?_
          refine o_assign rfl rfl rfl rfl ?_
          refine st_end ?_
          obtain rfl := Eq.symm h
          exact st_retC (gs' := []) [.agg [.int .u32 s25.1, .int .u64 (ior .u64 (ishl .u64 (IntKind.u64.wrap s25.2.2) 32) (IntKind.u64.wrap s25.2.1))].toArray, .int .i64 0] Tryd.func23 ⟨⟨_, _, _, _, rfl, mem_flat 0 rfl, fun w hw => cellOfN (vs := [.int .u32 s25.1, .int .u64 (ior .u64 (ishl .u64 (IntKind.u64.wrap s25.2.2) 32) (IntKind.u64.wrap s25.2.1))]) z_agg50 rfl w hw⟩, rfl, trivial⟩ (by simp) (((hl7.trans hl13).trans hl19).trans hl25) ⟨rfl, rfl⟩
        refine st_seq ?_
        refine st_region ?_
        refine o_move rfl rfl rfl rfl ?_
        obtain ⟨r26, hr27, h⟩ := h
        refine st_ord [2, 0, 0, 0] [[(b20, .cells [v21, .int .i64 r16.2.1, .int .i64 r16.2.2].toArray 111 (0, 0))], [(b24, .cells [.int .i64 0].toArray 3 (0, 0))], [(b23, .cells [.int .u32 0, .int .u32 0, .int .u32 0].toArray 87 (0, 0))], [(b3, .cells [.int .u32 0, .int .u64 0].toArray 50 (0, 0))]] rfl ?_
        refine st_call (foot := [[(b20, .cells [v21, .int .i64 r16.2.1, .int .i64 r16.2.2].toArray 111 (0, 0))]]) rfl rfl rfl rfl rfl rfl (callV_fn z_en53 (lens_Lens_Words_ok hr27 τ18 hs22)) ?_
        rintro vτ28 τ28 gsτ28 hl29 ⟨f30, q31, rfl, rfl, hit32⟩
        refine st_end ?_
        refine st_block ?_
        obtain ⟨t40, w40, hR40, hA40⟩ := h
        refine st_env (ρ' := [(2, .pointer (some ⟨b3, 0, none⟩)), (3, .int .i64 0), (7, .pointer (some ⟨b23, 0, none⟩)), (8, .pointer (some ⟨b24, 0, none⟩)), (33, .func (.func f30) #[] q31)]) ⟨rfl, rfl, rfl, rfl, rfl, trivial⟩ ?_
        refine st_ord [0, 2, 1, 0] [[(b20, .cells [v21, .int .i64 r16.2.1, .int .i64 r16.2.2].toArray 111 (0, 0))], [(b3, .cells [.int .u32 0, .int .u64 0].toArray 50 (0, 0))], [(b23, .cells [.int .u32 0, .int .u32 0, .int .u32 0].toArray 87 (0, 0))], [(b24, .cells [.int .i64 0].toArray 3 (0, 0))]] rfl ?_
        refine st_range (B := ack_Parse_l2) (s0 := (0, 0, 0, 0)) ranges_fctx rfl (hit32 r16 _ τ28 (Sto.Le.refl _) (hs22.up hl29)) (Sto.Le.refl _) hR40 rfl (fun _ _ _ h => by cases h; rfl) (fun (s40 : Int × Int × Int × Int) τ40 gs => τ28.Le τ40 ∧ gs = [[(b3, .cells [.int .u32 0, .int .u64 0].toArray 50 (0, 0))], [(b23, .cells [.int .u32 s40.1, .int .u32 s40.2.1, .int .u32 s40.2.2.1].toArray 87 (0, 0))], [(b24, .cells [.int .i64 s40.2.2.2].toArray 3 (0, 0))]]) (fun (p43 : Int × Int × Int × Int) cd τ44 gs => cd = .exit 1 ∧ τ28.Le τ44 ∧ gs = [[(b3, .cells [.int .u32 0, .int .u64 0].toArray 50 (0, 0))], [(b23, .cells [.int .u32 p43.1, .int .u32 p43.2.1, .int .u32 p43.2.2.1].toArray 87 (0, 0))], [(b24, .cells [.int .i64 p43.2.2.2].toArray 3 (0, 0))]]) (fun _ _ _ _ hl ⟨hb, hg⟩ => ⟨hb.trans hl, hg⟩) (fun _ _ _ _ _ hl ⟨hc, hb, hg⟩ => ⟨hc, hb.trans hl, hg⟩) ⟨Sto.Le.refl _, rfl⟩ ?_ ?_ ?_
        · rintro x40 s40 o40 τ40 gs40 vx40 hl40 h rfl ⟨hb40, rfl⟩ l40 rc40 caller40 cs40 fs40
          refine st_region ?_
          refine o_assign rfl rfl rfl rfl ?_
          refine st_end ?_
          refine st_begin ?_
          refine st_block ?_
          refine st_seq ?_
          refine st_seq ?_
          refine st_region ?_
          refine o_load (j := 2) (v := .int .i64 s40.2.2.2) rfl rfl rfl z_sc3 rfl rfl rfl ?_
          refine o_move rfl rfl rfl rfl ?_
          obtain ⟨hf41, h⟩ := h
          obtain ⟨hf42, h⟩ := h
          refine o_indexA rfl rfl rfl z_arr87 rfl rfl hf41 hf42 ?_
          refine o_storeV (j := 1) (s40.2.2.2.toNat) (f := (Value.int .u32)) (zz := 0) (a := x40) (l := 3) (xs := [s40.1, s40.2.1, s40.2.2.1]) [] [] rfl rfl rfl z_size22 rfl rfl rfl rfl rfl (by simp only [List.length_cons, List.length_nil]; omega) (by omega) ?_
          refine st_gs [[(b3, .cells [.int .u32 0, .int .u64 0].toArray 50 (0, 0))], [(b23, .cells [.int .u32 ((putN 3 0 [s40.1, s40.2.1, s40.2.2.1] s40.2.2.2.toNat x40).getD 0 0), .int .u32 ((putN 3 0 [s40.1, s40.2.1, s40.2.2.1] s40.2.2.2.toNat x40).getD 1 0), .int .u32 ((putN 3 0 [s40.1, s40.2.1, s40.2.2.1] s40.2.2.2.toNat x40).getD 2 0)].toArray 87 (0, 0))], [(b24, .cells [.int .i64 s40.2.2.2].toArray 3 (0, 0))]] rfl ?_
          refine st_end ?_
          refine st_seq ?_
          refine st_region ?_
          refine o_load (j := 2) (v := .int .i64 s40.2.2.2) rfl rfl rfl z_sc3 rfl rfl rfl ?_
          refine o_ibin (v := .bool (decide (s40.2.2.2 = 2))) rfl rfl rfl rfl rfl rfl ?_
          refine st_end ?_
          refine st_cond rfl (fun hc => ?_) (fun hc => ?_)
          · replace h := (if_pos hc).mp h
            exact st_rexit rfl (List.Sublist.refl _) (Sto.Le.refl _) ⟨_, h, rfl, hl40, rfl⟩
          · replace h := (if_neg (ne_t hc)).mp h
            refine st_skip ?_
            refine st_region ?_
            refine o_load (j := 2) (v := .int .i64 s40.2.2.2) rfl rfl rfl z_sc3 rfl rfl rfl ?_
            refine o_ibin (v := .int .i64 (IntKind.i64.wrap (s40.2.2.2 + 1))) rfl rfl rfl rfl rfl rfl ?_
            refine o_store (j := 2) (vs := [.int .i64 (IntKind.i64.wrap (s40.2.2.2 + 1))]) (cs' := [.int .i64 (IntKind.i64.wrap (s40.2.2.2 + 1))]) rfl rfl rfl z_size3 rfl rfl rfl (ones_cons rfl ones_nil) rfl rfl rfl ?_
            refine st_gs [[(b3, .cells [.int .u32 0, .int .u64 0].toArray 50 (0, 0))], [(b23, .cells [.int .u32 ((putN 3 0 [s40.1, s40.2.1, s40.2.2.1] s40.2.2.2.toNat x40).getD 0 0), .int .u32 ((putN 3 0 [s40.1, s40.2.1, s40.2.2.1] s40.2.2.2.toNat x40).getD 1 0), .int .u32 ((putN 3 0 [s40.1, s40.2.1, s40.2.2.1] s40.2.2.2.toNat x40).getD 2 0)].toArray 87 (0, 0))], [(b24, .cells [.int .i64 (IntKind.i64.wrap (s40.2.2.2 + 1))].toArray 3 (0, 0))]] rfl ?_
            refine st_end ?_
            refine st_inBlock ?_
            exact st_rend (List.Sublist.refl _) (Sto.Le.refl _) ⟨_, h, hl40, rfl⟩
        · rintro p49 τ50 gs40 f40 ht hl51 ⟨hb, rfl⟩ ⟨v52, rfl, hs53⟩
          subst ht
          replace h := hA40
          refine st_gs [[(b20, .cells [v52, .int .i64 w40.2.1, .int .i64 w40.2.2].toArray 111 (0, 0))], [(b3, .cells [.int .u32 0, .int .u64 0].toArray 50 (0, 0))], [(b23, .cells [.int .u32 p49.1, .int .u32 p49.2.1, .int .u32 p49.2.2.1].toArray 87 (0, 0))], [(b24, .cells [.int .i64 p49.2.2.2].toArray 3 (0, 0))]] rfl ?_
          refine st_inBlock ?_
          refine st_env (ρ' := [(2, .pointer (some ⟨b3, 0, none⟩)), (3, .int .i64 0), (7, .pointer (some ⟨b23, 0, none⟩))]) ⟨rfl, rfl, rfl, trivial⟩ ?_
          refine st_ord [1, 1] [[(b3, .cells [.int .u32 0, .int .u64 0].toArray 50 (0, 0))], [(b23, .cells [.int .u32 p49.1, .int .u32 p49.2.1, .int .u32 p49.2.2.1].toArray 87 (0, 0))]] rfl ?_
          exact hk25 _ _ _ ⟨(p49.1, p49.2.1, p49.2.2.1), h, (hl29.trans hl51), rfl, rfl⟩
        · rintro p43 cd40 τ44 gs40 f40 ht hl45 ⟨rfl, hb, rfl⟩ ⟨v54, rfl, hs55⟩
          subst ht
          replace h := hA40
          refine st_gs [[(b20, .cells [v54, .int .i64 w40.2.1, .int .i64 w40.2.2].toArray 111 (0, 0))], [(b3, .cells [.int .u32 0, .int .u64 0].toArray 50 (0, 0))], [(b23, .cells [.int .u32 p43.1, .int .u32 p43.2.1, .int .u32 p43.2.2.1].toArray 87 (0, 0))], [(b24, .cells [.int .i64 p43.2.2.2].toArray 3 (0, 0))]] rfl ?_
          refine st_exit rfl ?_
          refine st_env (ρ' := [(2, .pointer (some ⟨b3, 0, none⟩)), (3, .int .i64 0), (7, .pointer (some ⟨b23, 0, none⟩))]) ⟨rfl, rfl, rfl, trivial⟩ ?_
          refine st_ord [1, 1] [[(b3, .cells [.int .u32 0, .int .u64 0].toArray 50 (0, 0))], [(b23, .cells [.int .u32 p43.1, .int .u32 p43.2.1, .int .u32 p43.2.2.1].toArray 87 (0, 0))]] rfl ?_
          exact hk25 _ _ _ ⟨(p43.1, p43.2.1, p43.2.2.1), h, (hl29.trans hl45), rfl, rfl⟩
theorem ref10_Add_ok {a0 : Int} {a1 : Int} {r : Int} (h : ref10_Add a0 a1 r) (σ : Sto)  :
    Does Tryd.prog 54 [.int .u32 a0, .int .i64 a1] σ [] (fun v τ gs => gs = [] ∧ .int .u32 r = v) := by
  refine call_of Tryd.func54 Tryd.ntmps54 rfl rfl (fun cs fs => ?_)
  refine st_seq ?_
  refine st_region ?_
  refine o_assign rfl rfl rfl rfl ?_
  refine st_end ?_
  refine st_seq ?_
  refine st_region ?_
  refine o_move rfl rfl rfl rfl ?_
  refine o_rem rfl rfl rfl rfl rfl (by decide) ?_
  refine o_assign rfl rfl rfl rfl ?_
  refine st_end ?_
  refine st_seq ?_
  refine st_cut (fun ρ τ1 gs => ∃ (s1 : Int), ref10_Add_j1 a0 s1 r ∧ σ.Le τ1 ∧ ρ = [(0, .int .u32 a0), (4, .int .u32 0), (5, .int .i64 s1)] ∧ gs = []) ?_ (fun hk1 => ?_)
  · rintro ρ1 τ1 gs1 ⟨s1, h, hl1, rfl, rfl⟩
    refine st_seq ?_
    refine st_region ?_
    refine o_move rfl rfl rfl rfl ?_
    refine o_conv rfl rfl rfl Tryd.underlying22 Tryd.underlying48 rfl ?_
    refine o_move rfl rfl rfl rfl ?_
    refine o_conv rfl rfl rfl Tryd.underlying3 Tryd.underlying48 rfl ?_
    refine o_ibin (v := .int .u64 (IntKind.u64.wrap ((IntKind.u64.wrap a0) + (IntKind.u64.wrap s1)))) rfl rfl rfl rfl rfl rfl ?_
    refine o_rem rfl rfl rfl rfl rfl (by decide) ?_
    refine o_conv rfl rfl rfl Tryd.underlying48 Tryd.underlying22 rfl ?_
    refine o_assign rfl rfl rfl rfl ?_
    refine st_end ?_
    obtain rfl := Eq.symm h
    exact st_ret (gs' := []) Tryd.func54 rfl (List.Sublist.refl _) hl1 ⟨rfl, rfl⟩
  refine st_seq ?_
  refine st_region ?_
  refine o_move rfl rfl rfl rfl ?_
  refine o_ibin (v := .bool (decide ((a1.tmod 4294967296) < 0))) rfl rfl rfl rfl rfl rfl ?_
  refine st_end ?_
  refine st_cond rfl (fun hc => ?_) (fun hc => ?_)
  · replace h := (if_pos hc).mp h
    refine st_region ?_
    refine o_move rfl rfl rfl rfl ?_
    refine o_ibin (v := .int .i64 (IntKind.i64.wrap ((a1.tmod 4294967296) + 4294967296))) rfl rfl rfl rfl rfl rfl ?_
    refine o_assign rfl rfl rfl rfl ?_
    refine st_end ?_
    refine st_env (ρ' := [(0, .int .u32 a0), (4, .int .u32 0), (5, .int .i64 (IntKind.i64.wrap ((a1.tmod 4294967296) + 4294967296)))]) ⟨rfl, rfl, rfl, trivial⟩ ?_
    exact hk1 _ _ _ ⟨(IntKind.i64.wrap ((a1.tmod 4294967296) + 4294967296)), h, (Sto.Le.refl _), rfl, rfl⟩
  · replace h := (if_neg (ne_t hc)).mp h
    refine st_skip ?_
    refine st_env (ρ' := [(0, .int .u32 a0), (4, .int .u32 0), (5, .int .i64 (a1.tmod 4294967296))]) ⟨rfl, rfl, rfl, trivial⟩ ?_
    exact hk1 _ _ _ ⟨(a1.tmod 4294967296), h, (Sto.Le.refl _), rfl, rfl⟩
theorem ref32_bit_ok {a0 : Int} {a1 : Int} {r : Bool} (h : ref32_bit a0 a1 r) (σ : Sto)  :
    Does Tryd.prog 55 [.int .u64 a0, .int .i64 a1] σ [] (fun v τ gs => gs = [] ∧ .bool r = v) := by
  refine call_of Tryd.func55 Tryd.ntmps55 rfl rfl (fun cs fs => ?_)
  refine st_seq ?_
  refine st_region ?_
  refine o_assign rfl rfl rfl rfl ?_
  refine st_end ?_
  refine st_seq ?_
  refine st_cut (fun ρ τ1 gs => ∃ (s1 : Int), ref32_bit_j1 s1 r ∧ σ.Le τ1 ∧ ρ = [(0, .int .u64 s1), (4, .bool false)] ∧ gs = []) ?_ (fun hk1 => ?_)
  · rintro ρ1 τ1 gs1 ⟨s1, h, hl1, rfl, rfl⟩
    refine st_seq ?_
    refine st_region ?_
    refine o_move rfl rfl rfl rfl ?_
    refine o_rem rfl rfl rfl rfl rfl (by decide) ?_
    refine o_ibin (v := .bool (decide ((s1.tmod 2) = 1))) rfl rfl rfl rfl rfl rfl ?_
    refine o_assign rfl rfl rfl rfl ?_
    refine st_end ?_
    obtain rfl := Eq.symm h
    exact st_ret (gs' := []) Tryd.func55 rfl (List.Sublist.refl _) hl1 ⟨rfl, rfl⟩
  refine st_seq ?_
  refine st_region ?_
  refine o_assign rfl rfl rfl rfl ?_
  refine st_end ?_
  obtain ⟨e2, hL2, hA2⟩ := h
  refine st_env (ρ' := [(0, .int .u64 a0), (1, .int .i64 a1), (4, .bool false), (5, .int .i64 0)]) ⟨rfl, rfl, rfl, rfl, trivial⟩ ?_
  refine st_loop hL2 (fun (s2 : Int × Int) ρ τ2 gs => σ.Le τ2 ∧ ρ = [(0, .int .u64 s2.1), (1, .int .i64 a1), (4, .bool false), (5, .int .i64 s2.2)] ∧ gs = []) ⟨Sto.Le.refl _, rfl, rfl⟩ ?_
  rintro s2 o2 h he2 ρ2 τ2 gs2 ⟨hl2, rfl, rfl⟩ hn2
  refine st_seq ?_
  refine st_seq ?_
  refine st_region ?_
  refine o_move rfl rfl rfl rfl ?_
  refine o_move rfl rfl rfl rfl ?_
  refine o_ibin (v := .bool (decide (s2.2 < a1))) rfl rfl rfl rfl rfl rfl ?_
  refine st_end ?_
  refine st_cond rfl (fun hc => ?_) (fun hc => ?_)
  · replace h := (if_pos hc).mp h
    refine st_skip ?_
    refine st_seq ?_
    refine st_block ?_
    refine st_region ?_
    refine o_move rfl rfl rfl rfl ?_
    refine o_quo rfl rfl rfl rfl rfl (by decide) ?_
    refine o_assign rfl rfl rfl rfl ?_
    refine st_end ?_
    refine st_inBlock ?_
    refine st_region ?_
    refine o_move rfl rfl rfl rfl ?_
    refine o_ibin (v := .int .i64 (IntKind.i64.wrap (s2.2 + 1))) rfl rfl rfl rfl rfl rfl ?_
    refine o_assign rfl rfl rfl rfl ?_
    refine st_end ?_
    refine st_env (ρ' := [(0, .int .u64 (IntKind.u64.wrap (s2.1.tdiv 2))), (1, .int .i64 a1), (4, .bool false), (5, .int .i64 (IntKind.i64.wrap (s2.2 + 1)))]) ⟨rfl, rfl, rfl, rfl, trivial⟩ ?_
    exact hn2 _ _ _ _ h ⟨hl2, rfl, rfl⟩
  · replace h := (if_neg (ne_t hc)).mp h
    refine st_exit rfl ?_
    obtain rfl := he2 _ h
    replace h := hA2
    refine st_env (ρ' := [(0, .int .u64 s2.1), (4, .bool false)]) ⟨rfl, rfl, trivial⟩ ?_
    exact hk1 _ _ _ ⟨s2.1, h, hl2, rfl, rfl⟩
theorem ref10_Way_ok {a0 : Int} {a1 : Int} {r : Int} (h : ref10_Way a0 a1 r) (σ : Sto)  :
    Does Tryd.prog 79 [.int .u32 a0, .int .u32 a1] σ [] (fun v τ gs => gs = [] ∧ .int .u32 r = v) := by
  refine call_of Tryd.func79 Tryd.ntmps79 rfl rfl (fun cs fs => ?_)
  refine st_seq ?_
  refine st_region ?_
  refine o_assign rfl rfl rfl rfl ?_
  refine st_end ?_
  refine st_seq ?_
  refine st_region ?_
  refine o_move rfl rfl rfl rfl ?_
  refine o_conv rfl rfl rfl Tryd.underlying22 Tryd.underlying48 rfl ?_
  refine o_ibin (v := .int .u64 (IntKind.u64.wrap ((IntKind.u64.wrap a1) + 4294967296))) rfl rfl rfl rfl rfl rfl ?_
  refine o_move rfl rfl rfl rfl ?_
  refine o_conv rfl rfl rfl Tryd.underlying22 Tryd.underlying48 rfl ?_
  refine o_ibin (v := .int .u64 (IntKind.u64.wrap ((IntKind.u64.wrap ((IntKind.u64.wrap a1) + 4294967296)) - (IntKind.u64.wrap a0)))) rfl rfl rfl rfl rfl rfl ?_
  refine o_rem rfl rfl rfl rfl rfl (by decide) ?_
  refine o_conv rfl rfl rfl Tryd.underlying48 Tryd.underlying22 rfl ?_
  refine o_assign rfl rfl rfl rfl ?_
  refine st_end ?_
  obtain rfl := Eq.symm h
  exact st_ret (gs' := []) Tryd.func79 rfl (List.Sublist.refl _) (Sto.Le.refl _) ⟨rfl, rfl⟩
theorem ref10_After_ok {a0 : Int} {a1 : Int} {r : Bool} (h : ref10_After a0 a1 r) (σ : Sto)  :
    Does Tryd.prog 56 [.int .u32 a0, .int .u32 a1] σ [] (fun v τ gs => gs = [] ∧ .bool r = v) := by
  refine call_of Tryd.func56 Tryd.ntmps56 rfl rfl (fun cs fs => ?_)
  refine st_seq ?_
  refine st_region ?_
  refine o_assign rfl rfl rfl rfl ?_
  refine st_end ?_
  refine st_seq ?_
  refine st_cut (fun ρ τ1 gs => ∃ (s1 : Bool), ref10_After_j1 s1 r ∧ σ.Le τ1 ∧ ρ = [(4, .bool s1)] ∧ gs = []) ?_ (fun hk1 => ?_)
  · rintro ρ1 τ1 gs1 ⟨s1, h, hl1, rfl, rfl⟩
    obtain rfl := Eq.symm h
    exact st_ret (gs' := []) Tryd.func56 rfl (List.Sublist.refl _) hl1 ⟨rfl, rfl⟩
  refine st_region ?_
  refine o_move rfl rfl rfl rfl ?_
  refine o_move rfl rfl rfl rfl ?_
  obtain ⟨r2, hr3, h⟩ := h
  refine st_call (foot := []) rfl rfl rfl rfl rfl rfl (callV_fn z_en79 (ref10_Way_ok hr3 σ)) ?_
  rintro vτ4 τ4 gsτ4 hl5 ⟨rfl, rfl⟩
  refine o_ibin (v := .bool (decide (1 ≤ r2))) rfl rfl rfl rfl rfl rfl ?_
  refine o_moveB rfl rfl rfl rfl (fun hc => ?_) (fun hc => ?_)
  · replace h := (if_pos hc).mp h
    refine o_move rfl rfl rfl rfl ?_
    refine o_move rfl rfl rfl rfl ?_
    obtain ⟨r6, hr7, h⟩ := h
    refine st_call (foot := []) rfl rfl rfl rfl rfl rfl (callV_fn z_en79 (ref10_Way_ok hr7 τ4)) ?_
    rintro vτ8 τ8 gsτ8 hl9 ⟨rfl, rfl⟩
    refine o_ibin (v := .bool (decide (r6 < 2147483648))) rfl rfl rfl rfl rfl rfl ?_
    refine o_pick rfl rfl rfl rfl rfl ?_
    refine o_assign rfl rfl rfl rfl ?_
    refine st_end ?_
    refine st_env (ρ' := [(4, .bool (decide (r6 < 2147483648)))]) ⟨rfl, trivial⟩ ?_
    exact hk1 _ _ _ ⟨(decide (r6 < 2147483648)), h, (hl5.trans hl9), rfl, rfl⟩
  · replace h := (if_neg (ne_t hc)).mp h
    refine st_pass rfl rfl rfl rfl rfl rfl ?_
    refine st_pass rfl rfl rfl rfl rfl rfl ?_
    refine st_pass rfl rfl rfl rfl rfl rfl ?_
    refine st_pass rfl rfl rfl rfl rfl rfl ?_
    refine o_pick rfl rfl rfl rfl rfl ?_
    refine o_assign rfl rfl rfl rfl ?_
    refine st_end ?_
    refine st_env (ρ' := [(4, .bool false)]) ⟨rfl, trivial⟩ ?_
    exact hk1 _ _ _ ⟨false, h, hl5, rfl, rfl⟩
theorem ref32_Has_ok {a0 : Int × Int} {a1 : Int} {r : Bool} (h : ref32_Has a0 a1 r) (σ : Sto)  :
    Does Tryd.prog 24 [.agg [.int .u32 a0.1, .int .u64 a0.2].toArray, .int .u32 a1] σ [] (fun v τ gs => gs = [] ∧ .bool r = v) := by
  refine call_of Tryd.func24 Tryd.ntmps24 rfl rfl (fun cs fs => ?_)
  refine st_seq ?_
  refine st_region ?_
  refine o_box (cs := [.int .u32 a0.1, .int .u64 a0.2]) rfl rfl rfl rfl rfl (fun b1 => ?_)
  refine o_assign rfl rfl rfl rfl ?_
  refine st_end ?_
  refine st_seq ?_
  refine st_cut (fun ρ τ2 gs => ∃ (s2 : Unit), ref32_Has_j1 a0 a1 s2 r ∧ σ.Le τ2 ∧ ρ = [(1, .int .u32 a1), (2, .pointer (some ⟨b1, 0, none⟩)), (4, .bool false)] ∧ gs = [[(b1, .cells [.int .u32 a0.1, .int .u64 a0.2].toArray 55 (0, 0))]]) ?_ (fun hk2 => ?_)
  · rintro ρ2 τ2 gs2 ⟨s2, h, hl2, rfl, rfl⟩
    refine st_seq ?_
    refine st_region ?_
    refine o_move rfl rfl rfl rfl ?_
    refine o_fieldAddr rfl rfl rfl z_field55_0 rfl ?_
    refine o_load (j := 0) (v := .int .u32 a0.1) rfl rfl rfl z_sc22 rfl rfl rfl ?_
    obtain ⟨r3, hr4, h⟩ := h
    refine st_call (foot := []) rfl rfl rfl rfl rfl rfl (callV_fn z_en56 (ref10_After_ok hr4 τ2)) ?_
    rintro vτ5 τ5 gsτ5 hl6 ⟨rfl, rfl⟩
    refine o_not rfl rfl rfl rfl ?_
    refine o_assign rfl rfl rfl rfl ?_
    refine st_end ?_
    refine st_ord [] [] rfl ?_
    obtain rfl := Eq.symm h
    exact st_ret (gs' := []) Tryd.func24 rfl (List.Sublist.refl _) (hl2.trans hl6) ⟨rfl, rfl⟩
  refine st_seq ?_
  refine st_region ?_
  refine o_assign rfl rfl rfl rfl ?_
  refine st_end ?_
  obtain ⟨e7, hL7, hA7⟩ := h
  refine st_env (ρ' := [(1, .int .u32 a1), (2, .pointer (some ⟨b1, 0, none⟩)), (4, .bool false), (5, .int .i64 0)]) ⟨rfl, rfl, rfl, rfl, trivial⟩ ?_
  refine st_loop hL7 (fun (s7 : Int) ρ τ7 gs => σ.Le τ7 ∧ ρ = [(1, .int .u32 a1), (2, .pointer (some ⟨b1, 0, none⟩)), (4, .bool false), (5, .int .i64 s7)] ∧ gs = [[(b1, .cells [.int .u32 a0.1, .int .u64 a0.2].toArray 55 (0, 0))]]) ⟨Sto.Le.refl _, rfl, rfl⟩ ?_
  rintro s7 o7 h he7 ρ7 τ7 gs7 ⟨hl7, rfl, rfl⟩ hn7
  refine st_seq ?_
  refine st_seq ?_
  refine st_region ?_
  refine o_move rfl rfl rfl rfl ?_
  refine o_ibin (v := .bool (decide (s7 < 64))) rfl rfl rfl rfl rfl rfl ?_
  refine st_end ?_
  refine st_cond rfl (fun hc => ?_) (fun hc => ?_)
  · replace h := (if_pos hc).mp h
    refine st_skip ?_
    refine st_seq ?_
    refine st_block ?_
    refine st_seq ?_
    refine st_region ?_
    refine o_fieldAddr rfl rfl rfl z_field55_0 rfl ?_
    refine o_load (j := 0) (v := .int .u32 a0.1) rfl rfl rfl z_sc22 rfl rfl rfl ?_
    refine o_move rfl rfl rfl rfl ?_
    refine o_neg rfl rfl rfl rfl ?_
    obtain ⟨r8, hr9, h⟩ := h
    refine st_call (foot := []) rfl rfl rfl rfl rfl rfl (callV_fn z_en54 (ref10_Add_ok hr9 τ7)) ?_
    rintro vτ10 τ10 gsτ10 hl11 ⟨rfl, rfl⟩
    refine o_move rfl rfl rfl rfl ?_
    refine o_ibin (v := .bool (decide (r8 = a1))) rfl rfl rfl rfl rfl rfl ?_
    refine st_end ?_
    refine st_cond rfl (fun hc => ?_) (fun hc => ?_)
    · replace h := (if_pos hc).mp h
      refine st_seq ?_
      refine st_region ?_
      refine o_fieldAddr rfl rfl rfl z_field55_1 rfl ?_
      refine o_load (j := 0) (v := .int .u64 a0.2) rfl rfl rfl z_sc48 rfl rfl rfl ?_
      refine o_move rfl rfl rfl rfl ?_
      obtain ⟨r12, hr13, h⟩ := h
      refine st_call (foot := []) rfl rfl rfl rfl rfl rfl (callV_fn z_en55 (ref32_bit_ok hr13 τ10)) ?_
      rintro vτ14 τ14 gsτ14 hl15 ⟨rfl, rfl⟩
      refine o_assign rfl rfl rfl rfl ?_
      refine st_end ?_
      refine st_ord [] [] rfl ?_
      obtain rfl := he7 _ h
      replace h := hA7
      obtain rfl := Eq.symm h
      exact st_ret (gs' := []) Tryd.func24 rfl (List.Sublist.refl _) ((hl7.trans hl11).trans hl15) ⟨rfl, rfl⟩
    · replace h := (if_neg (ne_t hc)).mp h
      refine st_skip ?_
      refine st_inBlock ?_
      refine st_region ?_
      refine o_move rfl rfl rfl rfl ?_
      refine o_ibin (v := .int .i64 (IntKind.i64.wrap (s7 + 1))) rfl rfl rfl rfl rfl rfl ?_
      refine o_assign rfl rfl rfl rfl ?_
      refine st_end ?_
      refine st_env (ρ' := [(1, .int .u32 a1), (2, .pointer (some ⟨b1, 0, none⟩)), (4, .bool false), (5, .int .i64 (IntKind.i64.wrap (s7 + 1)))]) ⟨rfl, rfl, rfl, rfl, trivial⟩ ?_
      exact hn7 _ _ _ _ h ⟨(hl7.trans hl11), rfl, rfl⟩
  · replace h := (if_neg (ne_t hc)).mp h
    refine st_exit rfl ?_
    obtain rfl := he7 _ h
    replace h := hA7
    refine st_env (ρ' := [(1, .int .u32 a1), (2, .pointer (some ⟨b1, 0, none⟩)), (4, .bool false)]) ⟨rfl, rfl, rfl, trivial⟩ ?_
    exact hk2 _ _ _ ⟨(), h, hl7, rfl, rfl⟩
theorem serial_Add_ok {a0 : Int} {a1 : Int} {r : Int} (h : serial_Add a0 a1 r) (σ : Sto)  :
    Does Tryd.prog 82 [.int .u32 a0, .int .i64 a1] σ [] (fun v τ gs => gs = [] ∧ .int .u32 r = v) := by
  refine call_of Tryd.func82 Tryd.ntmps82 rfl rfl (fun cs fs => ?_)
  refine st_seq ?_
  refine st_region ?_
  refine o_assign rfl rfl rfl rfl ?_
  refine st_end ?_
  refine st_seq ?_
  refine st_region ?_
  refine o_move rfl rfl rfl rfl ?_
  refine o_move rfl rfl rfl rfl ?_
  refine o_conv rfl rfl rfl Tryd.underlying3 Tryd.underlying22 rfl ?_
  refine o_ibin (v := .int .u32 (IntKind.u32.wrap (a0 + (IntKind.u32.wrap a1)))) rfl rfl rfl rfl rfl rfl ?_
  refine o_assign rfl rfl rfl rfl ?_
  refine st_end ?_
  obtain rfl := Eq.symm h
  exact st_ret (gs' := []) Tryd.func82 rfl (List.Sublist.refl _) (Sto.Le.refl _) ⟨rfl, rfl⟩
theorem window_New_ok {a0 : Int} {r : ((Int × Int))} (h : window_New a0 r) (σ : Sto)  :
    Does Tryd.prog 58 [.int .u32 a0] σ [] (fun v τ gs => ∃ (b6 : Nat), gs = [[(b6, .cells [.int .u32 r.1, .int .u64 r.2].toArray 133 (0, 0))]] ∧ .pointer (some ⟨b6, 0, none⟩) = v) := by
  refine call_of Tryd.func58 Tryd.ntmps58 rfl rfl (fun cs fs => ?_)
  refine st_seq ?_
  refine st_region ?_
  refine o_assign rfl rfl rfl rfl ?_
  refine st_end ?_
  refine st_seq ?_
  refine st_region ?_
  refine o_move rfl rfl rfl rfl ?_
  obtain ⟨r1, hr2, h⟩ := h
  refine st_call (foot := []) rfl rfl rfl rfl rfl rfl (callV_fn z_en82 (serial_Add_ok hr2 σ)) ?_
  rintro vτ3 τ3 gsτ3 hl4 ⟨rfl, rfl⟩
  refine o_build (ps := [(0, [.int .u32 r1]), (1, [.int .u64 18446744073709551615])]) (cs := [.int .u32 r1, .int .u64 18446744073709551615]) rfl rfl rfl z_struct131 ⟨rfl, ⟨_, rfl, rfl⟩, ⟨rfl, ⟨_, rfl, rfl⟩, trivial⟩⟩ rfl ?_
  refine o_build (ps := [(0, [.int .u32 r1, .int .u64 18446744073709551615])]) (cs := [.int .u32 r1, .int .u64 18446744073709551615]) rfl rfl rfl z_struct133 ⟨rfl, ⟨_, rfl, rfl⟩, trivial⟩ rfl ?_
  refine o_box (cs := [.int .u32 r1, .int .u64 18446744073709551615]) rfl rfl rfl rfl rfl (fun b5 => ?_)
  refine o_assign rfl rfl rfl rfl ?_
  refine st_end ?_
  obtain rfl := Eq.symm h
  exact st_ret (gs' := [[(b5, .cells [.int .u32 r1, .int .u64 18446744073709551615].toArray 133 (0, 0))]]) Tryd.func58 rfl (List.Sublist.refl _) hl4 ⟨_, rfl, rfl⟩
theorem window_Window_Top_ok {a0 : (Int × Int)} {ba0 : Nat} {r : Int} (h : window_Window_Top a0 r) (σ : Sto)  :
    Does Tryd.prog 80 [.pointer (some ⟨ba0, 0, none⟩)] σ [[(ba0, .cells [.int .u32 a0.1, .int .u64 a0.2].toArray 133 (0, 0))]] (fun v τ gs => gs = [[(ba0, .cells [.int .u32 a0.1, .int .u64 a0.2].toArray 133 (0, 0))]] ∧ .int .u32 r = v) := by
  refine call_of Tryd.func80 Tryd.ntmps80 rfl rfl (fun cs fs => ?_)
  refine st_seq ?_
  refine st_region ?_
  refine o_assign rfl rfl rfl rfl ?_
  refine st_end ?_
  refine st_seq ?_
  refine st_seq ?_
  refine st_region ?_
  refine o_move rfl rfl rfl rfl ?_
  refine o_ptrNil (b := false) rfl rfl rfl Tryd.underlying101 rfl rfl rfl ?_
  refine st_end ?_
  refine st_condF rfl ?_
  refine st_skip ?_
  refine st_seq ?_
  refine st_region ?_
  refine o_move rfl rfl rfl rfl ?_
  refine o_nilCheck rfl rfl rfl rfl ?_
  refine o_fieldAddr rfl rfl rfl z_field133_0 rfl ?_
  refine o_fieldAddr rfl rfl rfl z_field131_0 rfl ?_
  refine o_load (j := 0) (v := .int .u32 a0.1) rfl rfl rfl z_sc22 rfl rfl rfl ?_
  refine o_assign rfl rfl rfl rfl ?_
  refine st_end ?_
  obtain rfl := Eq.symm h
  exact st_ret (gs' := [[(ba0, .cells [.int .u32 a0.1, .int .u64 a0.2].toArray 133 (0, 0))]]) Tryd.func80 rfl (List.Sublist.refl _) (Sto.Le.refl _) ⟨rfl, rfl⟩
theorem window_Window_Bits_ok {a0 : (Int × Int)} {ba0 : Nat} {r : Int} (h : window_Window_Bits a0 r) (σ : Sto)  :
    Does Tryd.prog 81 [.pointer (some ⟨ba0, 0, none⟩)] σ [[(ba0, .cells [.int .u32 a0.1, .int .u64 a0.2].toArray 133 (0, 0))]] (fun v τ gs => gs = [[(ba0, .cells [.int .u32 a0.1, .int .u64 a0.2].toArray 133 (0, 0))]] ∧ .int .u64 r = v) := by
  refine call_of Tryd.func81 Tryd.ntmps81 rfl rfl (fun cs fs => ?_)
  refine st_seq ?_
  refine st_region ?_
  refine o_assign rfl rfl rfl rfl ?_
  refine st_end ?_
  refine st_seq ?_
  refine st_seq ?_
  refine st_region ?_
  refine o_move rfl rfl rfl rfl ?_
  refine o_ptrNil (b := false) rfl rfl rfl Tryd.underlying101 rfl rfl rfl ?_
  refine st_end ?_
  refine st_condF rfl ?_
  refine st_skip ?_
  refine st_seq ?_
  refine st_region ?_
  refine o_move rfl rfl rfl rfl ?_
  refine o_nilCheck rfl rfl rfl rfl ?_
  refine o_fieldAddr rfl rfl rfl z_field133_0 rfl ?_
  refine o_fieldAddr rfl rfl rfl z_field131_1 rfl ?_
  refine o_load (j := 0) (v := .int .u64 a0.2) rfl rfl rfl z_sc48 rfl rfl rfl ?_
  refine o_assign rfl rfl rfl rfl ?_
  refine st_end ?_
  obtain rfl := Eq.symm h
  exact st_ret (gs' := [[(ba0, .cells [.int .u32 a0.1, .int .u64 a0.2].toArray 133 (0, 0))]]) Tryd.func81 rfl (List.Sublist.refl _) (Sto.Le.refl _) ⟨rfl, rfl⟩
theorem ack_Of_ok {a0 : (Int × Int)} {ba0 : Nat} {r : (Int × Int)} (h : ack_Of a0 r) (σ : Sto)  :
    Does Tryd.prog 57 [.pointer (some ⟨ba0, 0, none⟩)] σ [[(ba0, .cells [.int .u32 a0.1, .int .u64 a0.2].toArray 133 (0, 0))]] (fun v τ gs => gs = [[(ba0, .cells [.int .u32 a0.1, .int .u64 a0.2].toArray 133 (0, 0))]] ∧ .agg [.int .u32 r.1, .int .u64 r.2].toArray = v) := by
  refine call_of Tryd.func57 Tryd.ntmps57 rfl rfl (fun cs fs => ?_)
  refine st_seq ?_
  refine st_region ?_
  refine o_alloc rfl rfl rfl z_zero50 (fun b1 => ?_)
  refine st_end ?_
  refine st_seq ?_
  refine st_region ?_
  refine o_move rfl rfl rfl rfl ?_
  obtain ⟨r2, hr3, h⟩ := h
  refine st_ord [1, 0] [[(ba0, .cells [.int .u32 a0.1, .int .u64 a0.2].toArray 133 (0, 0))], [(b1, .cells [.int .u32 0, .int .u64 0].toArray 50 (0, 0))]] rfl ?_
  refine st_call (foot := [[(ba0, .cells [.int .u32 a0.1, .int .u64 a0.2].toArray 133 (0, 0))]]) rfl rfl rfl rfl rfl rfl (callV_fn z_en80 (window_Window_Top_ok hr3 σ)) ?_
  rintro vτ4 τ4 gsτ4 hl5 ⟨rfl, rfl⟩
  refine o_move rfl rfl rfl rfl ?_
  obtain ⟨r6, hr7, h⟩ := h
  refine st_call (foot := [[(ba0, .cells [.int .u32 a0.1, .int .u64 a0.2].toArray 133 (0, 0))]]) rfl rfl rfl rfl rfl rfl (callV_fn z_en81 (window_Window_Bits_ok hr7 τ4)) ?_
  rintro vτ8 τ8 gsτ8 hl9 ⟨rfl, rfl⟩
  refine o_build (ps := [(0, [.int .u32 r2]), (1, [.int .u64 r6])]) (cs := [.int .u32 r2, .int .u64 r6]) rfl rfl rfl z_struct50 ⟨rfl, ⟨_, rfl, rfl⟩, ⟨rfl, ⟨_, rfl, rfl⟩, trivial⟩⟩ rfl ?_
  refine o_store (j := 1) (vs := [.int .u32 r2, .int .u64 r6]) (cs' := [.int .u32 r2, .int .u64 r6]) rfl rfl rfl z_size50 rfl rfl rfl (ones_cons rfl (ones_cons rfl ones_nil)) rfl rfl rfl ?_
  refine st_gs [[(ba0, .cells [.int .u32 a0.1, .int .u64 a0.2].toArray 133 (0, 0))], [(b1, .cells [.int .u32 r2, .int .u64 r6].toArray 50 (0, 0))]] rfl ?_
  refine st_end ?_
  obtain rfl := Eq.symm h
  exact st_retC (gs' := [[(ba0, .cells [.int .u32 a0.1, .int .u64 a0.2].toArray 133 (0, 0))]]) [.agg [.int .u32 r2, .int .u64 r6].toArray] Tryd.func57 ⟨⟨_, _, _, _, rfl, mem_flat 1 rfl, fun w hw => cellOfN (vs := [.int .u32 r2, .int .u64 r6]) z_agg50 rfl w hw⟩, trivial⟩ (by simp) (hl5.trans hl9) ⟨rfl, rfl⟩
theorem serial_Way_ok {a0 : Int} {a1 : Int} {r : Int} (h : serial_Way a0 a1 r) (σ : Sto)  :
    Does Tryd.prog 59 [.int .u32 a0, .int .u32 a1] σ [] (fun v τ gs => gs = [] ∧ .int .u32 r = v) := by
  refine call_of Tryd.func59 Tryd.ntmps59 rfl rfl (fun cs fs => ?_)
  refine st_seq ?_
  refine st_region ?_
  refine o_assign rfl rfl rfl rfl ?_
  refine st_end ?_
  refine st_seq ?_
  refine st_region ?_
  refine o_move rfl rfl rfl rfl ?_
  refine o_move rfl rfl rfl rfl ?_
  refine o_ibin (v := .int .u32 (IntKind.u32.wrap (a1 - a0))) rfl rfl rfl rfl rfl rfl ?_
  refine o_assign rfl rfl rfl rfl ?_
  refine st_end ?_
  obtain rfl := Eq.symm h
  exact st_ret (gs' := []) Tryd.func59 rfl (List.Sublist.refl _) (Sto.Le.refl _) ⟨rfl, rfl⟩
theorem serial_Diff_ok {a0 : Int} {a1 : Int} {r : Int} (h : serial_Diff a0 a1 r) (σ : Sto)  :
    Does Tryd.prog 83 [.int .u32 a0, .int .u32 a1] σ [] (fun v τ gs => gs = [] ∧ .int .i64 r = v) := by
  refine call_of Tryd.func83 Tryd.ntmps83 rfl rfl (fun cs fs => ?_)
  refine st_seq ?_
  refine st_region ?_
  refine o_assign rfl rfl rfl rfl ?_
  refine st_end ?_
  refine st_seq ?_
  refine st_region ?_
  refine o_move rfl rfl rfl rfl ?_
  refine o_move rfl rfl rfl rfl ?_
  refine o_ibin (v := .int .u32 (IntKind.u32.wrap (a0 - a1))) rfl rfl rfl rfl rfl rfl ?_
  refine o_conv rfl rfl rfl Tryd.underlying22 Tryd.underlying21 rfl ?_
  refine o_conv rfl rfl rfl Tryd.underlying21 Tryd.underlying3 rfl ?_
  refine o_assign rfl rfl rfl rfl ?_
  refine st_end ?_
  obtain rfl := Eq.symm h
  exact st_ret (gs' := []) Tryd.func83 rfl (List.Sublist.refl _) (Sto.Le.refl _) ⟨rfl, rfl⟩
theorem serial_After_ok {a0 : Int} {a1 : Int} {r : Bool} (h : serial_After a0 a1 r) (σ : Sto)  :
    Does Tryd.prog 60 [.int .u32 a0, .int .u32 a1] σ [] (fun v τ gs => gs = [] ∧ .bool r = v) := by
  refine call_of Tryd.func60 Tryd.ntmps60 rfl rfl (fun cs fs => ?_)
  refine st_seq ?_
  refine st_region ?_
  refine o_assign rfl rfl rfl rfl ?_
  refine st_end ?_
  refine st_seq ?_
  refine st_region ?_
  refine o_move rfl rfl rfl rfl ?_
  refine o_move rfl rfl rfl rfl ?_
  obtain ⟨r1, hr2, h⟩ := h
  refine st_call (foot := []) rfl rfl rfl rfl rfl rfl (callV_fn z_en83 (serial_Diff_ok hr2 σ)) ?_
  rintro vτ3 τ3 gsτ3 hl4 ⟨rfl, rfl⟩
  refine o_ibin (v := .bool (decide (0 < r1))) rfl rfl rfl rfl rfl rfl ?_
  refine o_assign rfl rfl rfl rfl ?_
  refine st_end ?_
  obtain rfl := Eq.symm h
  exact st_ret (gs' := []) Tryd.func60 rfl (List.Sublist.refl _) hl4 ⟨rfl, rfl⟩
theorem ack_Lacks_ok {a0 : Int × Int} {a1 : Int} {r : Bool} (h : ack_Lacks a0 a1 r) (σ : Sto)  :
    Does Tryd.prog 27 [.agg [.int .u32 a0.1, .int .u64 a0.2].toArray, .int .u32 a1] σ [] (fun v τ gs => gs = [] ∧ .bool r = v) := by
  refine call_of Tryd.func27 Tryd.ntmps27 rfl rfl (fun cs fs => ?_)
  refine st_seq ?_
  refine st_region ?_
  refine o_box (cs := [.int .u32 a0.1, .int .u64 a0.2]) rfl rfl rfl rfl rfl (fun b1 => ?_)
  refine o_assign rfl rfl rfl rfl ?_
  refine st_end ?_
  refine st_seq ?_
  refine st_seq ?_
  refine st_region ?_
  refine o_move rfl rfl rfl rfl ?_
  refine o_fieldAddr rfl rfl rfl z_field50_0 rfl ?_
  refine o_load (j := 0) (v := .int .u32 a0.1) rfl rfl rfl z_sc22 rfl rfl rfl ?_
  obtain ⟨r2, hr3, h⟩ := h
  refine st_call (foot := []) rfl rfl rfl rfl rfl rfl (callV_fn z_en59 (serial_Way_ok hr3 σ)) ?_
  rintro vτ4 τ4 gsτ4 hl5 ⟨rfl, rfl⟩
  refine o_assign rfl rfl rfl rfl ?_
  refine st_end ?_
  refine st_seq ?_
  refine st_region ?_
  refine o_move rfl rfl rfl rfl ?_
  refine o_ibin (v := .bool (decide (r2 < 64))) rfl rfl rfl rfl rfl rfl ?_
  refine st_end ?_
  refine st_cond rfl (fun hc => ?_) (fun hc => ?_)
  · replace h := (if_pos hc).mp h
    refine st_seq ?_
    refine st_region ?_
    refine o_fieldAddr rfl rfl rfl z_field50_1 rfl ?_
    refine o_load (j := 0) (v := .int .u64 a0.2) rfl rfl rfl z_sc48 rfl rfl rfl ?_
    refine o_move rfl rfl rfl rfl ?_
    obtain ⟨hf6, h⟩ := h
    refine o_shr rfl rfl rfl rfl rfl hf6 ?_
    refine o_ibin (v := .int .u64 (iand .u64 (ishr .u64 a0.2 r2) 1)) rfl rfl rfl rfl rfl rfl ?_
    refine o_ibin (v := .bool (decide ((iand .u64 (ishr .u64 a0.2 r2) 1) = 0))) rfl rfl rfl rfl rfl rfl ?_
    refine o_assign rfl rfl rfl rfl ?_
    refine st_end ?_
    refine st_ord [] [] rfl ?_
    obtain rfl := Eq.symm h
    exact st_ret (gs' := []) Tryd.func27 rfl (List.Sublist.refl _) hl5 ⟨rfl, rfl⟩
  · replace h := (if_neg (ne_t hc)).mp h
    refine st_skip ?_
    refine st_seq ?_
    refine st_region ?_
    refine o_move rfl rfl rfl rfl ?_
    refine o_fieldAddr rfl rfl rfl z_field50_0 rfl ?_
    refine o_load (j := 0) (v := .int .u32 a0.1) rfl rfl rfl z_sc22 rfl rfl rfl ?_
    obtain ⟨r7, hr8, h⟩ := h
    refine st_call (foot := []) rfl rfl rfl rfl rfl rfl (callV_fn z_en60 (serial_After_ok hr8 τ4)) ?_
    rintro vτ9 τ9 gsτ9 hl10 ⟨rfl, rfl⟩
    refine o_assign rfl rfl rfl rfl ?_
    refine st_end ?_
    refine st_ord [] [] rfl ?_
    obtain rfl := Eq.symm h
    exact st_ret (gs' := []) Tryd.func27 rfl (List.Sublist.refl _) (hl5.trans hl10) ⟨rfl, rfl⟩
theorem ack_Has_ok {a0 : Int × Int} {a1 : Int} {r : Bool} (h : ack_Has a0 a1 r) (σ : Sto)  :
    Does Tryd.prog 26 [.agg [.int .u32 a0.1, .int .u64 a0.2].toArray, .int .u32 a1] σ [] (fun v τ gs => gs = [] ∧ .bool r = v) := by
  refine call_of Tryd.func26 Tryd.ntmps26 rfl rfl (fun cs fs => ?_)
  refine st_seq ?_
  refine st_region ?_
  refine o_box (cs := [.int .u32 a0.1, .int .u64 a0.2]) rfl rfl rfl rfl rfl (fun b1 => ?_)
  refine o_assign rfl rfl rfl rfl ?_
  refine st_end ?_
  refine st_seq ?_
  refine st_region ?_
  refine o_loadN (j := 0) (vs := [.int .u32 a0.1, .int .u64 a0.2]) rfl rfl rfl z_agg50 rfl rfl rfl ?_
  refine o_move rfl rfl rfl rfl ?_
  obtain ⟨r2, hr3, h⟩ := h
  refine st_call (foot := []) rfl rfl rfl rfl rfl rfl (callV_fn z_en27 (ack_Lacks_ok hr3 σ)) ?_
  rintro vτ4 τ4 gsτ4 hl5 ⟨rfl, rfl⟩
  refine o_not rfl rfl rfl rfl ?_
  refine o_assign rfl rfl rfl rfl ?_
  refine st_end ?_
  refine st_ord [] [] rfl ?_
  obtain rfl := Eq.symm h
  exact st_ret (gs' := []) Tryd.func26 rfl (List.Sublist.refl _) hl5 ⟨rfl, rfl⟩
theorem law32_known_ok  {r : Bool} (h : law32_known r) (σ : Sto)  :
    Does Tryd.prog 25 [] σ [] (fun v τ gs => gs = [] ∧ .bool r = v) := by
  refine call_of Tryd.func25 Tryd.ntmps25 rfl rfl (fun cs fs => ?_)
  refine st_seq ?_
  refine st_region ?_
  refine o_assign rfl rfl rfl rfl ?_
  refine st_end ?_
  refine st_seq ?_
  refine st_region ?_
  obtain ⟨r1, hr2, h⟩ := h
  refine st_call (foot := []) rfl rfl rfl rfl rfl rfl (callV_fn z_en58 (window_New_ok hr2 σ)) ?_
  rintro vτ3 τ3 gsτ3 hl4 ⟨b5, rfl, rfl⟩
  obtain ⟨r6, hr7, h⟩ := h
  refine st_call (foot := [[(b5, .cells [.int .u32 r1.1, .int .u64 r1.2].toArray 133 (0, 0))]]) rfl rfl rfl rfl rfl rfl (callV_fn z_en57 (ack_Of_ok hr7 τ3)) ?_
  rintro vτ8 τ8 gsτ8 hl9 ⟨rfl, rfl⟩
  refine o_alloc rfl rfl rfl z_zero50 (fun b10 => ?_)
  refine o_store (j := 0) (vs := [.int .u32 r6.1, .int .u64 r6.2]) (cs' := [.int .u32 r6.1, .int .u64 r6.2]) rfl rfl rfl z_size50 rfl rfl rfl (ones_cons rfl (ones_cons rfl ones_nil)) rfl rfl rfl ?_
  refine st_gs [[(b10, .cells [.int .u32 r6.1, .int .u64 r6.2].toArray 50 (0, 0))], [(b5, .cells [.int .u32 r1.1, .int .u64 r1.2].toArray 133 (0, 0))]] rfl ?_
  refine st_end ?_
  refine st_seq ?_
  refine st_cut (fun ρ τ11 gs => ∃ (s11 : Bool), law32_known_j1 s11 r ∧ τ8.Le τ11 ∧ ρ = [(0, .bool s11)] ∧ gs = []) ?_ (fun hk11 => ?_)
  · rintro ρ11 τ11 gs11 ⟨s11, h, hl11, rfl, rfl⟩
    obtain rfl := Eq.symm h
    exact st_ret (gs' := []) Tryd.func25 rfl (List.Sublist.refl _) ((hl4.trans hl9).trans hl11) ⟨rfl, rfl⟩
  refine st_region ?_
  refine o_fieldAddr rfl rfl rfl z_field50_0 rfl ?_
  refine o_load (j := 0) (v := .int .u32 r6.1) rfl rfl rfl z_sc22 rfl rfl rfl ?_
  refine o_ibin (v := .bool (decide (r6.1 = 4))) rfl rfl rfl rfl rfl rfl ?_
  refine o_moveB rfl rfl rfl rfl (fun hc => ?_) (fun hc => ?_)
  · replace h := (if_pos hc).mp h
    refine o_fieldAddr rfl rfl rfl z_field50_1 rfl ?_
    refine o_load (j := 0) (v := .int .u64 r6.2) rfl rfl rfl z_sc48 rfl rfl rfl ?_
    refine o_ibin (v := .bool (decide (r6.2 = 18446744073709551615))) rfl rfl rfl rfl rfl rfl ?_
    refine o_pick rfl rfl rfl rfl rfl ?_
    refine o_moveB rfl rfl rfl rfl (fun hc => ?_) (fun hc => ?_)
    · replace h := (if_pos hc).mp h
      refine o_loadN (j := 0) (vs := [.int .u32 r6.1, .int .u64 r6.2]) rfl rfl rfl z_agg50 rfl rfl rfl ?_
      obtain ⟨r12, hr13, h⟩ := h
      refine st_call (foot := []) rfl rfl rfl rfl rfl rfl (callV_fn z_en26 (ack_Has_ok hr13 τ8)) ?_
      rintro vτ14 τ14 gsτ14 hl15 ⟨rfl, rfl⟩
      refine o_pick rfl rfl rfl rfl rfl ?_
      refine o_moveB rfl rfl rfl rfl (fun hc => ?_) (fun hc => ?_)
      · replace h := (if_pos hc).mp h
        refine o_loadN (j := 0) (vs := [.int .u32 r6.1, .int .u64 r6.2]) rfl rfl rfl z_agg50 rfl rfl rfl ?_
        obtain ⟨r16, hr17, h⟩ := h
        refine st_call (foot := []) rfl rfl rfl rfl rfl rfl (callV_fn z_en26 (ack_Has_ok hr17 τ14)) ?_
        rintro vτ18 τ18 gsτ18 hl19 ⟨rfl, rfl⟩
        refine o_not rfl rfl rfl rfl ?_
        refine o_pick rfl rfl rfl rfl rfl ?_
        refine o_assign rfl rfl rfl rfl ?_
        refine st_end ?_
        refine st_env (ρ' := [(0, .bool (!r16))]) ⟨rfl, trivial⟩ ?_
        refine st_ord [] [] rfl ?_
        exact hk11 _ _ _ ⟨(!r16), h, (hl15.trans hl19), rfl, rfl⟩
      · replace h := (if_neg (ne_t hc)).mp h
        refine st_pass rfl rfl rfl rfl rfl rfl ?_
        refine st_pass rfl rfl rfl rfl rfl rfl ?_
        refine st_pass rfl rfl rfl rfl rfl rfl ?_
        refine o_pick rfl rfl rfl rfl rfl ?_
        refine o_assign rfl rfl rfl rfl ?_
        refine st_end ?_
        refine st_env (ρ' := [(0, .bool false)]) ⟨rfl, trivial⟩ ?_
        refine st_ord [] [] rfl ?_
        exact hk11 _ _ _ ⟨false, h, hl15, rfl, rfl⟩
    · replace h := (if_neg (ne_t hc)).mp h
      refine st_pass rfl rfl rfl rfl rfl rfl ?_
      refine st_pass rfl rfl rfl rfl rfl rfl ?_
      refine o_pick rfl rfl rfl rfl rfl ?_
      refine o_move rfl rfl rfl rfl ?_
      refine st_pass rfl rfl rfl rfl rfl rfl ?_
      refine st_pass rfl rfl rfl rfl rfl rfl ?_
      refine st_pass rfl rfl rfl rfl rfl rfl ?_
      refine o_pick rfl rfl rfl rfl rfl ?_
      refine o_assign rfl rfl rfl rfl ?_
      refine st_end ?_
      refine st_env (ρ' := [(0, .bool false)]) ⟨rfl, trivial⟩ ?_
      refine st_ord [] [] rfl ?_
      exact hk11 _ _ _ ⟨false, h, (Sto.Le.refl _), rfl, rfl⟩
  · replace h := (if_neg (ne_t hc)).mp h
    refine st_pass rfl rfl rfl rfl rfl rfl ?_
    refine st_pass rfl rfl rfl rfl rfl rfl ?_
    refine st_pass rfl rfl rfl rfl rfl rfl ?_
    refine o_pick rfl rfl rfl rfl rfl ?_
    refine o_move rfl rfl rfl rfl ?_
    refine st_pass rfl rfl rfl rfl rfl rfl ?_
    refine st_pass rfl rfl rfl rfl rfl rfl ?_
    refine o_pick rfl rfl rfl rfl rfl ?_
    refine o_move rfl rfl rfl rfl ?_
    refine st_pass rfl rfl rfl rfl rfl rfl ?_
    refine st_pass rfl rfl rfl rfl rfl rfl ?_
    refine st_pass rfl rfl rfl rfl rfl rfl ?_
    refine o_pick rfl rfl rfl rfl rfl ?_
    refine o_assign rfl rfl rfl rfl ?_
    refine st_end ?_
    refine st_env (ρ' := [(0, .bool false)]) ⟨rfl, trivial⟩ ?_
    refine st_ord [] [] rfl ?_
    exact hk11 _ _ _ ⟨false, h, (Sto.Le.refl _), rfl, rfl⟩
theorem ack_Newer_ok {a0 : Int × Int} {a1 : Int × Int} {r : Bool} (h : ack_Newer a0 a1 r) (σ : Sto)  :
    Does Tryd.prog 28 [.agg [.int .u32 a0.1, .int .u64 a0.2].toArray, .agg [.int .u32 a1.1, .int .u64 a1.2].toArray] σ [] (fun v τ gs => gs = [] ∧ .bool r = v) := by
  refine call_of Tryd.func28 Tryd.ntmps28 rfl rfl (fun cs fs => ?_)
  refine st_seq ?_
  refine st_region ?_
  refine o_box (cs := [.int .u32 a0.1, .int .u64 a0.2]) rfl rfl rfl rfl rfl (fun b1 => ?_)
  refine o_box (cs := [.int .u32 a1.1, .int .u64 a1.2]) rfl rfl rfl rfl rfl (fun b2 => ?_)
  refine o_assign rfl rfl rfl rfl ?_
  refine st_end ?_
  refine st_seq ?_
  refine st_seq ?_
  refine st_region ?_
  refine o_fieldAddr rfl rfl rfl z_field50_0 rfl ?_
  refine o_load (j := 1) (v := .int .u32 a0.1) rfl rfl rfl z_sc22 rfl rfl rfl ?_
  refine o_fieldAddr rfl rfl rfl z_field50_0 rfl ?_
  refine o_load (j := 0) (v := .int .u32 a1.1) rfl rfl rfl z_sc22 rfl rfl rfl ?_
  refine o_ibin (v := .bool (!(decide (a0.1 = a1.1)))) rfl rfl rfl rfl rfl rfl ?_
  refine st_end ?_
  refine st_cond rfl (fun hc => ?_) (fun hc => ?_)
  · replace h := (if_pos hc).mp h
    refine st_seq ?_
    refine st_region ?_
    refine o_fieldAddr rfl rfl rfl z_field50_0 rfl ?_
    refine o_load (j := 1) (v := .int .u32 a0.1) rfl rfl rfl z_sc22 rfl rfl rfl ?_
    refine o_fieldAddr rfl rfl rfl z_field50_0 rfl ?_
    refine o_load (j := 0) (v := .int .u32 a1.1) rfl rfl rfl z_sc22 rfl rfl rfl ?_
    obtain ⟨r3, hr4, h⟩ := h
    refine st_call (foot := []) rfl rfl rfl rfl rfl rfl (callV_fn z_en60 (serial_After_ok hr4 σ)) ?_
    rintro vτ5 τ5 gsτ5 hl6 ⟨rfl, rfl⟩
    refine o_assign rfl rfl rfl rfl ?_
    refine st_end ?_
    refine st_ord [] [] rfl ?_
    obtain rfl := Eq.symm h
    exact st_ret (gs' := []) Tryd.func28 rfl (List.Sublist.refl _) hl6 ⟨rfl, rfl⟩
  · replace h := (if_neg (ne_t hc)).mp h
    refine st_skip ?_
    refine st_seq ?_
    refine st_cut (fun ρ τ7 gs => ∃ (s7 : Bool), ack_Newer_j1 s7 r ∧ σ.Le τ7 ∧ ρ = [(4, .bool s7)] ∧ gs = []) ?_ (fun hk7 => ?_)
    · rintro ρ7 τ7 gs7 ⟨s7, h, hl7, rfl, rfl⟩
      obtain rfl := Eq.symm h
      exact st_ret (gs' := []) Tryd.func28 rfl (List.Sublist.refl _) hl7 ⟨rfl, rfl⟩
    refine st_region ?_
    refine o_fieldAddr rfl rfl rfl z_field50_1 rfl ?_
    refine o_load (j := 1) (v := .int .u64 a0.2) rfl rfl rfl z_sc48 rfl rfl rfl ?_
    refine o_fieldAddr rfl rfl rfl z_field50_1 rfl ?_
    refine o_load (j := 0) (v := .int .u64 a1.2) rfl rfl rfl z_sc48 rfl rfl rfl ?_
    refine o_ibin (v := .bool (!(decide (a0.2 = a1.2)))) rfl rfl rfl rfl rfl rfl ?_
    refine o_moveB rfl rfl rfl rfl (fun hc => ?_) (fun hc => ?_)
    · replace h := (if_pos hc).mp h
      refine o_fieldAddr rfl rfl rfl z_field50_1 rfl ?_
      refine o_load (j := 1) (v := .int .u64 a0.2) rfl rfl rfl z_sc48 rfl rfl rfl ?_
      refine o_fieldAddr rfl rfl rfl z_field50_1 rfl ?_
      refine o_load (j := 0) (v := .int .u64 a1.2) rfl rfl rfl z_sc48 rfl rfl rfl ?_
      refine o_ibin (v := .int .u64 (iand .u64 a0.2 a1.2)) rfl rfl rfl rfl rfl rfl ?_
      refine o_fieldAddr rfl rfl rfl z_field50_1 rfl ?_
      refine o_load (j := 0) (v := .int .u64 a1.2) rfl rfl rfl z_sc48 rfl rfl rfl ?_
      refine o_ibin (v := .bool (decide ((iand .u64 a0.2 a1.2) = a1.2))) rfl rfl rfl rfl rfl rfl ?_
      refine o_pick rfl rfl rfl rfl rfl ?_
      refine o_assign rfl rfl rfl rfl ?_
      refine st_end ?_
      refine st_env (ρ' := [(4, .bool (decide ((iand .u64 a0.2 a1.2) = a1.2)))]) ⟨rfl, trivial⟩ ?_
      refine st_ord [] [] rfl ?_
      exact hk7 _ _ _ ⟨(decide ((iand .u64 a0.2 a1.2) = a1.2)), h, (Sto.Le.refl _), rfl, rfl⟩
    · replace h := (if_neg (ne_t hc)).mp h
      refine st_pass rfl rfl rfl rfl rfl rfl ?_
      refine st_pass rfl rfl rfl rfl rfl rfl ?_
      refine st_pass rfl rfl rfl rfl rfl rfl ?_
      refine st_pass rfl rfl rfl rfl rfl rfl ?_
      refine st_pass rfl rfl rfl rfl rfl rfl ?_
      refine st_pass rfl rfl rfl rfl rfl rfl ?_
      refine st_pass rfl rfl rfl rfl rfl rfl ?_
      refine st_pass rfl rfl rfl rfl rfl rfl ?_
      refine o_pick rfl rfl rfl rfl rfl ?_
      refine o_assign rfl rfl rfl rfl ?_
      refine st_end ?_
      refine st_env (ρ' := [(4, .bool false)]) ⟨rfl, trivial⟩ ?_
      refine st_ord [] [] rfl ?_
      exact hk7 _ _ _ ⟨false, h, (Sto.Le.refl _), rfl, rfl⟩
theorem ref32_Newer_ok {a0 : Int × Int} {a1 : Int × Int} {r : Bool} (h : ref32_Newer a0 a1 r) (σ : Sto)  :
    Does Tryd.prog 29 [.agg [.int .u32 a0.1, .int .u64 a0.2].toArray, .agg [.int .u32 a1.1, .int .u64 a1.2].toArray] σ [] (fun v τ gs => gs = [] ∧ .bool r = v) := by
  refine call_of Tryd.func29 Tryd.ntmps29 rfl rfl (fun cs fs => ?_)
  refine st_seq ?_
  refine st_region ?_
  refine o_box (cs := [.int .u32 a0.1, .int .u64 a0.2]) rfl rfl rfl rfl rfl (fun b1 => ?_)
  refine o_box (cs := [.int .u32 a1.1, .int .u64 a1.2]) rfl rfl rfl rfl rfl (fun b2 => ?_)
  refine o_assign rfl rfl rfl rfl ?_
  refine st_end ?_
  refine st_seq ?_
  refine st_seq ?_
  refine st_region ?_
  refine o_fieldAddr rfl rfl rfl z_field55_0 rfl ?_
  refine o_load (j := 1) (v := .int .u32 a0.1) rfl rfl rfl z_sc22 rfl rfl rfl ?_
  refine o_fieldAddr rfl rfl rfl z_field55_0 rfl ?_
  refine o_load (j := 0) (v := .int .u32 a1.1) rfl rfl rfl z_sc22 rfl rfl rfl ?_
  refine o_ibin (v := .bool (!(decide (a0.1 = a1.1)))) rfl rfl rfl rfl rfl rfl ?_
  refine st_end ?_
  refine st_cond rfl (fun hc => ?_) (fun hc => ?_)
  · replace h := (if_pos hc).mp h
    refine st_seq ?_
    refine st_region ?_
    refine o_fieldAddr rfl rfl rfl z_field55_0 rfl ?_
    refine o_load (j := 1) (v := .int .u32 a0.1) rfl rfl rfl z_sc22 rfl rfl rfl ?_
    refine o_fieldAddr rfl rfl rfl z_field55_0 rfl ?_
    refine o_load (j := 0) (v := .int .u32 a1.1) rfl rfl rfl z_sc22 rfl rfl rfl ?_
    obtain ⟨r3, hr4, h⟩ := h
    refine st_call (foot := []) rfl rfl rfl rfl rfl rfl (callV_fn z_en56 (ref10_After_ok hr4 σ)) ?_
    rintro vτ5 τ5 gsτ5 hl6 ⟨rfl, rfl⟩
    refine o_assign rfl rfl rfl rfl ?_
    refine st_end ?_
    refine st_ord [] [] rfl ?_
    obtain rfl := Eq.symm h
    exact st_ret (gs' := []) Tryd.func29 rfl (List.Sublist.refl _) hl6 ⟨rfl, rfl⟩
  · replace h := (if_neg (ne_t hc)).mp h
    refine st_skip ?_
    refine st_seq ?_
    refine st_region ?_
    refine o_assign rfl rfl rfl rfl ?_
    refine st_end ?_
    refine st_seq ?_
    refine st_cut (fun ρ τ7 gs => ∃ (s7 : Bool), ref32_Newer_j1 s7 r ∧ σ.Le τ7 ∧ ρ = [(4, .bool false), (5, .bool s7)] ∧ gs = []) ?_ (fun hk7 => ?_)
    · rintro ρ7 τ7 gs7 ⟨s7, h, hl7, rfl, rfl⟩
      refine st_seq ?_
      refine st_region ?_
      refine o_move rfl rfl rfl rfl ?_
      refine o_assign rfl rfl rfl rfl ?_
      refine st_end ?_
      obtain rfl := Eq.symm h
      exact st_ret (gs' := []) Tryd.func29 rfl (List.Sublist.refl _) hl7 ⟨rfl, rfl⟩
    refine st_seq ?_
    refine st_region ?_
    refine o_assign rfl rfl rfl rfl ?_
    refine st_end ?_
    obtain ⟨e8, hL8, hA8⟩ := h
    refine st_env (ρ' := [(2, .pointer (some ⟨b1, 0, none⟩)), (3, .pointer (some ⟨b2, 0, none⟩)), (4, .bool false), (5, .bool false), (6, .int .i64 0)]) ⟨rfl, rfl, rfl, rfl, rfl, trivial⟩ ?_
    refine st_ord [1, 0] [[(b1, .cells [.int .u32 a0.1, .int .u64 a0.2].toArray 55 (0, 0))], [(b2, .cells [.int .u32 a1.1, .int .u64 a1.2].toArray 55 (0, 0))]] rfl ?_
    refine st_loop hL8 (fun (s8 : Bool × Int) ρ τ8 gs => σ.Le τ8 ∧ ρ = [(2, .pointer (some ⟨b1, 0, none⟩)), (3, .pointer (some ⟨b2, 0, none⟩)), (4, .bool false), (5, .bool s8.1), (6, .int .i64 s8.2)] ∧ gs = [[(b1, .cells [.int .u32 a0.1, .int .u64 a0.2].toArray 55 (0, 0))], [(b2, .cells [.int .u32 a1.1, .int .u64 a1.2].toArray 55 (0, 0))]]) ⟨Sto.Le.refl _, rfl, rfl⟩ ?_
    rintro s8 o8 h he8 ρ8 τ8 gs8 ⟨hl8, rfl, rfl⟩ hn8
    refine st_seq ?_
    refine st_seq ?_
    refine st_region ?_
    refine o_move rfl rfl rfl rfl ?_
    refine o_ibin (v := .bool (decide (s8.2 < 64))) rfl rfl rfl rfl rfl rfl ?_
    refine st_end ?_
    refine st_cond rfl (fun hc => ?_) (fun hc => ?_)
    · replace h := (if_pos hc).mp h
      refine st_skip ?_
      refine st_seq ?_
      refine st_cut (fun ρ τ9 gs => ∃ (s9 : Bool), ref32_Newer_j3 s8 s9 o8 ∧ τ8.Le τ9 ∧ ρ = [(2, .pointer (some ⟨b1, 0, none⟩)), (3, .pointer (some ⟨b2, 0, none⟩)), (4, .bool false), (5, .bool s9), (6, .int .i64 s8.2)] ∧ gs = [[(b1, .cells [.int .u32 a0.1, .int .u64 a0.2].toArray 55 (0, 0))], [(b2, .cells [.int .u32 a1.1, .int .u64 a1.2].toArray 55 (0, 0))]]) ?_ (fun hk9 => ?_)
      · rintro ρ9 τ9 gs9 ⟨s9, h, hl9, rfl, rfl⟩
        refine st_region ?_
        refine o_move rfl rfl rfl rfl ?_
        refine o_ibin (v := .int .i64 (IntKind.i64.wrap (s8.2 + 1))) rfl rfl rfl rfl rfl rfl ?_
        refine o_assign rfl rfl rfl rfl ?_
        refine st_end ?_
        refine st_env (ρ' := [(2, .pointer (some ⟨b1, 0, none⟩)), (3, .pointer (some ⟨b2, 0, none⟩)), (4, .bool false), (5, .bool s9), (6, .int .i64 (IntKind.i64.wrap (s8.2 + 1)))]) ⟨rfl, rfl, rfl, rfl, rfl, trivial⟩ ?_
        exact hn8 _ _ _ _ h ⟨(hl8.trans hl9), rfl, rfl⟩
      refine st_block ?_
      refine st_seq ?_
      refine st_seq ?_
      refine st_cut (fun ρ τ10 gs => ∃ (s10 : Bool), ref32_Newer_j4 a0 a1 s8 s10 o8 ∧ τ8.Le τ10 ∧ ρ = [(2, .pointer (some ⟨b1, 0, none⟩)), (3, .pointer (some ⟨b2, 0, none⟩)), (4, .bool false), (5, .bool s8.1), (6, .int .i64 s8.2), (31, .bool s10)] ∧ gs = [[(b1, .cells [.int .u32 a0.1, .int .u64 a0.2].toArray 55 (0, 0))], [(b2, .cells [.int .u32 a1.1, .int .u64 a1.2].toArray 55 (0, 0))]]) ?_ (fun hk10 => ?_)
      · rintro ρ10 τ10 gs10 ⟨s10, h, hl10, rfl, rfl⟩
        refine st_cond rfl (fun hc => ?_) (fun hc => ?_)
        · replace h := (if_pos hc).mp h
          refine st_seq ?_
          refine st_region ?_
          refine o_assign rfl rfl rfl rfl ?_
          refine st_end ?_
          refine st_ord [] [] rfl ?_
          obtain rfl := he8 _ h
          replace h := hA8
          obtain rfl := Eq.symm h
          exact st_ret (gs' := []) Tryd.func29 rfl (List.Sublist.refl _) (hl8.trans hl10) ⟨rfl, rfl⟩
        · replace h := (if_neg (ne_t hc)).mp h
          refine st_skip ?_
          refine st_region ?_
          refine o_move rfl rfl rfl rfl ?_
          refine o_moveB rfl rfl rfl rfl (fun hc => ?_) (fun hc => ?_)
          · replace h := (if_pos hc).mp h
            refine st_pass rfl rfl rfl rfl rfl rfl ?_
            refine st_pass rfl rfl rfl rfl rfl rfl ?_
            refine st_pass rfl rfl rfl rfl rfl rfl ?_
            refine st_pass rfl rfl rfl rfl rfl rfl ?_
            refine st_pass rfl rfl rfl rfl rfl rfl ?_
            refine st_passU rfl rfl rfl rfl rfl ?_
            refine st_passU rfl rfl rfl rfl rfl ?_
            refine st_passU rfl rfl rfl rfl rfl ?_
            refine st_passU rfl rfl rfl rfl rfl ?_
            refine st_passU rfl rfl rfl rfl rfl ?_
            refine st_pass rfl rfl rfl rfl rfl rfl ?_
            refine o_pick rfl rfl rfl rfl rfl ?_
            refine o_assign rfl rfl rfl rfl ?_
            refine st_end ?_
            refine st_inBlock ?_
            refine st_env (ρ' := [(2, .pointer (some ⟨b1, 0, none⟩)), (3, .pointer (some ⟨b2, 0, none⟩)), (4, .bool false), (5, .bool true), (6, .int .i64 s8.2)]) ⟨rfl, rfl, rfl, rfl, rfl, trivial⟩ ?_
            exact hk9 _ _ _ ⟨true, h, hl10, rfl, rfl⟩
          · replace h := (if_neg (ne_t hc)).mp h
            refine o_fieldAddr rfl rfl rfl z_field55_1 rfl ?_
            refine o_load (j := 0) (v := .int .u64 a0.2) rfl rfl rfl z_sc48 rfl rfl rfl ?_
            refine o_move rfl rfl rfl rfl ?_
            obtain ⟨r11, hr12, h⟩ := h
            refine st_call (foot := []) rfl rfl rfl rfl rfl rfl (callV_fn z_en55 (ref32_bit_ok hr12 τ10)) ?_
            rintro vτ13 τ13 gsτ13 hl14 ⟨rfl, rfl⟩
            refine o_moveB rfl rfl rfl rfl (fun hc => ?_) (fun hc => ?_)
            · replace h := (if_pos hc).mp h
              refine o_fieldAddr rfl rfl rfl z_field55_1 rfl ?_
              refine o_load (j := 1) (v := .int .u64 a1.2) rfl rfl rfl z_sc48 rfl rfl rfl ?_
              refine o_move rfl rfl rfl rfl ?_
              obtain ⟨r15, hr16, h⟩ := h
              refine st_call (foot := []) rfl rfl rfl rfl rfl rfl (callV_fn z_en55 (ref32_bit_ok hr16 τ13)) ?_
              rintro vτ17 τ17 gsτ17 hl18 ⟨rfl, rfl⟩
              refine o_not rfl rfl rfl rfl ?_
              refine o_pick rfl rfl rfl rfl rfl ?_
              refine o_pick rfl rfl rfl rfl rfl ?_
              refine o_assign rfl rfl rfl rfl ?_
              refine st_end ?_
              refine st_inBlock ?_
              refine st_env (ρ' := [(2, .pointer (some ⟨b1, 0, none⟩)), (3, .pointer (some ⟨b2, 0, none⟩)), (4, .bool false), (5, .bool (!r15)), (6, .int .i64 s8.2)]) ⟨rfl, rfl, rfl, rfl, rfl, trivial⟩ ?_
              exact hk9 _ _ _ ⟨(!r15), h, ((hl10.trans hl14).trans hl18), rfl, rfl⟩
            · replace h := (if_neg (ne_t hc)).mp h
              refine st_pass rfl rfl rfl rfl rfl rfl ?_
              refine st_pass rfl rfl rfl rfl rfl rfl ?_
              refine st_pass rfl rfl rfl rfl rfl rfl ?_
              refine st_pass rfl rfl rfl rfl rfl rfl ?_
              refine st_pass rfl rfl rfl rfl rfl rfl ?_
              refine o_pick rfl rfl rfl rfl rfl ?_
              refine o_pick rfl rfl rfl rfl rfl ?_
              refine o_assign rfl rfl rfl rfl ?_
              refine st_end ?_
              refine st_inBlock ?_
              refine st_env (ρ' := [(2, .pointer (some ⟨b1, 0, none⟩)), (3, .pointer (some ⟨b2, 0, none⟩)), (4, .bool false), (5, .bool false), (6, .int .i64 s8.2)]) ⟨rfl, rfl, rfl, rfl, rfl, trivial⟩ ?_
              exact hk9 _ _ _ ⟨false, h, (hl10.trans hl14), rfl, rfl⟩
      refine st_region ?_
      refine o_fieldAddr rfl rfl rfl z_field55_1 rfl ?_
      refine o_load (j := 1) (v := .int .u64 a1.2) rfl rfl rfl z_sc48 rfl rfl rfl ?_
      refine o_move rfl rfl rfl rfl ?_
      obtain ⟨r19, hr20, h⟩ := h
      refine st_call (foot := []) rfl rfl rfl rfl rfl rfl (callV_fn z_en55 (ref32_bit_ok hr20 τ8)) ?_
      rintro vτ21 τ21 gsτ21 hl22 ⟨rfl, rfl⟩
      refine o_moveB rfl rfl rfl rfl (fun hc => ?_) (fun hc => ?_)
      · replace h := (if_pos hc).mp h
        refine o_fieldAddr rfl rfl rfl z_field55_1 rfl ?_
        refine o_load (j := 0) (v := .int .u64 a0.2) rfl rfl rfl z_sc48 rfl rfl rfl ?_
        refine o_move rfl rfl rfl rfl ?_
        obtain ⟨r23, hr24, h⟩ := h
        refine st_call (foot := []) rfl rfl rfl rfl rfl rfl (callV_fn z_en55 (ref32_bit_ok hr24 τ21)) ?_
        rintro vτ25 τ25 gsτ25 hl26 ⟨rfl, rfl⟩
        refine o_not rfl rfl rfl rfl ?_
        refine o_pick rfl rfl rfl rfl rfl ?_
        refine st_end ?_
        refine st_env (ρ' := [(2, .pointer (some ⟨b1, 0, none⟩)), (3, .pointer (some ⟨b2, 0, none⟩)), (4, .bool false), (5, .bool s8.1), (6, .int .i64 s8.2), (31, .bool (!r23))]) ⟨rfl, rfl, rfl, rfl, rfl, rfl, trivial⟩ ?_
        exact hk10 _ _ _ ⟨(!r23), h, (hl22.trans hl26), rfl, rfl⟩
      · replace h := (if_neg (ne_t hc)).mp h
        refine st_pass rfl rfl rfl rfl rfl rfl ?_
        refine st_pass rfl rfl rfl rfl rfl rfl ?_
        refine st_pass rfl rfl rfl rfl rfl rfl ?_
        refine st_pass rfl rfl rfl rfl rfl rfl ?_
        refine st_pass rfl rfl rfl rfl rfl rfl ?_
        refine o_pick rfl rfl rfl rfl rfl ?_
        refine st_end ?_
        refine st_env (ρ' := [(2, .pointer (some ⟨b1, 0, none⟩)), (3, .pointer (some ⟨b2, 0, none⟩)), (4, .bool false), (5, .bool s8.1), (6, .int .i64 s8.2), (31, .bool false)]) ⟨rfl, rfl, rfl, rfl, rfl, rfl, trivial⟩ ?_
        exact hk10 _ _ _ ⟨false, h, hl22, rfl, rfl⟩
    · replace h := (if_neg (ne_t hc)).mp h
      refine st_exit rfl ?_
      obtain rfl := he8 _ h
      replace h := hA8
      refine st_env (ρ' := [(4, .bool false), (5, .bool s8.1)]) ⟨rfl, rfl, trivial⟩ ?_
      refine st_ord [] [] rfl ?_
      exact hk7 _ _ _ ⟨s8.1, h, hl8, rfl, rfl⟩
theorem ref02_Word_own_ok {a0 : Int} {a1 : Int} {r : List Int} (h : ref02_Word a0 a1 r) (σ : Sto)  :
    Does Tryd.prog 46 [.int .u32 a0, .int .i64 a1] σ [] (fun v τ gs => ∃ (v18 : Value) (g19 : Grp), gs = [g19] ∧ v18 = v ∧ Ow (kI .u8) 5 τ v18 r g19) := by
  refine call_of Tryd.func46 Tryd.ntmps46 rfl rfl (fun cs fs => ?_)
  refine st_seq ?_
  refine st_region ?_
  refine o_assign rfl rfl rfl rfl ?_
  refine st_end ?_
  refine st_seq ?_
  refine st_region ?_
  refine o_assign rfl rfl rfl rfl ?_
  refine st_end ?_
  refine st_seq ?_
  refine st_cut (fun ρ τ1 gs => ∃ (s1 : List Int) (v2 : Value) (g3 : Grp), ref02_Word_j1 s1 r ∧ σ.Le τ1 ∧ ρ = [(4, .slice none 0 0), (5, v2)] ∧ gs = [g3] ∧ Ow (kI .u8) 5 τ1 v2 s1 g3) ?_ (fun hk1 => ?_)
  · rintro ρ1 τ1 gs1 ⟨s1, v2, g3, h, hl1, rfl, rfl, ho4⟩
    refine st_seq ?_
    refine st_region ?_
    refine o_move rfl rfl rfl rfl ?_
    refine o_assign rfl rfl rfl rfl ?_
    refine st_end ?_
    obtain rfl := Eq.symm h
    exact st_ret (gs' := [g3]) Tryd.func46 rfl (List.Sublist.refl _) hl1 ⟨_, _, rfl, rfl, ho4⟩
  refine st_seq ?_
  refine st_region ?_
  refine o_assign rfl rfl rfl rfl ?_
  refine st_end ?_
  obtain ⟨e5, hL5, hA5⟩ := h
  refine st_env (ρ' := [(0, .int .u32 a0), (1, .int .i64 a1), (4, .slice none 0 0), (5, .slice none 0 0), (6, .int .i64 0)]) ⟨rfl, rfl, rfl, rfl, rfl, trivial⟩ ?_
  refine st_addNil ?_
  refine st_loop hL5 (fun (s5 : Int × List Int × Int) ρ τ5 gs => σ.Le τ5 ∧ ∃ (v6 : Value) (g7 : Grp), ρ = [(0, .int .u32 s5.1), (1, .int .i64 a1), (4, .slice none 0 0), (5, v6), (6, .int .i64 s5.2.2)] ∧ gs = [g7] ∧ Ow (kI .u8) 5 τ5 v6 s5.2.1 g7) ⟨Sto.Le.refl _, _, _, rfl, rfl, Ow.nil⟩ ?_
  rintro s5 o5 h he5 ρ5 τ5 gs5 ⟨hl5, v6, g7, rfl, rfl, ho8⟩ hn5
  refine st_seq ?_
  refine st_seq ?_
  refine st_region ?_
  refine o_move rfl rfl rfl rfl ?_
  refine o_move rfl rfl rfl rfl ?_
  refine o_ibin (v := .bool (decide (s5.2.2 < a1))) rfl rfl rfl rfl rfl rfl ?_
  refine st_end ?_
  refine st_cond rfl (fun hc => ?_) (fun hc => ?_)
  · replace h := (if_pos hc).mp h
    refine st_skip ?_
    refine st_seq ?_
    refine st_block ?_
    refine st_seq ?_
    refine st_region ?_
    refine o_move rfl rfl rfl rfl ?_
    refine o_move rfl rfl rfl rfl ?_
    refine o_rem rfl rfl rfl rfl rfl (by decide) ?_
    refine o_conv rfl rfl rfl Tryd.underlying22 Tryd.underlying5 rfl ?_
    refine o_lit (dk := (kI .u8)) (xs := [(IntKind.u8.wrap (s5.1.tmod 256))]) (ps := [(0, [.int .u8 (IntKind.u8.wrap (s5.1.tmod 256))])]) (cs := [.int .u8 (IntKind.u8.wrap (s5.1.tmod 256))]) rfl rfl rfl z_slT31 z_zero5 ⟨rfl, ⟨_, rfl, rfl⟩, trivial⟩ rfl rfl rfl rfl (Kd.Many.cons (a := [.int .u8 (IntKind.u8.wrap (s5.1.tmod 256))]) rfl Kd.Many.nil) (fun v9 g10 ho11 => ?_)
    obtain ⟨hf15, h⟩ := h
    obtain ⟨hf16, h⟩ := h
    refine st_ord [1, 0] [g7, g10] rfl ?_
    refine o_append (dk := (kI .u8)) (xs := s5.2.1) (ys := [(IntKind.u8.wrap (s5.1.tmod 256))]) rfl rfl rfl rfl z_slT31 rfl ho8 rfl (Ow.src (j := 1) ho11 rfl) hf15 hf16 (fun v12 g13 ho14 => ?_)
    refine o_assign rfl rfl rfl rfl ?_
    refine st_end ?_
    refine st_region ?_
    refine o_move rfl rfl rfl rfl ?_
    refine o_quo rfl rfl rfl rfl rfl (by decide) ?_
    refine o_assign rfl rfl rfl rfl ?_
    refine st_end ?_
    refine st_inBlock ?_
    refine st_region ?_
    refine o_move rfl rfl rfl rfl ?_
    refine o_ibin (v := .int .i64 (IntKind.i64.wrap (s5.2.2 + 1))) rfl rfl rfl rfl rfl rfl ?_
    refine o_assign rfl rfl rfl rfl ?_
    refine st_end ?_
    refine st_env (ρ' := [(0, .int .u32 (IntKind.u32.wrap (s5.1.tdiv 256))), (1, .int .i64 a1), (4, .slice none 0 0), (5, v12), (6, .int .i64 (IntKind.i64.wrap (s5.2.2 + 1)))]) ⟨rfl, rfl, rfl, rfl, rfl, trivial⟩ ?_
    refine st_ord [0] [g13] rfl ?_
    exact hn5 _ _ _ _ h ⟨hl5, _, _, rfl, rfl, ho14⟩
  · replace h := (if_neg (ne_t hc)).mp h
    refine st_exit rfl ?_
    obtain rfl := he5 _ h
    replace h := hA5
    refine st_env (ρ' := [(4, .slice none 0 0), (5, v6)]) ⟨rfl, rfl, trivial⟩ ?_
    exact hk1 _ _ _ ⟨s5.2.1, _, _, h, hl5, rfl, rfl, ho8⟩
end Go.Rel
