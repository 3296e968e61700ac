import Derived.Test.YtlamkclnkbnedaaURel
import Derived.Test.YtlamkclnkbnedaaUFacts
import Derived.Test.YtlamkclnkbnedaaUWalk0
/-! The walks. -/
set_option linter.unusedVariables false
set_option linter.unusedSimpArgs false
set_option maxRecDepth 4000
namespace Go.Rel
open Go Go.Eng Go.Proofs
theorem ref04_Sum_ok {a0 : List Int} {v1 : Value} {r : Int} (h : ref04_Sum a0 r) (σ : Sto) (hs2 : Sl (kI .u8) σ v1 a0) :
    Does Try.prog 83 [v1] σ [] (fun v τ gs => gs = [] ∧ .int .u32 r = v) := by
  refine call_of Try.func83 Try.ntmps83 rfl rfl (fun cs fs => ?_)
  refine st_seq ?_
  refine st_region ?_
  refine o_assign rfl rfl rfl rfl ?_
  refine st_end ?_
  refine st_seq ?_
  refine st_region ?_
  obtain ⟨r3, hr4, h⟩ := h
  refine st_call (foot := []) rfl rfl rfl rfl rfl rfl (callV_fn z_en100 (ref04_Of_ok hr4 σ)) ?_
  rintro vτ5 τ5 gsτ5 hl6 ⟨rfl, rfl⟩
  refine o_alloc rfl rfl rfl z_zero166 (fun b7 => ?_)
  refine o_store (j := 0) (vs := (cellsN Value.bool false 32 r3)) (cs' := (cellsN Value.bool false 32 r3)) rfl rfl rfl z_size166 rfl rfl rfl ones_cellsNB rfl rfl rfl ?_
  refine st_gs [[(b7, .cells (cellsN Value.bool false 32 r3).toArray 166 (0, 0))]] rfl ?_
  refine st_end ?_
  refine st_seq ?_
  refine st_cut (fun ρ τ8 gs => ∃ (s8 : List Bool), ref04_Sum_j1 s8 r ∧ τ5.Le τ8 ∧ ρ = [(2, .int .u32 0), (3, .pointer (some ⟨b7, 0, none⟩))] ∧ gs = [[(b7, .cells (cellsN Value.bool false 32 s8).toArray 166 (0, 0))]]) ?_ (fun hk8 => ?_)
  · rintro ρ8 τ8 gs8 ⟨s8, h, hl8, rfl, rfl⟩
    refine st_seq ?_
    refine st_region ?_
    refine o_loadN (j := 0) (vs := (cellsN Value.bool false 32 s8)) rfl rfl rfl z_agg166 rfl rfl rfl ?_
    obtain ⟨r9, hr10, h⟩ := h
    refine st_call (foot := []) rfl rfl rfl rfl rfl rfl (callV_fn z_en103 (ref04_Word_ok hr10 τ8)) ?_
    rintro vτ11 τ11 gsτ11 hl12 ⟨rfl, rfl⟩
    refine o_ibin (v := .int .u32 (IntKind.u32.wrap (4294967295 - r9))) rfl rfl rfl rfl rfl rfl ?_
    refine o_assign rfl rfl rfl rfl ?_
    refine st_end ?_
    refine st_ord [] [] rfl ?_
    obtain rfl := Eq.symm h
    exact st_ret (gs' := []) Try.func83 rfl (List.Sublist.refl _) ((hl6.trans hl8).trans hl12) ⟨rfl, rfl⟩
  refine st_seq ?_
  refine st_region ?_
  refine o_assign rfl rfl rfl rfl ?_
  refine st_end ?_
  obtain ⟨e13, hL13, hA13⟩ := h
  refine st_env (ρ' := [(0, v1), (2, .int .u32 0), (3, .pointer (some ⟨b7, 0, none⟩)), (4, .int .i64 0)]) ⟨rfl, rfl, rfl, rfl, trivial⟩ ?_
  refine st_loop hL13 (fun (s13 : Int × List Bool) ρ τ13 gs => τ5.Le τ13 ∧ ρ = [(0, v1), (2, .int .u32 0), (3, .pointer (some ⟨b7, 0, none⟩)), (4, .int .i64 s13.1)] ∧ gs = [[(b7, .cells (cellsN Value.bool false 32 s13.2).toArray 166 (0, 0))]]) ⟨Sto.Le.refl _, rfl, rfl⟩ ?_
  rintro s13 o13 h he13 ρ13 τ13 gs13 ⟨hl13, rfl, rfl⟩ hn13
  refine st_seq ?_
  refine st_seq ?_
  refine st_region ?_
  refine o_move rfl rfl rfl rfl ?_
  refine o_move rfl rfl rfl rfl ?_
  refine o_lenI rfl rfl rfl z_slT45 rfl (hs2.up (hl6.trans hl13)) ?_
  refine o_ibin (v := .bool (decide (s13.1 < (a0.length : Int)))) rfl rfl rfl rfl rfl rfl ?_
  refine st_end ?_
  refine st_cond rfl (fun hc => ?_) (fun hc => ?_)
  · replace h := (if_pos hc).mp h
    refine st_skip ?_
    refine st_seq ?_
    refine st_block ?_
    obtain ⟨q14, hf15, h⟩ := h
    obtain ⟨r19, hr20, h⟩ := h
    obtain ⟨r23, hr24, h⟩ := h
    obtain ⟨r27, hr28, h⟩ := h
    refine st_draw 9 (tl [fun τ v => (.agg (cellsN Value.bool false 32 s13.2).toArray : Value) = v,
    fun τ v => (v1 : Value) = v,
    fun τ v => (.int .i64 s13.1 : Value) = v,
    fun τ v => ∃ (b16 : Nat) (of17 : Nat) (vsb16 : List Value), (.pointer (some ⟨b16, of17, none⟩) : Value) = v ∧ CelN τ ⟨b16, of17, none⟩ vsb16 ∧ (kI .u8).rep τ vsb16 q14,
    fun τ v => (.int .u8 q14 : Value) = v,
    fun τ v => (.int .u32 (IntKind.u32.wrap q14) : Value) = v,
    fun τ v => (.agg (cellsN Value.bool false 32 r19).toArray : Value) = v,
    fun τ v => (.agg (cellsN Value.bool false 32 r23).toArray : Value) = v,
    fun τ v => (.agg (cellsN Value.bool false 32 r27).toArray : Value) = v]) (fun _ _ => []) z_mix rfl (tl_mono ⟨fun _ _ _ _ h => h, ⟨fun _ _ _ _ h => h, ⟨fun _ _ _ _ h => h, ⟨fun _ _ _ hl ⟨b16, of17, vsb16, hv, hc18, hrepb16⟩ => ⟨b16, of17, vsb16, hv, hc18.up hl, Kd.mono _ hl hrepb16⟩, ⟨fun _ _ _ _ h => h, ⟨fun _ _ _ _ h => h, ⟨fun _ _ _ _ h => h, ⟨fun _ _ _ _ h => h, ⟨fun _ _ _ _ h => h, trivial⟩⟩⟩⟩⟩⟩⟩⟩⟩) (allB_cons (allB_cons (allB_cons (allB_cons (allB_cons (allB_cons (allB_cons (allB_cons (allB_cons allB_nil ?_) ?_) ?_) ?_) ?_) ?_) ?_) ?_) ?_) ?_
    · intro ρ' τ pool rs hl hd hout hk
      refine o_loadN (j := 0) (vs := (cellsN Value.bool false 32 s13.2)) rfl rfl rfl z_agg166 ((hout 3 rfl).trans rfl) rfl rfl ?_
      exact st_addNil (hk _ _ (Sto.Le.refl _) rfl)
    · intro ρ' τ pool rs hl hd hout hk
      refine o_move rfl rfl rfl ((hout 0 rfl).trans rfl) ?_
      exact st_addNil (hk _ _ (Sto.Le.refl _) rfl)
    · intro ρ' τ pool rs hl hd hout hk
      refine o_move rfl rfl rfl ((hout 4 rfl).trans rfl) ?_
      exact st_addNil (hk _ _ (Sto.Le.refl _) rfl)
    · intro ρ' τ pool rs hl hd hout hk
      obtain ⟨_, e1, rfl⟩ := hd 1 rfl
      obtain ⟨_, e2, rfl⟩ := hd 2 rfl
      refine o_index rfl rfl rfl z_slT45 rfl e1 (hs2.up ((hl6.trans hl13).trans hl)) e2 hf15 (fun b16 of17 vsb16 hc18 hrepb16 => ?_)
      exact st_addNil (hk _ _ (Sto.Le.refl _) ⟨b16, of17, vsb16, rfl, hc18, hrepb16⟩)
    · intro ρ' τ pool rs hl hd hout hk
      obtain ⟨_, e3, b16, of17, vsb16, rfl, hc18, hrepb16⟩ := hd 3 rfl
      have hrepb16 := hrepb16
      obtain rfl := hrepb16
      refine o_loadI (v := .int .u8 q14) rfl rfl rfl z_sc5 e3 (hc18 0 _ rfl) ?_
      exact st_addNil (hk _ _ (Sto.Le.refl _) rfl)
    · intro ρ' τ pool rs hl hd hout hk
      obtain ⟨_, e4, rfl⟩ := hd 4 rfl
      refine o_conv rfl rfl rfl Try.underlying5 Try.underlying22 e4 ?_
      exact st_addNil (hk _ _ (Sto.Le.refl _) rfl)
    · intro ρ' τ pool rs hl hd hout hk
      obtain ⟨_, e5, rfl⟩ := hd 5 rfl
      refine st_call (foot := []) rfl rfl rfl rfl (evs_cons e5 rfl) rfl (callV_fn z_en100 (ref04_Of_ok hr20 τ)) ?_
      rintro vτ21 τ21 gsτ21 hl22 ⟨rfl, rfl⟩
      exact st_addNil (hk _ _ hl22 rfl)
    · intro ρ' τ pool rs hl hd hout hk
      obtain ⟨_, e0, rfl⟩ := hd 0 rfl
      obtain ⟨_, e6, rfl⟩ := hd 6 rfl
      refine st_call (foot := []) rfl rfl rfl rfl (evs_cons e0 (evs_cons e6 rfl)) rfl (callV_fn z_en102 (ref04_Xor_ok hr24 τ)) ?_
      rintro vτ25 τ25 gsτ25 hl26 ⟨rfl, rfl⟩
      exact st_addNil (hk _ _ hl26 rfl)
    · intro ρ' τ pool rs hl hd hout hk
      obtain ⟨_, e7, rfl⟩ := hd 7 rfl
      refine st_call (foot := []) rfl rfl rfl rfl (evs_cons e7 rfl) rfl (callV_fn z_en101 (ref04_Shift_ok hr28 τ)) ?_
      rintro vτ29 τ29 gsτ29 hl30 ⟨rfl, rfl⟩
      exact st_addNil (hk _ _ hl30 rfl)
    intro ρ' τ31 vals hl31 hv hout
    have l8 : Eng.look ρ' 20 = some (.agg (cellsN Value.bool false 32 r27).toArray) := (hv 8 (by decide)).1.trans (congrArg some (show vals 8 = .agg (cellsN Value.bool false 32 r27).toArray from Eq.symm (hv 8 (by decide)).2))
    refine st_ord [0] [[(b7, .cells (cellsN Value.bool false 32 s13.2).toArray 166 (0, 0))]] rfl ?_
    refine st_env (ρ' := [(20, .agg (cellsN Value.bool false 32 r27).toArray), (0, v1), (2, .int .u32 0), (3, .pointer (some ⟨b7, 0, none⟩)), (4, .int .i64 s13.1)]) ⟨l8, (hout 0 rfl).trans rfl, (hout 2 rfl).trans rfl, (hout 3 rfl).trans rfl, (hout 4 rfl).trans rfl, trivial⟩ ?_
    refine o_store (j := 0) (vs := (cellsN Value.bool false 32 r27)) (cs' := (cellsN Value.bool false 32 r27)) rfl rfl rfl z_size166 rfl rfl rfl ones_cellsNB rfl rfl rfl ?_
    refine st_gs [[(b7, .cells (cellsN Value.bool false 32 r27).toArray 166 (0, 0))]] rfl ?_
    refine st_end ?_
    refine st_inBlock ?_
    refine st_region ?_
    refine o_move rfl rfl rfl rfl ?_
    refine o_ibin (v := .int .i64 (IntKind.i64.wrap (s13.1 + 1))) rfl rfl rfl rfl rfl rfl ?_
    refine o_assign rfl rfl rfl rfl ?_
    refine st_end ?_
    refine st_env (ρ' := [(0, v1), (2, .int .u32 0), (3, .pointer (some ⟨b7, 0, none⟩)), (4, .int .i64 (IntKind.i64.wrap (s13.1 + 1)))]) ⟨rfl, rfl, rfl, rfl, trivial⟩ ?_
    exact hn13 _ _ _ _ h ⟨(hl13.trans hl31), rfl, rfl⟩
  · replace h := (if_neg (ne_t hc)).mp h
    refine st_exit rfl ?_
    obtain rfl := he13 _ h
    replace h := hA13
    refine st_env (ρ' := [(2, .int .u32 0), (3, .pointer (some ⟨b7, 0, none⟩))]) ⟨rfl, rfl, trivial⟩ ?_
    exact hk8 _ _ _ ⟨s13.2, h, hl13, rfl, rfl⟩
theorem ref04_Bytes_ok {a0 : Int} {r : List Int} (h : ref04_Bytes a0 r) (σ : Sto)  :
    Does Try.prog 82 [.int .u32 a0] σ [] (fun v τ gs => ∃ (v9 : Value), gs = [] ∧ v9 = v ∧ Sl (kI .u8) τ v9 r) := by
  refine call_of Try.func82 Try.ntmps82 rfl rfl (fun cs fs => ?_)
  refine st_seq ?_
  refine st_region ?_
  refine o_assign rfl rfl rfl rfl ?_
  refine st_end ?_
  refine st_seq ?_
  refine st_region ?_
  refine o_move rfl rfl rfl rfl ?_
  refine o_rem rfl rfl rfl rfl rfl (by decide) ?_
  refine o_conv rfl rfl rfl Try.underlying22 Try.underlying5 rfl ?_
  refine o_move rfl rfl rfl rfl ?_
  refine o_quo rfl rfl rfl rfl rfl (by decide) ?_
  refine o_rem rfl rfl rfl rfl rfl (by decide) ?_
  refine o_conv rfl rfl rfl Try.underlying22 Try.underlying5 rfl ?_
  refine o_move rfl rfl rfl rfl ?_
  refine o_quo rfl rfl rfl rfl rfl (by decide) ?_
  refine o_rem rfl rfl rfl rfl rfl (by decide) ?_
  refine o_conv rfl rfl rfl Try.underlying22 Try.underlying5 rfl ?_
  refine o_move rfl rfl rfl rfl ?_
  refine o_quo rfl rfl rfl rfl rfl (by decide) ?_
  refine o_conv rfl rfl rfl Try.underlying22 Try.underlying5 rfl ?_
  refine o_lit (dk := (kI .u8)) (xs := [(IntKind.u8.wrap (a0.tmod 256)), (IntKind.u8.wrap ((IntKind.u32.wrap (a0.tdiv 256)).tmod 256)), (IntKind.u8.wrap ((IntKind.u32.wrap (a0.tdiv 65536)).tmod 256)), (IntKind.u8.wrap (IntKind.u32.wrap (a0.tdiv 16777216)))]) (ps := [(0, [.int .u8 (IntKind.u8.wrap (a0.tmod 256))]), (1, [.int .u8 (IntKind.u8.wrap ((IntKind.u32.wrap (a0.tdiv 256)).tmod 256))]), (2, [.int .u8 (IntKind.u8.wrap ((IntKind.u32.wrap (a0.tdiv 65536)).tmod 256))]), (3, [.int .u8 (IntKind.u8.wrap (IntKind.u32.wrap (a0.tdiv 16777216)))])]) (cs := [.int .u8 (IntKind.u8.wrap (a0.tmod 256)), .int .u8 (IntKind.u8.wrap ((IntKind.u32.wrap (a0.tdiv 256)).tmod 256)), .int .u8 (IntKind.u8.wrap ((IntKind.u32.wrap (a0.tdiv 65536)).tmod 256)), .int .u8 (IntKind.u8.wrap (IntKind.u32.wrap (a0.tdiv 16777216)))]) rfl rfl rfl z_slT45 z_zero5 ⟨rfl, ⟨_, rfl, rfl⟩, ⟨rfl, ⟨_, rfl, rfl⟩, ⟨rfl, ⟨_, rfl, rfl⟩, ⟨rfl, ⟨_, rfl, rfl⟩, trivial⟩⟩⟩⟩ rfl rfl rfl rfl (Kd.Many.cons (a := [.int .u8 (IntKind.u8.wrap (a0.tmod 256))]) rfl (Kd.Many.cons (a := [.int .u8 (IntKind.u8.wrap ((IntKind.u32.wrap (a0.tdiv 256)).tmod 256))]) rfl (Kd.Many.cons (a := [.int .u8 (IntKind.u8.wrap ((IntKind.u32.wrap (a0.tdiv 65536)).tmod 256))]) rfl (Kd.Many.cons (a := [.int .u8 (IntKind.u8.wrap (IntKind.u32.wrap (a0.tdiv 16777216)))]) rfl Kd.Many.nil)))) (fun v1 g2 ho3 => ?_)
  refine o_assign rfl rfl rfl rfl ?_
  refine st_end ?_
  refine st_freeze (fun τ4 hl5 hg6 => ?_)
  have hs7 := ho3.freeze hl5 hg6
  obtain rfl := Eq.symm h
  exact st_ret (gs' := []) Try.func82 rfl (List.Sublist.refl _) hl5 ⟨_, rfl, rfl, hs7⟩
theorem ref04_Open_ok {a0 : List Int} {v1 : Value} {r : List Int × Int} (h : ref04_Open a0 r) (σ : Sto) (hs2 : Sl (kI .u8) σ v1 a0) :
    Does Try.prog 56 [v1] σ [] (fun v τ gs => ∃ (v49 : Value), gs = [] ∧ .tuple [v49, .int .i64 r.2].toArray = v ∧ Sl (kI .u8) τ v49 r.1) := by
  refine call_of Try.func56 Try.ntmps56 rfl rfl (fun cs fs => ?_)
  refine st_seq ?_
  refine st_region ?_
  refine o_assign rfl rfl rfl rfl ?_
  refine o_assign rfl rfl rfl rfl ?_
  refine st_end ?_
  refine st_seq ?_
  refine st_seq ?_
  refine st_region ?_
  refine o_move rfl rfl rfl rfl ?_
  refine o_lenI rfl rfl rfl z_slT45 rfl hs2 ?_
  refine o_ibin (v := .bool (decide ((a0.length : Int) < 4))) rfl rfl rfl rfl rfl rfl ?_
  refine st_end ?_
  refine st_cond rfl (fun hc => ?_) (fun hc => ?_)
  · replace h := (if_pos hc).mp h
    refine st_seq ?_
    refine st_region ?_
    refine o_assign rfl rfl rfl rfl ?_
    refine o_assign rfl rfl rfl rfl ?_
    refine st_end ?_
    obtain rfl := Eq.symm h
    exact st_ret (gs' := []) Try.func56 rfl (List.Sublist.refl _) (Sto.Le.refl _) ⟨_, rfl, rfl, Sl.nil⟩
  · replace h := (if_neg (ne_t hc)).mp h
    refine st_skip ?_
    refine st_seq ?_
    refine st_region ?_
    refine o_move rfl rfl rfl rfl ?_
    refine o_lenI rfl rfl rfl z_slT45 rfl hs2 ?_
    refine o_ibin (v := .int .i64 (IntKind.i64.wrap ((a0.length : Int) - 4))) rfl rfl rfl rfl rfl rfl ?_
    refine o_assign rfl rfl rfl rfl ?_
    refine st_end ?_
    refine st_seq ?_
    refine st_region ?_
    refine o_move rfl rfl rfl rfl ?_
    refine o_move rfl rfl rfl rfl ?_
    obtain ⟨hf3, h⟩ := h
    obtain ⟨hf4, h⟩ := h
    refine o_slice (L := 0) (H := (IntKind.i64.wrap ((a0.length : Int) - 4))) rfl rfl rfl z_slT45 rfl rfl hs2 rfl ⟨_, rfl⟩ (by decide) hf3 hf4 trivial (by simp) (fun v5 hs6 => ?_)
    obtain ⟨r7, hr8, h⟩ := h
    refine st_call (foot := []) rfl rfl rfl rfl rfl rfl (callV_fn z_en83 (ref04_Sum_ok hr8 σ hs6)) ?_
    rintro vτ9 τ9 gsτ9 hl10 ⟨rfl, rfl⟩
    obtain ⟨r11, hr12, h⟩ := h
    refine st_call (foot := []) rfl rfl rfl rfl rfl rfl (callV_fn z_en82 (ref04_Bytes_ok hr12 τ9)) ?_
    rintro vτ13 τ13 gsτ13 hl14 ⟨v15, rfl, rfl, hs16⟩
    refine o_assign rfl rfl rfl rfl ?_
    refine st_end ?_
    refine st_seq ?_
    refine st_cut (fun ρ τ17 gs => ∃ (s17 : Unit), ref04_Open_j1 a0 s17 r ∧ τ13.Le τ17 ∧ ρ = [(0, v1), (2, .slice none 0 0), (3, .int .i64 0), (4, .int .i64 (IntKind.i64.wrap ((a0.length : Int) - 4)))] ∧ gs = []) ?_ (fun hk17 => ?_)
    · rintro ρ17 τ17 gs17 ⟨s17, h, hl17, rfl, rfl⟩
      refine st_seq ?_
      refine st_region ?_
      refine o_lit (dk := (kI .u8)) (xs := ([] : List Int)) (ps := []) (cs := []) rfl rfl rfl z_slT45 z_zero5 trivial rfl rfl rfl rfl Kd.Many.nil (fun v18 g19 ho20 => ?_)
      refine o_move rfl rfl rfl rfl ?_
      refine o_move rfl rfl rfl rfl ?_
      obtain ⟨hf21, h⟩ := h
      obtain ⟨hf22, h⟩ := h
      refine o_slice (L := 0) (H := (IntKind.i64.wrap ((a0.length : Int) - 4))) rfl rfl rfl z_slT45 rfl rfl (hs2.up ((hl10.trans hl14).trans hl17)) rfl ⟨_, rfl⟩ (by decide) hf21 hf22 trivial (by simp) (fun v23 hs24 => ?_)
      obtain ⟨hf28, h⟩ := h
      obtain ⟨hf29, h⟩ := h
      refine o_append (dk := (kI .u8)) (xs := ([] : List Int)) (ys := ((a0.drop (0 : Int).toNat).take (((IntKind.i64.wrap ((a0.length : Int) - 4)) : Int) - 0).toNat)) rfl rfl rfl rfl z_slT45 rfl ho20 rfl (Sl.src hs24) hf28 hf29 (fun v25 g26 ho27 => ?_)
      refine o_assign rfl rfl rfl rfl ?_
      refine o_assign rfl rfl rfl rfl ?_
      refine st_end ?_
      refine st_freeze (fun τ30 hl31 hg32 => ?_)
      have hs33 := ho27.freeze hl31 hg32
      obtain rfl := Eq.symm h
      exact st_ret (gs' := []) Try.func56 rfl (List.Sublist.refl _) (((hl10.trans hl14).trans hl17).trans hl31) ⟨_, rfl, rfl, hs33⟩
    refine st_seq ?_
    refine st_region ?_
    refine o_assign rfl rfl rfl rfl ?_
    refine st_end ?_
    obtain ⟨e35, hL35, hA35⟩ := h
    refine st_env (ρ' := [(0, v1), (2, .slice none 0 0), (3, .int .i64 0), (4, .int .i64 (IntKind.i64.wrap ((a0.length : Int) - 4))), (5, v15), (6, .int .i64 0)]) ⟨rfl, rfl, rfl, rfl, rfl, rfl, trivial⟩ ?_
    refine st_loop hL35 (fun (s35 : Int) ρ τ35 gs => τ13.Le τ35 ∧ ρ = [(0, v1), (2, .slice none 0 0), (3, .int .i64 0), (4, .int .i64 (IntKind.i64.wrap ((a0.length : Int) - 4))), (5, v15), (6, .int .i64 s35)] ∧ gs = []) ⟨Sto.Le.refl _, rfl, rfl⟩ ?_
    rintro s35 o35 h he35 ρ35 τ35 gs35 ⟨hl35, rfl, rfl⟩ hn35
    refine st_seq ?_
    refine st_seq ?_
    refine st_region ?_
    refine o_move rfl rfl rfl rfl ?_
    refine o_ibin (v := .bool (decide (s35 < 4))) rfl rfl rfl rfl rfl rfl ?_
    refine st_end ?_
    refine st_cond rfl (fun hc => ?_) (fun hc => ?_)
    · replace h := (if_pos hc).mp h
      refine st_skip ?_
      refine st_seq ?_
      refine st_block ?_
      refine st_seq ?_
      obtain ⟨q36, hf37, h⟩ := h
      obtain ⟨q41, hf42, h⟩ := h
      refine st_draw 11 (tl [fun τ v => (v15 : Value) = v,
    fun τ v => (.int .i64 s35 : Value) = v,
    fun τ v => ∃ (b38 : Nat) (of39 : Nat) (vsb38 : List Value), (.pointer (some ⟨b38, of39, none⟩) : Value) = v ∧ CelN τ ⟨b38, of39, none⟩ vsb38 ∧ (kI .u8).rep τ vsb38 q36,
    fun τ v => (.int .u8 q36 : Value) = v,
    fun τ v => (v1 : Value) = v,
    fun τ v => (.int .i64 (IntKind.i64.wrap ((a0.length : Int) - 4)) : Value) = v,
    fun τ v => (.int .i64 s35 : Value) = v,
    fun τ v => (.int .i64 (IntKind.i64.wrap ((IntKind.i64.wrap ((a0.length : Int) - 4)) + s35)) : Value) = v,
    fun τ v => ∃ (b43 : Nat) (of44 : Nat) (vsb43 : List Value), (.pointer (some ⟨b43, of44, none⟩) : Value) = v ∧ CelN τ ⟨b43, of44, none⟩ vsb43 ∧ (kI .u8).rep τ vsb43 q41,
    fun τ v => (.int .u8 q41 : Value) = v,
    fun τ v => (.bool (!(decide (q36 = q41))) : Value) = v]) (fun _ _ => []) z_mix rfl (tl_mono ⟨fun _ _ _ _ h => h, ⟨fun _ _ _ _ h => h, ⟨fun _ _ _ hl ⟨b38, of39, vsb38, hv, hc40, hrepb38⟩ => ⟨b38, of39, vsb38, hv, hc40.up hl, Kd.mono _ hl hrepb38⟩, ⟨fun _ _ _ _ h => h, ⟨fun _ _ _ _ h => h, ⟨fun _ _ _ _ h => h, ⟨fun _ _ _ _ h => h, ⟨fun _ _ _ _ h => h, ⟨fun _ _ _ hl ⟨b43, of44, vsb43, hv, hc45, hrepb43⟩ => ⟨b43, of44, vsb43, hv, hc45.up hl, Kd.mono _ hl hrepb43⟩, ⟨fun _ _ _ _ h => h, ⟨fun _ _ _ _ h => h, trivial⟩⟩⟩⟩⟩⟩⟩⟩⟩⟩⟩) (allB_cons (allB_cons (allB_cons (allB_cons (allB_cons (allB_cons (allB_cons (allB_cons (allB_cons (allB_cons (allB_cons allB_nil ?_) ?_) ?_) ?_) ?_) ?_) ?_) ?_) ?_) ?_) ?_) ?_
      · intro ρ' τ pool rs hl hd hout hk
        refine o_move rfl rfl rfl ((hout 5 rfl).trans rfl) ?_
        exact st_addNil (hk _ _ (Sto.Le.refl _) rfl)
      · intro ρ' τ pool rs hl hd hout hk
        refine o_move rfl rfl rfl ((hout 6 rfl).trans rfl) ?_
        exact st_addNil (hk _ _ (Sto.Le.refl _) rfl)
      · intro ρ' τ pool rs hl hd hout hk
        obtain ⟨_, e0, rfl⟩ := hd 0 rfl
        obtain ⟨_, e1, rfl⟩ := hd 1 rfl
        refine o_index rfl rfl rfl z_slT45 rfl e0 (hs16.up (hl35.trans hl)) e1 hf37 (fun b38 of39 vsb38 hc40 hrepb38 => ?_)
        exact st_addNil (hk _ _ (Sto.Le.refl _) ⟨b38, of39, vsb38, rfl, hc40, hrepb38⟩)
      · intro ρ' τ pool rs hl hd hout hk
        obtain ⟨_, e2, b38, of39, vsb38, rfl, hc40, hrepb38⟩ := hd 2 rfl
        have hrepb38 := hrepb38
        obtain rfl := hrepb38
        refine o_loadI (v := .int .u8 q36) rfl rfl rfl z_sc5 e2 (hc40 0 _ rfl) ?_
        exact st_addNil (hk _ _ (Sto.Le.refl _) rfl)
      · intro ρ' τ pool rs hl hd hout hk
        refine o_move rfl rfl rfl ((hout 0 rfl).trans rfl) ?_
        exact st_addNil (hk _ _ (Sto.Le.refl _) rfl)
      · intro ρ' τ pool rs hl hd hout hk
        refine o_move rfl rfl rfl ((hout 4 rfl).trans rfl) ?_
        exact st_addNil (hk _ _ (Sto.Le.refl _) rfl)
      · intro ρ' τ pool rs hl hd hout hk
        refine o_move rfl rfl rfl ((hout 6 rfl).trans rfl) ?_
        exact st_addNil (hk _ _ (Sto.Le.refl _) rfl)
      · intro ρ' τ pool rs hl hd hout hk
        obtain ⟨_, e5, rfl⟩ := hd 5 rfl
        obtain ⟨_, e6, rfl⟩ := hd 6 rfl
        refine o_ibin (v := .int .i64 (IntKind.i64.wrap ((IntKind.i64.wrap ((a0.length : Int) - 4)) + s35))) rfl rfl rfl e5 e6 rfl ?_
        exact st_addNil (hk _ _ (Sto.Le.refl _) rfl)
      · intro ρ' τ pool rs hl hd hout hk
        obtain ⟨_, e4, rfl⟩ := hd 4 rfl
        obtain ⟨_, e7, rfl⟩ := hd 7 rfl
        refine o_index rfl rfl rfl z_slT45 rfl e4 (hs2.up (((hl10.trans hl14).trans hl35).trans hl)) e7 hf42 (fun b43 of44 vsb43 hc45 hrepb43 => ?_)
        exact st_addNil (hk _ _ (Sto.Le.refl _) ⟨b43, of44, vsb43, rfl, hc45, hrepb43⟩)
      · intro ρ' τ pool rs hl hd hout hk
        obtain ⟨_, e8, b43, of44, vsb43, rfl, hc45, hrepb43⟩ := hd 8 rfl
        have hrepb43 := hrepb43
        obtain rfl := hrepb43
        refine o_loadI (v := .int .u8 q41) rfl rfl rfl z_sc5 e8 (hc45 0 _ rfl) ?_
        exact st_addNil (hk _ _ (Sto.Le.refl _) rfl)
      · intro ρ' τ pool rs hl hd hout hk
        obtain ⟨_, e3, rfl⟩ := hd 3 rfl
        obtain ⟨_, e9, rfl⟩ := hd 9 rfl
        refine o_ibin (v := .bool (!(decide (q36 = q41)))) rfl rfl rfl e3 e9 rfl ?_
        exact st_addNil (hk _ _ (Sto.Le.refl _) rfl)
      intro ρ' τ46 vals hl46 hv hout
      have l10 : Eng.look ρ' 32 = some (.bool (!(decide (q36 = q41)))) := (hv 10 (by decide)).1.trans (congrArg some (show vals 10 = .bool (!(decide (q36 = q41))) from Eq.symm (hv 10 (by decide)).2))
      refine st_ord [] [] rfl ?_
      refine st_env (ρ' := [(32, .bool (!(decide (q36 = q41)))), (0, v1), (2, .slice none 0 0), (3, .int .i64 0), (4, .int .i64 (IntKind.i64.wrap ((a0.length : Int) - 4))), (5, v15), (6, .int .i64 s35)]) ⟨l10, (hout 0 rfl).trans rfl, (hout 2 rfl).trans rfl, (hout 3 rfl).trans rfl, (hout 4 rfl).trans rfl, (hout 5 rfl).trans rfl, (hout 6 rfl).trans rfl, trivial⟩ ?_
      refine st_end ?_
      refine st_cond rfl (fun hc => ?_) (fun hc => ?_)
      · replace h := (if_pos hc).mp h
        refine st_seq ?_
        refine st_region ?_
        refine o_assign rfl rfl rfl rfl ?_
        refine o_assign rfl rfl rfl rfl ?_
        refine st_end ?_
        obtain rfl := he35 _ h
        replace h := hA35
        obtain rfl := Eq.symm h
        exact st_ret (gs' := []) Try.func56 rfl (List.Sublist.refl _) (((hl10.trans hl14).trans hl35).trans hl46) ⟨_, rfl, rfl, Sl.nil⟩
      · replace h := (if_neg (ne_t hc)).mp h
        refine st_skip ?_
        refine st_inBlock ?_
        refine st_region ?_
        refine o_move rfl rfl rfl rfl ?_
        refine o_ibin (v := .int .i64 (IntKind.i64.wrap (s35 + 1))) rfl rfl rfl rfl rfl rfl ?_
        refine o_assign rfl rfl rfl rfl ?_
        refine st_end ?_
        refine st_env (ρ' := [(0, v1), (2, .slice none 0 0), (3, .int .i64 0), (4, .int .i64 (IntKind.i64.wrap ((a0.length : Int) - 4))), (5, v15), (6, .int .i64 (IntKind.i64.wrap (s35 + 1)))]) ⟨rfl, rfl, rfl, rfl, rfl, rfl, trivial⟩ ?_
        exact hn35 _ _ _ _ h ⟨(hl35.trans hl46), rfl, rfl⟩
    · replace h := (if_neg (ne_t hc)).mp h
      refine st_exit rfl ?_
      obtain rfl := he35 _ h
      replace h := hA35
      refine st_env (ρ' := [(0, v1), (2, .slice none 0 0), (3, .int .i64 0), (4, .int .i64 (IntKind.i64.wrap ((a0.length : Int) - 4)))]) ⟨rfl, rfl, rfl, rfl, trivial⟩ ?_
      exact hk17 _ _ _ ⟨(), h, hl35, rfl, rfl⟩
theorem ref01_Same_ok {a0 : List Int} {a1 : List Int} {v1 : Value} {v3 : Value} {r : Bool} (h : ref01_Same a0 a1 r) (σ : Sto) (hs2 : Sl (kI .u8) σ v1 a0) (hs4 : Sl (kI .u8) σ v3 a1) :
    Does Try.prog 28 [v1, v3] σ [] (fun v τ gs => gs = [] ∧ .bool r = v) := by
  refine call_of Try.func28 Try.ntmps28 rfl rfl (fun cs fs => ?_)
  refine st_seq ?_
  refine st_region ?_
  refine o_assign rfl rfl rfl rfl ?_
  refine st_end ?_
  refine st_seq ?_
  refine st_seq ?_
  refine st_region ?_
  refine o_move rfl rfl rfl rfl ?_
  refine o_lenI rfl rfl rfl z_slT45 rfl hs2 ?_
  refine o_move rfl rfl rfl rfl ?_
  refine o_lenI rfl rfl rfl z_slT45 rfl hs4 ?_
  refine o_ibin (v := .bool (!(decide ((a0.length : Int) = (a1.length : Int))))) rfl rfl rfl rfl rfl rfl ?_
  refine st_end ?_
  refine st_cond rfl (fun hc => ?_) (fun hc => ?_)
  · replace h := (if_pos hc).mp h
    refine st_seq ?_
    refine st_region ?_
    refine o_assign rfl rfl rfl rfl ?_
    refine st_end ?_
    obtain rfl := Eq.symm h
    exact st_ret (gs' := []) Try.func28 rfl (List.Sublist.refl _) (Sto.Le.refl _) ⟨rfl, rfl⟩
  · replace h := (if_neg (ne_t hc)).mp h
    refine st_skip ?_
    refine st_seq ?_
    refine st_cut (fun ρ τ5 gs => ∃ (s5 : Unit), ref01_Same_j1 s5 r ∧ σ.Le τ5 ∧ ρ = [(4, .bool false)] ∧ gs = []) ?_ (fun hk5 => ?_)
    · rintro ρ5 τ5 gs5 ⟨s5, h, hl5, rfl, rfl⟩
      refine st_seq ?_
      refine st_region ?_
      refine o_assign rfl rfl rfl rfl ?_
      refine st_end ?_
      obtain rfl := Eq.symm h
      exact st_ret (gs' := []) Try.func28 rfl (List.Sublist.refl _) hl5 ⟨rfl, rfl⟩
    refine st_seq ?_
    refine st_region ?_
    refine o_assign rfl rfl rfl rfl ?_
    refine st_end ?_
    obtain ⟨e6, hL6, hA6⟩ := h
    refine st_env (ρ' := [(0, v1), (1, v3), (4, .bool false), (5, .int .i64 0)]) ⟨rfl, rfl, rfl, rfl, trivial⟩ ?_
    refine st_loop hL6 (fun (s6 : Int) ρ τ6 gs => σ.Le τ6 ∧ ρ = [(0, v1), (1, v3), (4, .bool false), (5, .int .i64 s6)] ∧ gs = []) ⟨Sto.Le.refl _, rfl, rfl⟩ ?_
    rintro s6 o6 h he6 ρ6 τ6 gs6 ⟨hl6, rfl, rfl⟩ hn6
    refine st_seq ?_
    refine st_seq ?_
    refine st_region ?_
    refine o_move rfl rfl rfl rfl ?_
    refine o_move rfl rfl rfl rfl ?_
    refine o_lenI rfl rfl rfl z_slT45 rfl (hs2.up hl6) ?_
    refine o_ibin (v := .bool (decide (s6 < (a0.length : Int)))) rfl rfl rfl rfl rfl rfl ?_
    refine st_end ?_
    refine st_cond rfl (fun hc => ?_) (fun hc => ?_)
    · replace h := (if_pos hc).mp h
      refine st_skip ?_
      refine st_seq ?_
      refine st_block ?_
      refine st_seq ?_
      obtain ⟨q7, hf8, h⟩ := h
      obtain ⟨q12, hf13, h⟩ := h
      refine st_draw 9 (tl [fun τ v => (v1 : Value) = v,
    fun τ v => (.int .i64 s6 : Value) = v,
    fun τ v => ∃ (b9 : Nat) (of10 : Nat) (vsb9 : List Value), (.pointer (some ⟨b9, of10, none⟩) : Value) = v ∧ CelN τ ⟨b9, of10, none⟩ vsb9 ∧ (kI .u8).rep τ vsb9 q7,
    fun τ v => (.int .u8 q7 : Value) = v,
    fun τ v => (v3 : Value) = v,
    fun τ v => (.int .i64 s6 : Value) = v,
    fun τ v => ∃ (b14 : Nat) (of15 : Nat) (vsb14 : List Value), (.pointer (some ⟨b14, of15, none⟩) : Value) = v ∧ CelN τ ⟨b14, of15, none⟩ vsb14 ∧ (kI .u8).rep τ vsb14 q12,
    fun τ v => (.int .u8 q12 : Value) = v,
    fun τ v => (.bool (!(decide (q7 = q12))) : Value) = v]) (fun _ _ => []) z_mix rfl (tl_mono ⟨fun _ _ _ _ h => h, ⟨fun _ _ _ _ h => h, ⟨fun _ _ _ hl ⟨b9, of10, vsb9, hv, hc11, hrepb9⟩ => ⟨b9, of10, vsb9, hv, hc11.up hl, Kd.mono _ hl hrepb9⟩, ⟨fun _ _ _ _ h => h, ⟨fun _ _ _ _ h => h, ⟨fun _ _ _ _ h => h, ⟨fun _ _ _ hl ⟨b14, of15, vsb14, hv, hc16, hrepb14⟩ => ⟨b14, of15, vsb14, hv, hc16.up hl, Kd.mono _ hl hrepb14⟩, ⟨fun _ _ _ _ h => h, ⟨fun _ _ _ _ h => h, trivial⟩⟩⟩⟩⟩⟩⟩⟩⟩) (allB_cons (allB_cons (allB_cons (allB_cons (allB_cons (allB_cons (allB_cons (allB_cons (allB_cons allB_nil ?_) ?_) ?_) ?_) ?_) ?_) ?_) ?_) ?_) ?_
      · intro ρ' τ pool rs hl hd hout hk
        refine o_move rfl rfl rfl ((hout 0 rfl).trans rfl) ?_
        exact st_addNil (hk _ _ (Sto.Le.refl _) rfl)
      · intro ρ' τ pool rs hl hd hout hk
        refine o_move rfl rfl rfl ((hout 5 rfl).trans rfl) ?_
        exact st_addNil (hk _ _ (Sto.Le.refl _) rfl)
      · intro ρ' τ pool rs hl hd hout hk
        obtain ⟨_, e0, rfl⟩ := hd 0 rfl
        obtain ⟨_, e1, rfl⟩ := hd 1 rfl
        refine o_index rfl rfl rfl z_slT45 rfl e0 (hs2.up (hl6.trans hl)) e1 hf8 (fun b9 of10 vsb9 hc11 hrepb9 => ?_)
        exact st_addNil (hk _ _ (Sto.Le.refl _) ⟨b9, of10, vsb9, rfl, hc11, hrepb9⟩)
      · intro ρ' τ pool rs hl hd hout hk
        obtain ⟨_, e2, b9, of10, vsb9, rfl, hc11, hrepb9⟩ := hd 2 rfl
        have hrepb9 := hrepb9
        obtain rfl := hrepb9
        refine o_loadI (v := .int .u8 q7) rfl rfl rfl z_sc5 e2 (hc11 0 _ rfl) ?_
        exact st_addNil (hk _ _ (Sto.Le.refl _) rfl)
      · intro ρ' τ pool rs hl hd hout hk
        refine o_move rfl rfl rfl ((hout 1 rfl).trans rfl) ?_
        exact st_addNil (hk _ _ (Sto.Le.refl _) rfl)
      · intro ρ' τ pool rs hl hd hout hk
        refine o_move rfl rfl rfl ((hout 5 rfl).trans rfl) ?_
        exact st_addNil (hk _ _ (Sto.Le.refl _) rfl)
      · intro ρ' τ pool rs hl hd hout hk
        obtain ⟨_, e4, rfl⟩ := hd 4 rfl
        obtain ⟨_, e5, rfl⟩ := hd 5 rfl
        refine o_index rfl rfl rfl z_slT45 rfl e4 (hs4.up (hl6.trans hl)) e5 hf13 (fun b14 of15 vsb14 hc16 hrepb14 => ?_)
        exact st_addNil (hk _ _ (Sto.Le.refl _) ⟨b14, of15, vsb14, rfl, hc16, hrepb14⟩)
      · intro ρ' τ pool rs hl hd hout hk
        obtain ⟨_, e6, b14, of15, vsb14, rfl, hc16, hrepb14⟩ := hd 6 rfl
        have hrepb14 := hrepb14
        obtain rfl := hrepb14
        refine o_loadI (v := .int .u8 q12) rfl rfl rfl z_sc5 e6 (hc16 0 _ rfl) ?_
        exact st_addNil (hk _ _ (Sto.Le.refl _) rfl)
      · intro ρ' τ pool rs hl hd hout hk
        obtain ⟨_, e3, rfl⟩ := hd 3 rfl
        obtain ⟨_, e7, rfl⟩ := hd 7 rfl
        refine o_ibin (v := .bool (!(decide (q7 = q12)))) rfl rfl rfl e3 e7 rfl ?_
        exact st_addNil (hk _ _ (Sto.Le.refl _) rfl)
      intro ρ' τ17 vals hl17 hv hout
      have l8 : Eng.look ρ' 25 = some (.bool (!(decide (q7 = q12)))) := (hv 8 (by decide)).1.trans (congrArg some (show vals 8 = .bool (!(decide (q7 = q12))) from Eq.symm (hv 8 (by decide)).2))
      refine st_ord [] [] rfl ?_
      refine st_env (ρ' := [(25, .bool (!(decide (q7 = q12)))), (0, v1), (1, v3), (4, .bool false), (5, .int .i64 s6)]) ⟨l8, (hout 0 rfl).trans rfl, (hout 1 rfl).trans rfl, (hout 4 rfl).trans rfl, (hout 5 rfl).trans rfl, trivial⟩ ?_
      refine st_end ?_
      refine st_cond rfl (fun hc => ?_) (fun hc => ?_)
      · replace h := (if_pos hc).mp h
        refine st_seq ?_
        refine st_region ?_
        refine o_assign rfl rfl rfl rfl ?_
        refine st_end ?_
        obtain rfl := he6 _ h
        replace h := hA6
        obtain rfl := Eq.symm h
        exact st_ret (gs' := []) Try.func28 rfl (List.Sublist.refl _) (hl6.trans hl17) ⟨rfl, rfl⟩
      · replace h := (if_neg (ne_t hc)).mp h
        refine st_skip ?_
        refine st_inBlock ?_
        refine st_region ?_
        refine o_move rfl rfl rfl rfl ?_
        refine o_ibin (v := .int .i64 (IntKind.i64.wrap (s6 + 1))) rfl rfl rfl rfl rfl rfl ?_
        refine o_assign rfl rfl rfl rfl ?_
        refine st_end ?_
        refine st_env (ρ' := [(0, v1), (1, v3), (4, .bool false), (5, .int .i64 (IntKind.i64.wrap (s6 + 1)))]) ⟨rfl, rfl, rfl, rfl, trivial⟩ ?_
        exact hn6 _ _ _ _ h ⟨(hl6.trans hl17), rfl, rfl⟩
    · replace h := (if_neg (ne_t hc)).mp h
      refine st_exit rfl ?_
      obtain rfl := he6 _ h
      replace h := hA6
      refine st_env (ρ' := [(4, .bool false)]) ⟨rfl, trivial⟩ ?_
      exact hk5 _ _ _ ⟨(), h, hl6, rfl, rfl⟩
theorem cobs_Decode_ok {a0 : List Int} {v1 : Value} {r : List Int × Int} (h : cobs_Decode a0 r) (σ : Sto) (hs2 : Sl (kI .u8) σ v1 a0) :
    Does Try.prog 61 [v1] σ [] (fun v τ gs => ∃ (v64 : Value), gs = [] ∧ .tuple [v64, .int .i64 r.2].toArray = v ∧ Sl (kI .u8) τ v64 r.1) := by
  refine call_of Try.func61 Try.ntmps61 rfl rfl (fun cs fs => ?_)
  refine st_seq ?_
  refine st_region ?_
  refine o_assign rfl rfl rfl rfl ?_
  refine o_assign rfl rfl rfl rfl ?_
  refine st_end ?_
  refine st_scope ?_
  refine st_lcut (l := 0) rfl (fun ρ τ3 gs => ∃ (s3 : Unit), cobs_Decode_j1 s3 r ∧ σ.Le τ3 ∧ ρ = [(2, .slice none 0 0), (3, .int .i64 0)] ∧ gs = []) ?_ (fun hk3 => ?_)
  · rintro ρ3 τ3 gs3 ⟨s3, h, hl3, rfl, rfl⟩
    refine st_seq ?_
    refine st_skip ?_
    refine st_seq ?_
    refine st_region ?_
    refine o_assign rfl rfl rfl rfl ?_
    refine o_assign rfl rfl rfl rfl ?_
    refine st_end ?_
    obtain rfl := Eq.symm h
    exact st_ret (gs' := []) Try.func61 rfl (List.Sublist.refl _) hl3 ⟨_, rfl, rfl, Sl.nil⟩
  refine st_seq ?_
  refine st_region ?_
  refine o_assign rfl rfl rfl rfl ?_
  refine st_end ?_
  refine st_seq ?_
  refine st_region ?_
  refine o_move rfl rfl rfl rfl ?_
  refine o_assign rfl rfl rfl rfl ?_
  refine o_assign rfl rfl rfl rfl ?_
  refine st_end ?_
  refine st_seq ?_
  refine st_seq ?_
  refine st_region ?_
  refine o_move rfl rfl rfl rfl ?_
  refine o_lenI rfl rfl rfl z_slT45 rfl hs2 ?_
  refine o_ibin (v := .bool (decide ((a0.length : Int) = 0))) rfl rfl rfl rfl rfl rfl ?_
  refine st_end ?_
  refine st_cond rfl (fun hc => ?_) (fun hc => ?_)
  · replace h := (if_pos hc).mp h
    refine st_goto rfl ?_
    refine st_env (ρ' := [(2, .slice none 0 0), (3, .int .i64 0)]) ⟨rfl, rfl, trivial⟩ ?_
    exact hk3 _ _ _ ⟨(), h, (Sto.Le.refl _), rfl, rfl⟩
  · replace h := (if_neg (ne_t hc)).mp h
    refine st_skip ?_
    refine st_seq ?_
    refine st_label ?_
    refine st_seq ?_
    refine st_cut (fun ρ τ4 gs => ∃ (s4 : List Int) (v5 : Value) (g6 : Grp), cobs_Decode_j2 s4 r ∧ σ.Le τ4 ∧ ρ = [(2, .slice none 0 0), (3, .int .i64 0), (4, v5)] ∧ gs = [g6] ∧ Ow (kI .u8) 5 τ4 v5 s4 g6) ?_ (fun hk4 => ?_)
    · rintro ρ4 τ4 gs4 ⟨s4, v5, g6, h, hl4, rfl, rfl, ho7⟩
      refine st_seq ?_
      refine st_seq ?_
      refine st_region ?_
      refine o_move rfl rfl rfl rfl ?_
      refine o_assign rfl rfl rfl rfl ?_
      refine o_assign rfl rfl rfl rfl ?_
      refine st_end ?_
      refine st_freeze (fun τ8 hl9 hg10 => ?_)
      have hs11 := ho7.freeze hl9 hg10
      obtain rfl := Eq.symm h
      exact st_ret (gs' := []) Try.func61 rfl (List.Sublist.refl _) (hl4.trans hl9) ⟨_, rfl, rfl, hs11⟩
    obtain ⟨e14, hL14, hA14⟩ := h
    refine st_env (ρ' := [(2, .slice none 0 0), (3, .int .i64 0), (4, .slice none 0 0), (5, v1), (6, .bool false)]) ⟨rfl, rfl, rfl, rfl, rfl, trivial⟩ ?_
    refine st_addNil ?_
    refine st_loop hL14 (fun (s14 : List Int × List Int × Bool) ρ τ14 gs => σ.Le τ14 ∧ ∃ (v15 : Value) (g16 : Grp) (v18 : Value), ρ = [(2, .slice none 0 0), (3, .int .i64 0), (4, v15), (5, v18), (6, .bool s14.2.2)] ∧ gs = [g16] ∧ Ow (kI .u8) 5 τ14 v15 s14.1 g16 ∧ Sl (kI .u8) τ14 v18 s14.2.1) ⟨Sto.Le.refl _, _, _, _, rfl, rfl, Ow.nil, hs2⟩ ?_
    rintro s14 o14 h he14 ρ14 τ14 gs14 ⟨hl14, v15, g16, v18, rfl, rfl, ho17, hs19⟩ hn14
    refine st_block ?_
    refine st_seq ?_
    refine st_region ?_
    refine o_move rfl rfl rfl rfl ?_
    obtain ⟨q20, hf21, h⟩ := h
    refine o_index rfl rfl rfl z_slT45 rfl rfl hs19 rfl hf21 (fun b22 of23 vs hc24 hrep => ?_)
    obtain rfl := hrep
    refine o_loadI (v := .int .u8 q20) rfl rfl rfl z_sc5 rfl (hc24 0 _ rfl) ?_
    refine o_conv rfl rfl rfl Try.underlying5 Try.underlying3 rfl ?_
    refine o_ibin (v := .int .i64 (IntKind.i64.wrap ((IntKind.i64.wrap q20) - 1))) rfl rfl rfl rfl rfl rfl ?_
    refine o_assign rfl rfl rfl rfl ?_
    refine st_end ?_
    refine st_seq ?_
    refine st_seq ?_
    refine st_cut (fun ρ τ25 gs => ∃ (s25 : Bool), cobs_Decode_j4 s14 q20 s25 o14 ∧ τ14.Le τ25 ∧ ρ = [(2, .slice none 0 0), (3, .int .i64 0), (4, v15), (5, v18), (6, .bool s14.2.2), (7, .int .i64 (IntKind.i64.wrap ((IntKind.i64.wrap q20) - 1))), (27, .bool s25)] ∧ gs = [g16]) ?_ (fun hk25 => ?_)
    · rintro ρ25 τ25 gs25 ⟨s25, h, hl25, rfl, rfl⟩
      refine st_cond rfl (fun hc => ?_) (fun hc => ?_)
      · replace h := (if_pos hc).mp h
        refine st_goto rfl ?_
        obtain rfl := he14 _ h
        replace h := hA14
        refine st_env (ρ' := [(2, .slice none 0 0), (3, .int .i64 0)]) ⟨rfl, rfl, trivial⟩ ?_
        refine st_ord [] [] rfl ?_
        exact hk3 _ _ _ ⟨(), h, (hl14.trans hl25), rfl, rfl⟩
      · replace h := (if_neg (ne_t hc)).mp h
        refine st_skip ?_
        refine st_seq ?_
        refine st_cut (fun ρ τ26 gs => ∃ (s26 : Unit), cobs_Decode_j5 s14 q20 s26 o14 ∧ τ25.Le τ26 ∧ ρ = [(2, .slice none 0 0), (3, .int .i64 0), (4, v15), (5, v18), (6, .bool s14.2.2), (7, .int .i64 (IntKind.i64.wrap ((IntKind.i64.wrap q20) - 1)))] ∧ gs = [g16]) ?_ (fun hk26 => ?_)
        · rintro ρ26 τ26 gs26 ⟨s26, h, hl26, rfl, rfl⟩
          refine st_seq ?_
          refine st_region ?_
          refine o_move rfl rfl rfl rfl ?_
          refine o_move rfl rfl rfl rfl ?_
          refine o_move rfl rfl rfl rfl ?_
          refine o_ibin (v := .int .i64 (IntKind.i64.wrap ((IntKind.i64.wrap ((IntKind.i64.wrap q20) - 1)) + 1))) rfl rfl rfl rfl rfl rfl ?_
          obtain ⟨hf27, h⟩ := h
          obtain ⟨hf28, h⟩ := h
          refine o_slice (L := 1) (H := (IntKind.i64.wrap ((IntKind.i64.wrap ((IntKind.i64.wrap q20) - 1)) + 1))) rfl rfl rfl z_slT45 rfl rfl (hs19.up (hl25.trans hl26)) ⟨_, rfl⟩ ⟨_, rfl⟩ (by decide) hf27 hf28 trivial (by simp) (fun v29 hs30 => ?_)
          obtain ⟨hf34, h⟩ := h
          obtain ⟨hf35, h⟩ := h
          refine o_append (dk := (kI .u8)) (xs := s14.1) (ys := ((s14.2.1.drop (1 : Int).toNat).take (((IntKind.i64.wrap ((IntKind.i64.wrap ((IntKind.i64.wrap q20) - 1)) + 1)) : Int) - 1).toNat)) rfl rfl rfl rfl z_slT45 rfl (ho17.up (hl25.trans hl26)) rfl (Sl.src hs30) hf34 hf35 (fun v31 g32 ho33 => ?_)
          refine o_assign rfl rfl rfl rfl ?_
          refine st_end ?_
          refine st_seq ?_
          refine st_region ?_
          refine o_move rfl rfl rfl rfl ?_
          refine o_move rfl rfl rfl rfl ?_
          refine o_ibin (v := .int .i64 (IntKind.i64.wrap ((IntKind.i64.wrap ((IntKind.i64.wrap q20) - 1)) + 1))) rfl rfl rfl rfl rfl rfl ?_
          obtain ⟨hf36, h⟩ := h
          obtain ⟨hf37, h⟩ := h
          obtain ⟨hf38, h⟩ := h
          refine o_slice (L := (IntKind.i64.wrap ((IntKind.i64.wrap ((IntKind.i64.wrap q20) - 1)) + 1))) (H := (s14.2.1.length : Int)) rfl rfl rfl z_slT45 rfl rfl (hs19.up (hl25.trans hl26)) ⟨_, rfl⟩ rfl hf36 hf37 hf38 trivial (by simp) (fun v39 hs40 => ?_)
          refine o_assign rfl rfl rfl rfl ?_
          refine st_end ?_
          refine st_seq ?_
          refine st_region ?_
          refine o_move rfl rfl rfl rfl ?_
          refine o_assign rfl rfl rfl rfl ?_
          refine st_end ?_
          refine st_seq ?_
          refine st_region ?_
          refine o_move rfl rfl rfl rfl ?_
          refine o_ibin (v := .bool (decide ((IntKind.i64.wrap ((IntKind.i64.wrap q20) - 1)) = 254))) rfl rfl rfl rfl rfl rfl ?_
          refine o_assign rfl rfl rfl rfl ?_
          refine st_end ?_
          refine st_block ?_
          refine st_seq ?_
          refine st_cut (fun ρ τ41 gs => ∃ (s41 : Bool), cobs_Decode_j6 s14 q20 s41 o14 ∧ τ26.Le τ41 ∧ ρ = [(2, .slice none 0 0), (3, .int .i64 0), (4, v31), (5, v39), (6, .bool (decide ((IntKind.i64.wrap ((IntKind.i64.wrap q20) - 1)) = 254))), (53, .bool s41)] ∧ gs = [g32]) ?_ (fun hk41 => ?_)
          · rintro ρ41 τ41 gs41 ⟨s41, h, hl41, rfl, rfl⟩
            refine st_cond rfl (fun hc => ?_) (fun hc => ?_)
            · replace h := (if_pos hc).mp h
              refine st_goto rfl ?_
              obtain rfl := he14 _ h
              replace h := hA14
              refine st_env (ρ' := [(2, .slice none 0 0), (3, .int .i64 0)]) ⟨rfl, rfl, trivial⟩ ?_
              refine st_ord [] [] rfl ?_
              exact hk3 _ _ _ ⟨(), h, (((hl14.trans hl25).trans hl26).trans hl41), rfl, rfl⟩
            · replace h := (if_neg (ne_t hc)).mp h
              refine st_seq ?_
              refine st_region ?_
              refine o_move rfl rfl rfl rfl ?_
              refine o_lenI rfl rfl rfl z_slT45 rfl (hs40.up hl41) ?_
              refine o_ibin (v := .bool (decide ((((s14.2.1.drop (IntKind.i64.wrap ((IntKind.i64.wrap ((IntKind.i64.wrap q20) - 1)) + 1)).toNat).take (((s14.2.1.length : Int) : Int) - (IntKind.i64.wrap ((IntKind.i64.wrap ((IntKind.i64.wrap q20) - 1)) + 1))).toNat).length : Int) = 0))) rfl rfl rfl rfl rfl rfl ?_
              refine o_assign rfl rfl rfl rfl ?_
              refine st_end ?_
              refine st_cond rfl (fun hc => ?_) (fun hc => ?_)
              · replace h := (if_pos hc).mp h
                refine st_exit rfl ?_
                obtain rfl := he14 _ h
                replace h := hA14
                refine st_env (ρ' := [(2, .slice none 0 0), (3, .int .i64 0), (4, v31)]) ⟨rfl, rfl, rfl, trivial⟩ ?_
                exact hk4 _ _ _ ⟨(s14.1 ++ ((s14.2.1.drop (1 : Int).toNat).take (((IntKind.i64.wrap ((IntKind.i64.wrap ((IntKind.i64.wrap q20) - 1)) + 1)) : Int) - 1).toNat)), _, _, h, (((hl14.trans hl25).trans hl26).trans hl41), rfl, rfl, (ho33.up hl41)⟩
              · replace h := (if_neg (ne_t hc)).mp h
                refine st_seq ?_
                refine st_region ?_
                refine o_move rfl rfl rfl rfl ?_
                refine o_not rfl rfl rfl rfl ?_
                refine o_assign rfl rfl rfl rfl ?_
                refine st_end ?_
                refine st_cond rfl (fun hc => ?_) (fun hc => ?_)
                · replace h := (if_pos hc).mp h
                  refine st_region ?_
                  refine o_move rfl rfl rfl rfl ?_
                  refine o_lit (dk := (kI .u8)) (xs := [0]) (ps := [(0, [.int .u8 0])]) (cs := [.int .u8 0]) rfl rfl rfl z_slT45 z_zero5 ⟨rfl, ⟨_, rfl, rfl⟩, trivial⟩ rfl rfl rfl rfl (Kd.Many.cons (a := [.int .u8 0]) rfl Kd.Many.nil) (fun v42 g43 ho44 => ?_)
                  obtain ⟨hf48, h⟩ := h
                  obtain ⟨hf49, h⟩ := h
                  refine st_ord [1, 0] [g32, g43] rfl ?_
                  refine o_append (dk := (kI .u8)) (xs := (s14.1 ++ ((s14.2.1.drop (1 : Int).toNat).take (((IntKind.i64.wrap ((IntKind.i64.wrap ((IntKind.i64.wrap q20) - 1)) + 1)) : Int) - 1).toNat))) (ys := [0]) rfl rfl rfl rfl z_slT45 rfl (ho33.up hl41) rfl (Ow.src (j := 1) ho44 rfl) hf48 hf49 (fun v45 g46 ho47 => ?_)
                  refine o_assign rfl rfl rfl rfl ?_
                  refine st_end ?_
                  refine st_inBlock ?_
                  refine st_inBlock ?_
                  refine st_env (ρ' := [(2, .slice none 0 0), (3, .int .i64 0), (4, v45), (5, v39), (6, .bool (decide ((IntKind.i64.wrap ((IntKind.i64.wrap q20) - 1)) = 254)))]) ⟨rfl, rfl, rfl, rfl, rfl, trivial⟩ ?_
                  refine st_ord [0] [g46] rfl ?_
                  exact hn14 _ _ _ _ h ⟨(((hl14.trans hl25).trans hl26).trans hl41), _, _, _, rfl, rfl, ho47, (hs40.up hl41)⟩
                · replace h := (if_neg (ne_t hc)).mp h
                  refine st_skip ?_
                  refine st_inBlock ?_
                  refine st_inBlock ?_
                  refine st_env (ρ' := [(2, .slice none 0 0), (3, .int .i64 0), (4, v31), (5, v39), (6, .bool (decide ((IntKind.i64.wrap ((IntKind.i64.wrap q20) - 1)) = 254)))]) ⟨rfl, rfl, rfl, rfl, rfl, trivial⟩ ?_
                  exact hn14 _ _ _ _ h ⟨(((hl14.trans hl25).trans hl26).trans hl41), _, _, _, rfl, rfl, (ho33.up hl41), (hs40.up hl41)⟩
          refine st_region ?_
          refine o_move rfl rfl rfl rfl ?_
          refine o_lenI rfl rfl rfl z_slT45 rfl hs40 ?_
          refine o_ibin (v := .bool (decide ((((s14.2.1.drop (IntKind.i64.wrap ((IntKind.i64.wrap ((IntKind.i64.wrap q20) - 1)) + 1)).toNat).take (((s14.2.1.length : Int) : Int) - (IntKind.i64.wrap ((IntKind.i64.wrap ((IntKind.i64.wrap q20) - 1)) + 1))).toNat).length : Int) = 0))) rfl rfl rfl rfl rfl rfl ?_
          refine o_moveB rfl rfl rfl rfl (fun hc => ?_) (fun hc => ?_)
          · replace h := (if_pos hc).mp h
            refine o_move rfl rfl rfl rfl ?_
            refine o_pick rfl rfl rfl rfl rfl ?_
            refine o_moveB rfl rfl rfl rfl (fun hc => ?_) (fun hc => ?_)
            · replace h := (if_pos hc).mp h
              refine o_move rfl rfl rfl rfl ?_
              refine o_ibin (v := .bool (decide ((IntKind.i64.wrap ((IntKind.i64.wrap q20) - 1)) = 0))) rfl rfl rfl rfl rfl rfl ?_
              refine o_pick rfl rfl rfl rfl rfl ?_
              refine o_assign rfl rfl rfl rfl ?_
              refine st_end ?_
              refine st_env (ρ' := [(2, .slice none 0 0), (3, .int .i64 0), (4, v31), (5, v39), (6, .bool (decide ((IntKind.i64.wrap ((IntKind.i64.wrap q20) - 1)) = 254))), (53, .bool (decide ((IntKind.i64.wrap ((IntKind.i64.wrap q20) - 1)) = 0)))]) ⟨rfl, rfl, rfl, rfl, rfl, rfl, trivial⟩ ?_
              exact hk41 _ _ _ ⟨(decide ((IntKind.i64.wrap ((IntKind.i64.wrap q20) - 1)) = 0)), h, (Sto.Le.refl _), rfl, rfl⟩
            · replace h := (if_neg (ne_t hc)).mp h
              refine st_pass rfl rfl rfl rfl rfl rfl ?_
              refine st_pass rfl rfl rfl rfl rfl rfl ?_
              refine o_pick rfl rfl rfl rfl rfl ?_
              refine o_assign rfl rfl rfl rfl ?_
              refine st_end ?_
              refine st_env (ρ' := [(2, .slice none 0 0), (3, .int .i64 0), (4, v31), (5, v39), (6, .bool (decide ((IntKind.i64.wrap ((IntKind.i64.wrap q20) - 1)) = 254))), (53, .bool false)]) ⟨rfl, rfl, rfl, rfl, rfl, rfl, trivial⟩ ?_
              exact hk41 _ _ _ ⟨false, h, (Sto.Le.refl _), rfl, rfl⟩
          · replace h := (if_neg (ne_t hc)).mp h
            refine st_pass rfl rfl rfl rfl rfl rfl ?_
            refine o_pick rfl rfl rfl rfl rfl ?_
            refine o_move rfl rfl rfl rfl ?_
            refine st_pass rfl rfl rfl rfl rfl rfl ?_
            refine st_pass rfl rfl rfl rfl rfl rfl ?_
            refine o_pick rfl rfl rfl rfl rfl ?_
            refine o_assign rfl rfl rfl rfl ?_
            refine st_end ?_
            refine st_env (ρ' := [(2, .slice none 0 0), (3, .int .i64 0), (4, v31), (5, v39), (6, .bool (decide ((IntKind.i64.wrap ((IntKind.i64.wrap q20) - 1)) = 254))), (53, .bool false)]) ⟨rfl, rfl, rfl, rfl, rfl, rfl, trivial⟩ ?_
            exact hk41 _ _ _ ⟨false, h, (Sto.Le.refl _), rfl, rfl⟩
        refine st_seq ?_
        refine st_region ?_
        refine o_move rfl rfl rfl rfl ?_
        refine o_move rfl rfl rfl rfl ?_
        refine o_ibin (v := .int .i64 (IntKind.i64.wrap ((IntKind.i64.wrap ((IntKind.i64.wrap q20) - 1)) + 1))) rfl rfl rfl rfl rfl rfl ?_
        obtain ⟨hf50, h⟩ := h
        obtain ⟨hf51, h⟩ := h
        refine o_slice (L := 1) (H := (IntKind.i64.wrap ((IntKind.i64.wrap ((IntKind.i64.wrap q20) - 1)) + 1))) rfl rfl rfl z_slT45 rfl rfl (hs19.up hl25) ⟨_, rfl⟩ ⟨_, rfl⟩ (by decide) hf50 hf51 trivial (by simp) (fun v52 hs53 => ?_)
        refine o_lenI rfl rfl rfl z_slT45 rfl hs53 ?_
        refine o_move rfl rfl rfl rfl ?_
        refine st_end ?_
        obtain ⟨e54, hL54, hA54⟩ := h
        refine st_env (ρ' := [(2, .slice none 0 0), (3, .int .i64 0), (4, v15), (5, v18), (6, .bool s14.2.2), (7, .int .i64 (IntKind.i64.wrap ((IntKind.i64.wrap q20) - 1))), (31, v52), (32, .int .i64 (((s14.2.1.drop (1 : Int).toNat).take (((IntKind.i64.wrap ((IntKind.i64.wrap ((IntKind.i64.wrap q20) - 1)) + 1)) : Int) - 1).toNat).length : Int)), (33, .int .i64 0)]) ⟨rfl, rfl, rfl, rfl, rfl, rfl, rfl, rfl, rfl, trivial⟩ ?_
        refine st_loop hL54 (fun (s54 : Int) ρ τ54 gs => τ25.Le τ54 ∧ ρ = [(2, .slice none 0 0), (3, .int .i64 0), (4, v15), (5, v18), (6, .bool s14.2.2), (7, .int .i64 (IntKind.i64.wrap ((IntKind.i64.wrap q20) - 1))), (31, v52), (32, .int .i64 (((s14.2.1.drop (1 : Int).toNat).take (((IntKind.i64.wrap ((IntKind.i64.wrap ((IntKind.i64.wrap q20) - 1)) + 1)) : Int) - 1).toNat).length : Int)), (33, .int .i64 s54)] ∧ gs = [g16]) ⟨Sto.Le.refl _, rfl, rfl⟩ ?_
        rintro s54 o54 h he54 ρ54 τ54 gs54 ⟨hl54, rfl, rfl⟩ hn54
        refine st_seq ?_
        refine st_region ?_
        refine o_ibin (v := .bool (decide (s54 < (((s14.2.1.drop (1 : Int).toNat).take (((IntKind.i64.wrap ((IntKind.i64.wrap ((IntKind.i64.wrap q20) - 1)) + 1)) : Int) - 1).toNat).length : Int)))) rfl rfl rfl rfl rfl rfl ?_
        refine st_end ?_
        refine st_seq ?_
        refine st_cond rfl (fun hc => ?_) (fun hc => ?_)
        · replace h := (if_pos hc).mp h
          refine st_skip ?_
          refine st_seq ?_
          refine st_block ?_
          refine st_seq ?_
          refine st_region ?_
          obtain ⟨q55, hf56, h⟩ := h
          refine o_index rfl rfl rfl z_slT45 rfl rfl (hs53.up hl54) rfl hf56 (fun b57 of58 vs hc59 hrep => ?_)
          obtain rfl := hrep
          refine o_loadI (v := .int .u8 q55) rfl rfl rfl z_sc5 rfl (hc59 0 _ rfl) ?_
          refine o_assign rfl rfl rfl rfl ?_
          refine st_end ?_
          refine st_seq ?_
          refine st_region ?_
          refine o_move rfl rfl rfl rfl ?_
          refine o_ibin (v := .bool (decide (q55 = 0))) rfl rfl rfl rfl rfl rfl ?_
          refine st_end ?_
          refine st_cond rfl (fun hc => ?_) (fun hc => ?_)
          · replace h := (if_pos hc).mp h
            refine st_goto rfl ?_
            obtain rfl := he54 _ h
            replace h := hA54
            obtain rfl := he14 _ h
            replace h := hA14
            refine st_env (ρ' := [(2, .slice none 0 0), (3, .int .i64 0)]) ⟨rfl, rfl, trivial⟩ ?_
            refine st_ord [] [] rfl ?_
            exact hk3 _ _ _ ⟨(), h, ((hl14.trans hl25).trans hl54), rfl, rfl⟩
          · replace h := (if_neg (ne_t hc)).mp h
            refine st_skip ?_
            refine st_inBlock ?_
            refine st_region ?_
            refine o_ibin (v := .int .i64 (IntKind.i64.wrap (s54 + 1))) rfl rfl rfl rfl rfl rfl ?_
            refine o_move rfl rfl rfl rfl ?_
            refine st_end ?_
            refine st_env (ρ' := [(2, .slice none 0 0), (3, .int .i64 0), (4, v15), (5, v18), (6, .bool s14.2.2), (7, .int .i64 (IntKind.i64.wrap ((IntKind.i64.wrap q20) - 1))), (31, v52), (32, .int .i64 (((s14.2.1.drop (1 : Int).toNat).take (((IntKind.i64.wrap ((IntKind.i64.wrap ((IntKind.i64.wrap q20) - 1)) + 1)) : Int) - 1).toNat).length : Int)), (33, .int .i64 (IntKind.i64.wrap (s54 + 1)))]) ⟨rfl, rfl, rfl, rfl, rfl, rfl, rfl, rfl, rfl, trivial⟩ ?_
            exact hn54 _ _ _ _ h ⟨hl54, rfl, rfl⟩
        · replace h := (if_neg (ne_t hc)).mp h
          refine st_exit rfl ?_
          obtain rfl := he54 _ h
          replace h := hA54
          refine st_env (ρ' := [(2, .slice none 0 0), (3, .int .i64 0), (4, v15), (5, v18), (6, .bool s14.2.2), (7, .int .i64 (IntKind.i64.wrap ((IntKind.i64.wrap q20) - 1)))]) ⟨rfl, rfl, rfl, rfl, rfl, rfl, trivial⟩ ?_
          exact hk26 _ _ _ ⟨(), h, hl54, rfl, rfl⟩
    refine st_region ?_
    refine o_move rfl rfl rfl rfl ?_
    refine o_ibin (v := .bool (decide ((IntKind.i64.wrap ((IntKind.i64.wrap q20) - 1)) < 0))) rfl rfl rfl rfl rfl rfl ?_
    refine o_moveB rfl rfl rfl rfl (fun hc => ?_) (fun hc => ?_)
    · replace h := (if_pos hc).mp h
      refine st_pass rfl rfl rfl rfl rfl rfl ?_
      refine st_pass rfl rfl rfl rfl rfl rfl ?_
      refine st_pass rfl rfl rfl rfl rfl rfl ?_
      refine st_pass rfl rfl rfl rfl rfl rfl ?_
      refine o_pick rfl rfl rfl rfl rfl ?_
      refine st_end ?_
      refine st_env (ρ' := [(2, .slice none 0 0), (3, .int .i64 0), (4, v15), (5, v18), (6, .bool s14.2.2), (7, .int .i64 (IntKind.i64.wrap ((IntKind.i64.wrap q20) - 1))), (27, .bool true)]) ⟨rfl, rfl, rfl, rfl, rfl, rfl, rfl, trivial⟩ ?_
      exact hk25 _ _ _ ⟨true, h, (Sto.Le.refl _), rfl, rfl⟩
    · replace h := (if_neg (ne_t hc)).mp h
      refine o_move rfl rfl rfl rfl ?_
      refine o_move rfl rfl rfl rfl ?_
      refine o_lenI rfl rfl rfl z_slT45 rfl hs19 ?_
      refine o_ibin (v := .bool (decide ((s14.2.1.length : Int) ≤ (IntKind.i64.wrap ((IntKind.i64.wrap q20) - 1))))) rfl rfl rfl rfl rfl rfl ?_
      refine o_pick rfl rfl rfl rfl rfl ?_
      refine st_end ?_
      refine st_env (ρ' := [(2, .slice none 0 0), (3, .int .i64 0), (4, v15), (5, v18), (6, .bool s14.2.2), (7, .int .i64 (IntKind.i64.wrap ((IntKind.i64.wrap q20) - 1))), (27, .bool (decide ((s14.2.1.length : Int) ≤ (IntKind.i64.wrap ((IntKind.i64.wrap q20) - 1)))))]) ⟨rfl, rfl, rfl, rfl, rfl, rfl, rfl, trivial⟩ ?_
      exact hk25 _ _ _ ⟨(decide ((s14.2.1.length : Int) ≤ (IntKind.i64.wrap ((IntKind.i64.wrap q20) - 1)))), h, (Sto.Le.refl _), rfl, rfl⟩
theorem lens_Lens_U8_ok {a0 : List Int × Int × Int} {ba0 : Nat} {v1 : Value} {r : Int × (List Int × Int × Int)} (h : lens_Lens_U8 a0 r) (σ : Sto) (hs2 : Sl (kI .u8) σ v1 a0.1) :
    Does Try.prog 85 [.pointer (some ⟨ba0, 0, none⟩)] σ [[(ba0, .cells [v1, .int .i64 a0.2.1, .int .i64 a0.2.2].toArray 140 (0, 0))]] (fun v τ gs => ∃ (v9 : Value), gs = [[(ba0, .cells [v9, .int .i64 r.2.2.1, .int .i64 r.2.2.2].toArray 140 (0, 0))]] ∧ .int .u8 r.1 = v ∧ Sl (kI .u8) τ v9 r.2.1) := by
  refine call_of Try.func85 Try.ntmps85 rfl rfl (fun cs fs => ?_)
  refine st_seq ?_
  refine st_region ?_
  refine o_assign rfl rfl rfl rfl ?_
  refine st_end ?_
  refine st_seq ?_
  refine st_region ?_
  refine o_move rfl rfl rfl rfl ?_
  obtain ⟨r3, hr4, h⟩ := h
  refine st_call (foot := [[(ba0, .cells [v1, .int .i64 a0.2.1, .int .i64 a0.2.2].toArray 140 (0, 0))]]) rfl rfl rfl rfl rfl rfl (callV_fn z_en81 (lens_Lens_word_ok hr4 σ hs2)) ?_
  rintro vτ5 τ5 gsτ5 hl6 ⟨v7, rfl, rfl, hs8⟩
  refine o_conv rfl rfl rfl Try.underlying22 Try.underlying5 rfl ?_
  refine o_assign rfl rfl rfl rfl ?_
  refine st_end ?_
  obtain rfl := Eq.symm h
  exact st_ret (gs' := [[(ba0, .cells [v7, .int .i64 r3.2.2.1, .int .i64 r3.2.2.2].toArray 140 (0, 0))]]) Try.func85 rfl (List.Sublist.refl _) hl6 ⟨_, rfl, rfl, hs8⟩
theorem lens_Lens_U32_ok {a0 : List Int × Int × Int} {ba0 : Nat} {v1 : Value} {r : Int × (List Int × Int × Int)} (h : lens_Lens_U32 a0 r) (σ : Sto) (hs2 : Sl (kI .u8) σ v1 a0.1) :
    Does Try.prog 86 [.pointer (some ⟨ba0, 0, none⟩)] σ [[(ba0, .cells [v1, .int .i64 a0.2.1, .int .i64 a0.2.2].toArray 140 (0, 0))]] (fun v τ gs => ∃ (v9 : Value), gs = [[(ba0, .cells [v9, .int .i64 r.2.2.1, .int .i64 r.2.2.2].toArray 140 (0, 0))]] ∧ .int .u32 r.1 = v ∧ Sl (kI .u8) τ v9 r.2.1) := by
  refine call_of Try.func86 Try.ntmps86 rfl rfl (fun cs fs => ?_)
  refine st_seq ?_
  refine st_region ?_
  refine o_assign rfl rfl rfl rfl ?_
  refine st_end ?_
  refine st_seq ?_
  refine st_region ?_
  refine o_move rfl rfl rfl rfl ?_
  obtain ⟨r3, hr4, h⟩ := h
  refine st_call (foot := [[(ba0, .cells [v1, .int .i64 a0.2.1, .int .i64 a0.2.2].toArray 140 (0, 0))]]) rfl rfl rfl rfl rfl rfl (callV_fn z_en81 (lens_Lens_word_ok hr4 σ hs2)) ?_
  rintro vτ5 τ5 gsτ5 hl6 ⟨v7, rfl, rfl, hs8⟩
  refine o_assign rfl rfl rfl rfl ?_
  refine st_end ?_
  obtain rfl := Eq.symm h
  exact st_ret (gs' := [[(ba0, .cells [v7, .int .i64 r3.2.2.1, .int .i64 r3.2.2.2].toArray 140 (0, 0))]]) Try.func86 rfl (List.Sublist.refl _) hl6 ⟨_, rfl, rfl, hs8⟩
theorem lens_Lens_End_ok {a0 : List Int × Int × Int} {ba0 : Nat} {v1 : Value} {r : Int} (h : lens_Lens_End a0 r) (σ : Sto) (hs2 : Sl (kI .u8) σ v1 a0.1) :
    Does Try.prog 87 [.pointer (some ⟨ba0, 0, none⟩)] σ [[(ba0, .cells [v1, .int .i64 a0.2.1, .int .i64 a0.2.2].toArray 140 (0, 0))]] (fun v τ gs => gs = [[(ba0, .cells [v1, .int .i64 a0.2.1, .int .i64 a0.2.2].toArray 140 (0, 0))]] ∧ .int .i64 r = v) := by
  refine call_of Try.func87 Try.ntmps87 rfl rfl (fun cs fs => ?_)
  refine st_seq ?_
  refine st_region ?_
  refine o_assign rfl rfl rfl rfl ?_
  refine st_end ?_
  refine st_seq ?_
  refine st_seq ?_
  refine st_region ?_
  refine o_move rfl rfl rfl rfl ?_
  obtain ⟨r3, hr4, h⟩ := h
  refine st_call (foot := [[(ba0, .cells [v1, .int .i64 a0.2.1, .int .i64 a0.2.2].toArray 140 (0, 0))]]) rfl rfl rfl rfl rfl rfl (callV_fn z_en79 (lens_Lens_Err_ok hr4 σ hs2)) ?_
  rintro vτ5 τ5 gsτ5 hl6 ⟨rfl, rfl⟩
  refine o_assign rfl rfl rfl rfl ?_
  refine st_end ?_
  refine st_seq ?_
  refine st_cut (fun ρ τ7 gs => ∃ (s7 : Bool), lens_Lens_End_j1 r3 s7 r ∧ τ5.Le τ7 ∧ ρ = [(2, .int .i64 0), (3, .int .i64 r3), (12, .bool s7)] ∧ gs = [[(ba0, .cells [v1, .int .i64 a0.2.1, .int .i64 a0.2.2].toArray 140 (0, 0))]]) ?_ (fun hk7 => ?_)
  · rintro ρ7 τ7 gs7 ⟨s7, h, hl7, rfl, rfl⟩
    refine st_cond rfl (fun hc => ?_) (fun hc => ?_)
    · replace h := (if_pos hc).mp h
      refine st_seq ?_
      refine st_region ?_
      refine o_move rfl rfl rfl rfl ?_
      refine o_assign rfl rfl rfl rfl ?_
      refine st_end ?_
      obtain rfl := Eq.symm h
      exact st_ret (gs' := [[(ba0, .cells [v1, .int .i64 a0.2.1, .int .i64 a0.2.2].toArray 140 (0, 0))]]) Try.func87 rfl (List.Sublist.refl _) (hl6.trans hl7) ⟨rfl, rfl⟩
    · replace h := (if_neg (ne_t hc)).mp h
      refine st_skip ?_
      refine st_seq ?_
      refine st_region ?_
      refine o_assign rfl rfl rfl rfl ?_
      refine st_end ?_
      obtain rfl := Eq.symm h
      exact st_ret (gs' := [[(ba0, .cells [v1, .int .i64 a0.2.1, .int .i64 a0.2.2].toArray 140 (0, 0))]]) Try.func87 rfl (List.Sublist.refl _) (hl6.trans hl7) ⟨rfl, rfl⟩
  refine st_region ?_
  refine o_move rfl rfl rfl rfl ?_
  refine o_ibin (v := .bool (!(decide (r3 = 0)))) rfl rfl rfl rfl rfl rfl ?_
  refine o_moveB rfl rfl rfl rfl (fun hc => ?_) (fun hc => ?_)
  · replace h := (if_pos hc).mp h
    refine st_pass rfl rfl rfl rfl rfl rfl ?_
    refine st_pass rfl rfl rfl rfl rfl rfl ?_
    refine st_pass rfl rfl rfl rfl rfl rfl ?_
    refine o_pick rfl rfl rfl rfl rfl ?_
    refine st_end ?_
    refine st_env (ρ' := [(2, .int .i64 0), (3, .int .i64 r3), (12, .bool true)]) ⟨rfl, rfl, rfl, trivial⟩ ?_
    exact hk7 _ _ _ ⟨true, h, (Sto.Le.refl _), rfl, rfl⟩
  · replace h := (if_neg (ne_t hc)).mp h
    refine o_move rfl rfl rfl rfl ?_
    obtain ⟨r8, hr9, h⟩ := h
    refine st_call (foot := [[(ba0, .cells [v1, .int .i64 a0.2.1, .int .i64 a0.2.2].toArray 140 (0, 0))]]) rfl rfl rfl rfl rfl rfl (callV_fn z_en80 (lens_Lens_Left_ok hr9 τ5 (hs2.up hl6))) ?_
    rintro vτ10 τ10 gsτ10 hl11 ⟨rfl, rfl⟩
    refine o_ibin (v := .bool (decide (r8 = 0))) rfl rfl rfl rfl rfl rfl ?_
    refine o_pick rfl rfl rfl rfl rfl ?_
    refine st_end ?_
    refine st_env (ρ' := [(2, .int .i64 0), (3, .int .i64 r3), (12, .bool (decide (r8 = 0)))]) ⟨rfl, rfl, rfl, trivial⟩ ?_
    exact hk7 _ _ _ ⟨(decide (r8 = 0)), h, hl11, rfl, rfl⟩
theorem head_Parse_ok {a0 : List Int} {v1 : Value} {r : (Int × Int × Int × Int × Int) × Int} (h : head_Parse a0 r) (σ : Sto) (hs2 : Sl (kI .u8) σ v1 a0) :
    Does Try.prog 62 [v1] σ [] (fun v τ gs => gs = [] ∧ .tuple [.agg [.int .i64 r.1.1, .int .i64 r.1.2.1, .int .u32 r.1.2.2.1, .int .i64 r.1.2.2.2.1, .int .i64 r.1.2.2.2.2].toArray, .int .i64 r.2].toArray = v) := by
  refine call_of Try.func62 Try.ntmps62 rfl rfl (fun cs fs => ?_)
  refine st_seq ?_
  refine st_region ?_
  refine o_alloc rfl rfl rfl z_zero44 (fun b3 => ?_)
  refine o_assign rfl rfl rfl rfl ?_
  refine st_end ?_
  refine st_seq ?_
  refine st_seq ?_
  refine st_region ?_
  refine o_move rfl rfl rfl rfl ?_
  refine o_lenI rfl rfl rfl z_slT45 rfl hs2 ?_
  refine o_ibin (v := .bool (decide ((a0.length : Int) < 8))) rfl rfl rfl rfl rfl rfl ?_
  refine st_end ?_
  refine st_cond rfl (fun hc => ?_) (fun hc => ?_)
  · replace h := (if_pos hc).mp h
    refine st_seq ?_
    refine st_region ?_
    refine o_build (ps := []) (cs := [.int .i64 0, .int .i64 0, .int .u32 0, .int .i64 0, .int .i64 0]) rfl rfl rfl z_struct44 trivial rfl ?_
    refine o_store (j := 0) (vs := [.int .i64 0, .int .i64 0, .int .u32 0, .int .i64 0, .int .i64 0]) (cs' := [.int .i64 0, .int .i64 0, .int .u32 0, .int .i64 0, .int .i64 0]) rfl rfl rfl z_size44 rfl rfl rfl (ones_cons rfl (ones_cons rfl (ones_cons rfl (ones_cons rfl (ones_cons rfl ones_nil))))) rfl rfl rfl ?_
    refine st_gs [[(b3, .cells [.int .i64 0, .int .i64 0, .int .u32 0, .int .i64 0, .int .i64 0].toArray 44 (0, 0))]] rfl ?_
    refine o_assign rfl rfl rfl rfl ?_
    refine st_end ?_
    obtain rfl := Eq.symm h
    exact st_retC (gs' := []) [.agg [.int .i64 0, .int .i64 0, .int .u32 0, .int .i64 0, .int .i64 0].toArray, .int .i64 13] Try.func62 ⟨⟨_, _, _, _, rfl, mem_flat 0 rfl, fun w hw => cellOfN (vs := [.int .i64 0, .int .i64 0, .int .u32 0, .int .i64 0, .int .i64 0]) z_agg44 rfl w hw⟩, rfl, trivial⟩ (by simp) (Sto.Le.refl _) ⟨rfl, rfl⟩
  · replace h := (if_neg (ne_t hc)).mp h
    refine st_skip ?_
    refine st_seq ?_
    refine st_region ?_
    refine o_move rfl rfl rfl rfl ?_
    obtain ⟨r4, hr5, h⟩ := h
    refine st_call (foot := []) rfl rfl rfl rfl rfl rfl (callV_fn z_en54 (lens_New_ok hr5 σ hs2)) ?_
    rintro vτ6 τ6 gsτ6 hl7 ⟨b8, v9, rfl, rfl, hs10⟩
    refine o_assign rfl rfl rfl rfl ?_
    refine st_end ?_
    refine st_seq ?_
    refine st_region ?_
    refine o_move rfl rfl rfl rfl ?_
    obtain ⟨r11, hr12, h⟩ := h
    refine st_call (foot := [[(b8, .cells [v9, .int .i64 r4.2.1, .int .i64 r4.2.2].toArray 140 (0, 0))]]) rfl rfl rfl rfl rfl rfl (callV_fn z_en85 (lens_Lens_U8_ok hr12 τ6 hs10)) ?_
    rintro vτ13 τ13 gsτ13 hl14 ⟨v15, rfl, rfl, hs16⟩
    refine o_conv rfl rfl rfl Try.underlying5 Try.underlying3 rfl ?_
    refine o_move rfl rfl rfl rfl ?_
    obtain ⟨r17, hr18, h⟩ := h
    refine st_call (foot := [[(b8, .cells [v15, .int .i64 r11.2.2.1, .int .i64 r11.2.2.2].toArray 140 (0, 0))]]) rfl rfl rfl rfl rfl rfl (callV_fn z_en85 (lens_Lens_U8_ok hr18 τ13 hs16)) ?_
    rintro vτ19 τ19 gsτ19 hl20 ⟨v21, rfl, rfl, hs22⟩
    refine o_conv rfl rfl rfl Try.underlying5 Try.underlying3 rfl ?_
    refine o_move rfl rfl rfl rfl ?_
    obtain ⟨r23, hr24, h⟩ := h
    refine st_call (foot := [[(b8, .cells [v21, .int .i64 r17.2.2.1, .int .i64 r17.2.2.2].toArray 140 (0, 0))]]) rfl rfl rfl rfl rfl rfl (callV_fn z_en86 (lens_Lens_U32_ok hr24 τ19 hs22)) ?_
    rintro vτ25 τ25 gsτ25 hl26 ⟨v27, rfl, rfl, hs28⟩
    refine o_move rfl rfl rfl rfl ?_
    obtain ⟨r29, hr30, h⟩ := h
    refine st_call (foot := [[(b8, .cells [v27, .int .i64 r23.2.2.1, .int .i64 r23.2.2.2].toArray 140 (0, 0))]]) rfl rfl rfl rfl rfl rfl (callV_fn z_en85 (lens_Lens_U8_ok hr30 τ25 hs28)) ?_
    rintro vτ31 τ31 gsτ31 hl32 ⟨v33, rfl, rfl, hs34⟩
    refine o_conv rfl rfl rfl Try.underlying5 Try.underlying3 rfl ?_
    refine o_move rfl rfl rfl rfl ?_
    obtain ⟨r35, hr36, h⟩ := h
    refine st_call (foot := [[(b8, .cells [v33, .int .i64 r29.2.2.1, .int .i64 r29.2.2.2].toArray 140 (0, 0))]]) rfl rfl rfl rfl rfl rfl (callV_fn z_en85 (lens_Lens_U8_ok hr36 τ31 hs34)) ?_
    rintro vτ37 τ37 gsτ37 hl38 ⟨v39, rfl, rfl, hs40⟩
    refine o_conv rfl rfl rfl Try.underlying5 Try.underlying3 rfl ?_
    refine o_build (ps := [(0, [.int .i64 (IntKind.i64.wrap r11.1)]), (1, [.int .i64 (IntKind.i64.wrap r17.1)]), (2, [.int .u32 r23.1]), (3, [.int .i64 (IntKind.i64.wrap r29.1)]), (4, [.int .i64 (IntKind.i64.wrap r35.1)])]) (cs := [.int .i64 (IntKind.i64.wrap r11.1), .int .i64 (IntKind.i64.wrap r17.1), .int .u32 r23.1, .int .i64 (IntKind.i64.wrap r29.1), .int .i64 (IntKind.i64.wrap r35.1)]) rfl rfl rfl z_struct44 ⟨rfl, ⟨_, rfl, rfl⟩, ⟨rfl, ⟨_, rfl, rfl⟩, ⟨rfl, ⟨_, rfl, rfl⟩, ⟨rfl, ⟨_, rfl, rfl⟩, ⟨rfl, ⟨_, rfl, rfl⟩, trivial⟩⟩⟩⟩⟩ rfl ?_
    refine o_alloc rfl rfl rfl z_zero44 (fun b41 => ?_)
    refine o_store (j := 0) (vs := [.int .i64 (IntKind.i64.wrap r11.1), .int .i64 (IntKind.i64.wrap r17.1), .int .u32 r23.1, .int .i64 (IntKind.i64.wrap r29.1), .int .i64 (IntKind.i64.wrap r35.1)]) (cs' := [.int .i64 (IntKind.i64.wrap r11.1), .int .i64 (IntKind.i64.wrap r17.1), .int .u32 r23.1, .int .i64 (IntKind.i64.wrap r29.1), .int .i64 (IntKind.i64.wrap r35.1)]) rfl rfl rfl z_size44 rfl rfl rfl (ones_cons rfl (ones_cons rfl (ones_cons rfl (ones_cons rfl (ones_cons rfl ones_nil))))) rfl rfl rfl ?_
    refine st_gs [[(b41, .cells [.int .i64 (IntKind.i64.wrap r11.1), .int .i64 (IntKind.i64.wrap r17.1), .int .u32 r23.1, .int .i64 (IntKind.i64.wrap r29.1), .int .i64 (IntKind.i64.wrap r35.1)].toArray 44 (0, 0))], [(b8, .cells [v39, .int .i64 r35.2.2.1, .int .i64 r35.2.2.2].toArray 140 (0, 0))], [(b3, .cells [.int .i64 0, .int .i64 0, .int .u32 0, .int .i64 0, .int .i64 0].toArray 44 (0, 0))]] rfl ?_
    refine st_end ?_
    refine st_seq ?_
    refine st_region ?_
    refine o_move rfl rfl rfl rfl ?_
    obtain ⟨r42, hr43, h⟩ := h
    refine st_ord [1, 0, 0] [[(b8, .cells [v39, .int .i64 r35.2.2.1, .int .i64 r35.2.2.2].toArray 140 (0, 0))], [(b41, .cells [.int .i64 (IntKind.i64.wrap r11.1), .int .i64 (IntKind.i64.wrap r17.1), .int .u32 r23.1, .int .i64 (IntKind.i64.wrap r29.1), .int .i64 (IntKind.i64.wrap r35.1)].toArray 44 (0, 0))], [(b3, .cells [.int .i64 0, .int .i64 0, .int .u32 0, .int .i64 0, .int .i64 0].toArray 44 (0, 0))]] rfl ?_
    refine st_call (foot := [[(b8, .cells [v39, .int .i64 r35.2.2.1, .int .i64 r35.2.2.2].toArray 140 (0, 0))]]) rfl rfl rfl rfl rfl rfl (callV_fn z_en87 (lens_Lens_End_ok hr43 τ37 hs40)) ?_
    rintro vτ44 τ44 gsτ44 hl45 ⟨rfl, rfl⟩
    refine o_assign rfl rfl rfl rfl ?_
    refine st_end ?_
    refine st_seq ?_
    refine st_cut (fun ρ τ46 gs => ∃ (s46 : Int), head_Parse_j1 r11 r17 r23 r29 r35 s46 r ∧ τ44.Le τ46 ∧ ρ = [(2, .pointer (some ⟨b3, 0, none⟩)), (3, .int .i64 0), (5, .pointer (some ⟨b41, 0, none⟩)), (6, .int .i64 s46)] ∧ gs = [[(b3, .cells [.int .i64 0, .int .i64 0, .int .u32 0, .int .i64 0, .int .i64 0].toArray 44 (0, 0))], [(b41, .cells [.int .i64 (IntKind.i64.wrap r11.1), .int .i64 (IntKind.i64.wrap r17.1), .int .u32 r23.1, .int .i64 (IntKind.i64.wrap r29.1), .int .i64 (IntKind.i64.wrap r35.1)].toArray 44 (0, 0))]]) ?_ (fun hk46 => ?_)
    · rintro ρ46 τ46 gs46 ⟨s46, h, hl46, rfl, rfl⟩
      refine st_seq ?_
      refine st_seq ?_
      refine st_region ?_
      refine o_move rfl rfl rfl rfl ?_
      refine o_ibin (v := .bool (!(decide (s46 = 0)))) rfl rfl rfl rfl rfl rfl ?_
      refine st_end ?_
      refine st_cond rfl (fun hc => ?_) (fun hc => ?_)
      · replace h := (if_pos hc).mp h
        refine st_seq ?_
        refine st_region ?_
        refine o_build (ps := []) (cs := [.int .i64 0, .int .i64 0, .int .u32 0, .int .i64 0, .int .i64 0]) rfl rfl rfl z_struct44 trivial rfl ?_
        refine o_move rfl rfl rfl rfl ?_
        refine o_store (j := 0) (vs := [.int .i64 0, .int .i64 0, .int .u32 0, .int .i64 0, .int .i64 0]) (cs' := [.int .i64 0, .int .i64 0, .int .u32 0, .int .i64 0, .int .i64 0]) rfl rfl rfl z_size44 rfl rfl rfl (ones_cons rfl (ones_cons rfl (ones_cons rfl (ones_cons rfl (ones_cons rfl ones_nil))))) rfl rfl rfl ?_
        refine st_gs [[(b3, .cells [.int .i64 0, .int .i64 0, .int .u32 0, .int .i64 0, .int .i64 0].toArray 44 (0, 0))], [(b41, .cells [.int .i64 (IntKind.i64.wrap r11.1), .int .i64 (IntKind.i64.wrap r17.1), .int .u32 r23.1, .int .i64 (IntKind.i64.wrap r29.1), .int .i64 (IntKind.i64.wrap r35.1)].toArray 44 (0, 0))]] rfl ?_
        refine o_assign rfl rfl rfl rfl ?_
        refine st_end ?_
        obtain rfl := Eq.symm h
        exact st_retC (gs' := []) [.agg [.int .i64 0, .int .i64 0, .int .u32 0, .int .i64 0, .int .i64 0].toArray, .int .i64 s46] Try.func62 ⟨⟨_, _, _, _, rfl, mem_flat 0 rfl, fun w hw => cellOfN (vs := [.int .i64 0, .int .i64 0, .int .u32 0, .int .i64 0, .int .i64 0]) z_agg44 rfl w hw⟩, rfl, trivial⟩ (by simp) (((((((hl7.trans hl14).trans hl20).trans hl26).trans hl32).trans hl38).trans hl45).trans hl46) ⟨rfl, rfl⟩
      · replace h := (if_neg (ne_t hc)).mp h
        refine st_skip ?_
        refine st_seq ?_
        refine st_region ?_
        refine o_loadN (j := 1) (vs := [.int .i64 (IntKind.i64.wrap r11.1), .int .i64 (IntKind.i64.wrap r17.1), .int .u32 r23.1, .int .i64 (IntKind.i64.wrap r29.1), .int .i64 (IntKind.i64.wrap r35.1)]) rfl rfl rfl z_agg44 rfl rfl rfl ?_
        refine o_store (j := 0) (vs := [.int .i64 (IntKind.i64.wrap r11.1), .int .i64 (IntKind.i64.wrap r17.1), .int .u32 r23.1, .int .i64 (IntKind.i64.wrap r29.1), .int .i64 (IntKind.i64.wrap r35.1)]) (cs' := [.int .i64 (IntKind.i64.wrap r11.1), .int .i64 (IntKind.i64.wrap r17.1), .int .u32 r23.1, .int .i64 (IntKind.i64.wrap r29.1), .int .i64 (IntKind.i64.wrap r35.1)]) rfl rfl rfl z_size44 rfl rfl rfl (ones_cons rfl (ones_cons rfl (ones_cons rfl (ones_cons rfl (ones_cons rfl ones_nil))))) rfl rfl rfl ?_
        refine st_gs [[(b3, .cells [.int .i64 (IntKind.i64.wrap r11.1), .int .i64 (IntKind.i64.wrap r17.1), .int .u32 r23.1, .int .i64 (IntKind.i64.wrap r29.1), .int .i64 (IntKind.i64.wrap r35.1)].toArray 44 (0, 0))], [(b41, .cells [.int .i64 (IntKind.i64.wrap r11.1), .int .i64 (IntKind.i64.wrap r17.1), .int .u32 r23.1, .int .i64 (IntKind.i64.wrap r29.1), .int .i64 (IntKind.i64.wrap r35.1)].toArray 44 (0, 0))]] rfl ?_
        refine o_assign rfl rfl rfl rfl ?_
        refine st_end ?_
        obtain rfl := Eq.symm h
        exact st_retC (gs' := []) [.agg [.int .i64 (IntKind.i64.wrap r11.1), .int .i64 (IntKind.i64.wrap r17.1), .int .u32 r23.1, .int .i64 (IntKind.i64.wrap r29.1), .int .i64 (IntKind.i64.wrap r35.1)].toArray, .int .i64 0] Try.func62 ⟨⟨_, _, _, _, rfl, mem_flat 0 rfl, fun w hw => cellOfN (vs := [.int .i64 (IntKind.i64.wrap r11.1), .int .i64 (IntKind.i64.wrap r17.1), .int .u32 r23.1, .int .i64 (IntKind.i64.wrap r29.1), .int .i64 (IntKind.i64.wrap r35.1)]) z_agg44 rfl w hw⟩, rfl, trivial⟩ (by simp) (((((((hl7.trans hl14).trans hl20).trans hl26).trans hl32).trans hl38).trans hl45).trans hl46) ⟨rfl, rfl⟩
    refine st_seq ?_
    refine st_region ?_
    refine o_move rfl rfl rfl rfl ?_
    refine o_ibin (v := .bool (decide (r42 = 0))) rfl rfl rfl rfl rfl rfl ?_
    refine st_end ?_
    refine st_cond rfl (fun hc => ?_) (fun hc => ?_)
    · replace h := (if_pos hc).mp h
      refine st_region ?_
      refine o_loadN (j := 1) (vs := [.int .i64 (IntKind.i64.wrap r11.1), .int .i64 (IntKind.i64.wrap r17.1), .int .u32 r23.1, .int .i64 (IntKind.i64.wrap r29.1), .int .i64 (IntKind.i64.wrap r35.1)]) rfl rfl rfl z_agg44 rfl rfl rfl ?_
      obtain ⟨r47, hr48, h⟩ := h
      refine st_call (foot := []) rfl rfl rfl rfl rfl rfl (callV_fn z_en50 (head_Check_ok hr48 τ44)) ?_
      rintro vτ49 τ49 gsτ49 hl50 ⟨rfl, rfl⟩
      refine o_assign rfl rfl rfl rfl ?_
      refine st_end ?_
      refine st_env (ρ' := [(2, .pointer (some ⟨b3, 0, none⟩)), (3, .int .i64 0), (5, .pointer (some ⟨b41, 0, none⟩)), (6, .int .i64 r47)]) ⟨rfl, rfl, rfl, rfl, trivial⟩ ?_
      refine st_ord [2, 1] [[(b3, .cells [.int .i64 0, .int .i64 0, .int .u32 0, .int .i64 0, .int .i64 0].toArray 44 (0, 0))], [(b41, .cells [.int .i64 (IntKind.i64.wrap r11.1), .int .i64 (IntKind.i64.wrap r17.1), .int .u32 r23.1, .int .i64 (IntKind.i64.wrap r29.1), .int .i64 (IntKind.i64.wrap r35.1)].toArray 44 (0, 0))]] rfl ?_
      exact hk46 _ _ _ ⟨r47, h, hl50, rfl, rfl⟩
    · replace h := (if_neg (ne_t hc)).mp h
      refine st_skip ?_
      refine st_env (ρ' := [(2, .pointer (some ⟨b3, 0, none⟩)), (3, .int .i64 0), (5, .pointer (some ⟨b41, 0, none⟩)), (6, .int .i64 r42)]) ⟨rfl, rfl, rfl, rfl, trivial⟩ ?_
      refine st_ord [2, 1] [[(b3, .cells [.int .i64 0, .int .i64 0, .int .u32 0, .int .i64 0, .int .i64 0].toArray 44 (0, 0))], [(b41, .cells [.int .i64 (IntKind.i64.wrap r11.1), .int .i64 (IntKind.i64.wrap r17.1), .int .u32 r23.1, .int .i64 (IntKind.i64.wrap r29.1), .int .i64 (IntKind.i64.wrap r35.1)].toArray 44 (0, 0))]] rfl ?_
      exact hk46 _ _ _ ⟨r42, h, (Sto.Le.refl _), rfl, rfl⟩
theorem frame_Codec_Unpack_ok {a0 : List Int} {a1 : List Int} {bi3 : Nat} {bi1 : Nat} {v5 : Value} {r : ((Int × Int × Int × Int × Int) × List Int) × Int} (h : frame_Codec_Unpack a0 a1 r) (σ : Sto) (hc4 : CelN σ ⟨bi3, 0, none⟩ (cellsN (Value.int .u32) 0 1024 a0)) (hc2 : CelN σ ⟨bi1, 0, none⟩ [.pointer (some ⟨bi3, 0, none⟩)]) (hs6 : Sl (kI .u8) σ v5 a1) :
    Does Try.prog 30 [.pointer (some ⟨bi1, 0, none⟩), v5] σ [] (fun v τ gs => ∃ (v33 : Value), gs = [] ∧ .tuple [.agg [.int .i64 r.1.1.1, .int .i64 r.1.1.2.1, .int .u32 r.1.1.2.2.1, .int .i64 r.1.1.2.2.2.1, .int .i64 r.1.1.2.2.2.2, v33].toArray, .int .i64 r.2].toArray = v ∧ Sl (kI .u8) τ v33 r.1.2) := by
  refine call_of Try.func30 Try.ntmps30 rfl rfl (fun cs fs => ?_)
  refine st_seq ?_
  refine st_region ?_
  refine o_alloc rfl rfl rfl z_zero47 (fun b7 => ?_)
  refine o_assign rfl rfl rfl rfl ?_
  refine st_end ?_
  refine st_seq ?_
  refine st_block ?_
  refine st_seq ?_
  refine st_region ?_
  refine o_move rfl rfl rfl rfl ?_
  refine o_ptrNil (b := false) rfl rfl rfl Try.underlying48 rfl rfl rfl ?_
  refine o_assign rfl rfl rfl rfl ?_
  refine st_end ?_
  refine st_condF rfl ?_
  refine st_seq ?_
  refine st_region ?_
  refine o_move rfl rfl rfl rfl ?_
  refine o_lenI rfl rfl rfl z_slT45 rfl hs6 ?_
  refine o_ibin (v := .bool (decide (255 < (a1.length : Int)))) rfl rfl rfl rfl rfl rfl ?_
  refine o_assign rfl rfl rfl rfl ?_
  refine st_end ?_
  refine st_cond rfl (fun hc => ?_) (fun hc => ?_)
  · replace h := (if_pos hc).mp h
    refine st_seq ?_
    refine st_region ?_
    refine o_build (ps := []) (cs := [.int .i64 0, .int .i64 0, .int .u32 0, .int .i64 0, .int .i64 0, .slice none 0 0]) rfl rfl rfl z_struct47 trivial rfl ?_
    refine o_store (j := 0) (vs := [.int .i64 0, .int .i64 0, .int .u32 0, .int .i64 0, .int .i64 0, .slice none 0 0]) (cs' := [.int .i64 0, .int .i64 0, .int .u32 0, .int .i64 0, .int .i64 0, .slice none 0 0]) rfl rfl rfl z_size47 rfl rfl rfl (ones_cons rfl (ones_cons rfl (ones_cons rfl (ones_cons rfl (ones_cons rfl (ones_cons rfl ones_nil)))))) rfl rfl rfl ?_
    refine st_gs [[(b7, .cells [.int .i64 0, .int .i64 0, .int .u32 0, .int .i64 0, .int .i64 0, .slice none 0 0].toArray 47 (0, 0))]] rfl ?_
    refine o_assign rfl rfl rfl rfl ?_
    refine st_end ?_
    obtain rfl := Eq.symm h
    exact st_retC (gs' := []) [.agg [.int .i64 0, .int .i64 0, .int .u32 0, .int .i64 0, .int .i64 0, .slice none 0 0].toArray, .int .i64 2] Try.func30 ⟨⟨_, _, _, _, rfl, mem_flat 0 rfl, fun w hw => cellOfN (vs := [.int .i64 0, .int .i64 0, .int .u32 0, .int .i64 0, .int .i64 0, .slice none 0 0]) z_agg47 rfl w hw⟩, rfl, trivial⟩ (by simp) (Sto.Le.refl _) ⟨_, rfl, rfl, Sl.nil⟩
  · replace h := (if_neg (ne_t hc)).mp h
    refine st_skip ?_
    refine st_inBlock ?_
    refine st_seq ?_
    refine st_region ?_
    refine o_move rfl rfl rfl rfl ?_
    obtain ⟨r8, hr9, h⟩ := h
    refine st_call (foot := []) rfl rfl rfl rfl rfl rfl (callV_fn z_en61 (cobs_Decode_ok hr9 σ hs6)) ?_
    rintro vτ10 τ10 gsτ10 hl11 ⟨v12, rfl, rfl, hs13⟩
    refine o_move rfl rfl rfl rfl ?_
    refine o_extract rfl rfl rfl rfl rfl ?_
    refine o_extract rfl rfl rfl rfl rfl ?_
    refine o_assign rfl rfl rfl rfl ?_
    refine o_assign rfl rfl rfl rfl ?_
    refine st_end ?_
    refine st_seq ?_
    refine st_block ?_
    refine st_seq ?_
    refine st_region ?_
    refine o_move rfl rfl rfl rfl ?_
    refine o_ibin (v := .bool (!(decide (r8.2 = 0)))) rfl rfl rfl rfl rfl rfl ?_
    refine o_assign rfl rfl rfl rfl ?_
    refine st_end ?_
    refine st_cond rfl (fun hc => ?_) (fun hc => ?_)
    · replace h := (if_pos hc).mp h
      refine st_seq ?_
      refine st_region ?_
      refine o_build (ps := []) (cs := [.int .i64 0, .int .i64 0, .int .u32 0, .int .i64 0, .int .i64 0, .slice none 0 0]) rfl rfl rfl z_struct47 trivial rfl ?_
      refine o_move rfl rfl rfl rfl ?_
      refine o_store (j := 0) (vs := [.int .i64 0, .int .i64 0, .int .u32 0, .int .i64 0, .int .i64 0, .slice none 0 0]) (cs' := [.int .i64 0, .int .i64 0, .int .u32 0, .int .i64 0, .int .i64 0, .slice none 0 0]) rfl rfl rfl z_size47 rfl rfl rfl (ones_cons rfl (ones_cons rfl (ones_cons rfl (ones_cons rfl (ones_cons rfl (ones_cons rfl ones_nil)))))) rfl rfl rfl ?_
      refine st_gs [[(b7, .cells [.int .i64 0, .int .i64 0, .int .u32 0, .int .i64 0, .int .i64 0, .slice none 0 0].toArray 47 (0, 0))]] rfl ?_
      refine o_assign rfl rfl rfl rfl ?_
      refine st_end ?_
      obtain rfl := Eq.symm h
      exact st_retC (gs' := []) [.agg [.int .i64 0, .int .i64 0, .int .u32 0, .int .i64 0, .int .i64 0, .slice none 0 0].toArray, .int .i64 r8.2] Try.func30 ⟨⟨_, _, _, _, rfl, mem_flat 0 rfl, fun w hw => cellOfN (vs := [.int .i64 0, .int .i64 0, .int .u32 0, .int .i64 0, .int .i64 0, .slice none 0 0]) z_agg47 rfl w hw⟩, rfl, trivial⟩ (by simp) hl11 ⟨_, rfl, rfl, Sl.nil⟩
    · replace h := (if_neg (ne_t hc)).mp h
      refine st_seq ?_
      refine st_region ?_
      refine o_move rfl rfl rfl rfl ?_
      refine o_lenI rfl rfl rfl z_slT45 rfl hs13 ?_
      refine o_ibin (v := .bool (decide ((r8.1.length : Int) ≤ 12))) rfl rfl rfl rfl rfl rfl ?_
      refine o_assign rfl rfl rfl rfl ?_
      refine st_end ?_
      refine st_cond rfl (fun hc => ?_) (fun hc => ?_)
      · replace h := (if_pos hc).mp h
        refine st_seq ?_
        refine st_region ?_
        refine o_build (ps := []) (cs := [.int .i64 0, .int .i64 0, .int .u32 0, .int .i64 0, .int .i64 0, .slice none 0 0]) rfl rfl rfl z_struct47 trivial rfl ?_
        refine o_store (j := 0) (vs := [.int .i64 0, .int .i64 0, .int .u32 0, .int .i64 0, .int .i64 0, .slice none 0 0]) (cs' := [.int .i64 0, .int .i64 0, .int .u32 0, .int .i64 0, .int .i64 0, .slice none 0 0]) rfl rfl rfl z_size47 rfl rfl rfl (ones_cons rfl (ones_cons rfl (ones_cons rfl (ones_cons rfl (ones_cons rfl (ones_cons rfl ones_nil)))))) rfl rfl rfl ?_
        refine st_gs [[(b7, .cells [.int .i64 0, .int .i64 0, .int .u32 0, .int .i64 0, .int .i64 0, .slice none 0 0].toArray 47 (0, 0))]] rfl ?_
        refine o_assign rfl rfl rfl rfl ?_
        refine st_end ?_
        obtain rfl := Eq.symm h
        exact st_retC (gs' := []) [.agg [.int .i64 0, .int .i64 0, .int .u32 0, .int .i64 0, .int .i64 0, .slice none 0 0].toArray, .int .i64 13] Try.func30 ⟨⟨_, _, _, _, rfl, mem_flat 0 rfl, fun w hw => cellOfN (vs := [.int .i64 0, .int .i64 0, .int .u32 0, .int .i64 0, .int .i64 0, .slice none 0 0]) z_agg47 rfl w hw⟩, rfl, trivial⟩ (by simp) hl11 ⟨_, rfl, rfl, Sl.nil⟩
      · replace h := (if_neg (ne_t hc)).mp h
        refine st_skip ?_
        refine st_inBlock ?_
        refine st_seq ?_
        refine st_seq ?_
        refine st_region ?_
        refine o_move rfl rfl rfl rfl ?_
        refine o_nilCheck rfl rfl rfl rfl ?_
        refine o_fieldAddr rfl rfl rfl z_field97_0 rfl ?_
        refine o_loadI (v := .pointer (some ⟨bi3, 0, none⟩)) rfl rfl rfl z_sc94 rfl ((hc2.up hl11) 0 _ rfl) ?_
        refine o_move rfl rfl rfl rfl ?_
        obtain ⟨r14, hr15, h⟩ := h
        refine st_call (foot := []) rfl rfl rfl rfl rfl rfl (callV_fn z_en53 (crc_Open_ok hr15 τ10 (hc4.up hl11) hs13)) ?_
        rintro vτ16 τ16 gsτ16 hl17 ⟨v18, rfl, rfl, hs19⟩
        refine o_move rfl rfl rfl rfl ?_
        refine o_extract rfl rfl rfl rfl rfl ?_
        refine o_extract rfl rfl rfl rfl rfl ?_
        refine o_assign rfl rfl rfl rfl ?_
        refine o_assign rfl rfl rfl rfl ?_
        refine st_end ?_
        refine st_seq ?_
        refine st_region ?_
        refine o_move rfl rfl rfl rfl ?_
        refine o_ibin (v := .bool (!(decide (r14.2 = 0)))) rfl rfl rfl rfl rfl rfl ?_
        refine st_end ?_
        refine st_cond rfl (fun hc => ?_) (fun hc => ?_)
        · replace h := (if_pos hc).mp h
          refine st_seq ?_
          refine st_region ?_
          refine o_build (ps := []) (cs := [.int .i64 0, .int .i64 0, .int .u32 0, .int .i64 0, .int .i64 0, .slice none 0 0]) rfl rfl rfl z_struct47 trivial rfl ?_
          refine o_move rfl rfl rfl rfl ?_
          refine o_store (j := 0) (vs := [.int .i64 0, .int .i64 0, .int .u32 0, .int .i64 0, .int .i64 0, .slice none 0 0]) (cs' := [.int .i64 0, .int .i64 0, .int .u32 0, .int .i64 0, .int .i64 0, .slice none 0 0]) rfl rfl rfl z_size47 rfl rfl rfl (ones_cons rfl (ones_cons rfl (ones_cons rfl (ones_cons rfl (ones_cons rfl (ones_cons rfl ones_nil)))))) rfl rfl rfl ?_
          refine st_gs [[(b7, .cells [.int .i64 0, .int .i64 0, .int .u32 0, .int .i64 0, .int .i64 0, .slice none 0 0].toArray 47 (0, 0))]] rfl ?_
          refine o_assign rfl rfl rfl rfl ?_
          refine st_end ?_
          obtain rfl := Eq.symm h
          exact st_retC (gs' := []) [.agg [.int .i64 0, .int .i64 0, .int .u32 0, .int .i64 0, .int .i64 0, .slice none 0 0].toArray, .int .i64 r14.2] Try.func30 ⟨⟨_, _, _, _, rfl, mem_flat 0 rfl, fun w hw => cellOfN (vs := [.int .i64 0, .int .i64 0, .int .u32 0, .int .i64 0, .int .i64 0, .slice none 0 0]) z_agg47 rfl w hw⟩, rfl, trivial⟩ (by simp) (hl11.trans hl17) ⟨_, rfl, rfl, Sl.nil⟩
        · replace h := (if_neg (ne_t hc)).mp h
          refine st_skip ?_
          refine st_seq ?_
          refine st_region ?_
          refine o_move rfl rfl rfl rfl ?_
          obtain ⟨hf20, h⟩ := h
          refine o_slice (L := 0) (H := 8) rfl rfl rfl z_slT45 rfl rfl hs19 rfl ⟨_, rfl⟩ (by decide) (by decide) hf20 trivial (by simp) (fun v21 hs22 => ?_)
          obtain ⟨r23, hr24, h⟩ := h
          refine st_call (foot := []) rfl rfl rfl rfl rfl rfl (callV_fn z_en62 (head_Parse_ok hr24 τ16 hs22)) ?_
          rintro vτ25 τ25 gsτ25 hl26 ⟨rfl, rfl⟩
          refine o_move rfl rfl rfl rfl ?_
          refine o_extract rfl rfl rfl rfl rfl ?_
          refine o_extract rfl rfl rfl rfl rfl ?_
          refine o_alloc rfl rfl rfl z_zero44 (fun b27 => ?_)
          refine o_store (j := 0) (vs := [.int .i64 r23.1.1, .int .i64 r23.1.2.1, .int .u32 r23.1.2.2.1, .int .i64 r23.1.2.2.2.1, .int .i64 r23.1.2.2.2.2]) (cs' := [.int .i64 r23.1.1, .int .i64 r23.1.2.1, .int .u32 r23.1.2.2.1, .int .i64 r23.1.2.2.2.1, .int .i64 r23.1.2.2.2.2]) rfl rfl rfl z_size44 rfl rfl rfl (ones_cons rfl (ones_cons rfl (ones_cons rfl (ones_cons rfl (ones_cons rfl ones_nil))))) rfl rfl rfl ?_
          refine st_gs [[(b27, .cells [.int .i64 r23.1.1, .int .i64 r23.1.2.1, .int .u32 r23.1.2.2.1, .int .i64 r23.1.2.2.2.1, .int .i64 r23.1.2.2.2.2].toArray 44 (0, 0))], [(b7, .cells [.int .i64 0, .int .i64 0, .int .u32 0, .int .i64 0, .int .i64 0, .slice none 0 0].toArray 47 (0, 0))]] rfl ?_
          refine o_assign rfl rfl rfl rfl ?_
          refine st_end ?_
          refine st_seq ?_
          refine st_seq ?_
          refine st_region ?_
          refine o_move rfl rfl rfl rfl ?_
          refine o_ibin (v := .bool (!(decide (r23.2 = 0)))) rfl rfl rfl rfl rfl rfl ?_
          refine st_end ?_
          refine st_cond rfl (fun hc => ?_) (fun hc => ?_)
          · replace h := (if_pos hc).mp h
            refine st_seq ?_
            refine st_region ?_
            refine o_build (ps := []) (cs := [.int .i64 0, .int .i64 0, .int .u32 0, .int .i64 0, .int .i64 0, .slice none 0 0]) rfl rfl rfl z_struct47 trivial rfl ?_
            refine o_move rfl rfl rfl rfl ?_
            refine o_store (j := 1) (vs := [.int .i64 0, .int .i64 0, .int .u32 0, .int .i64 0, .int .i64 0, .slice none 0 0]) (cs' := [.int .i64 0, .int .i64 0, .int .u32 0, .int .i64 0, .int .i64 0, .slice none 0 0]) rfl rfl rfl z_size47 rfl rfl rfl (ones_cons rfl (ones_cons rfl (ones_cons rfl (ones_cons rfl (ones_cons rfl (ones_cons rfl ones_nil)))))) rfl rfl rfl ?_
            refine st_gs [[(b27, .cells [.int .i64 r23.1.1, .int .i64 r23.1.2.1, .int .u32 r23.1.2.2.1, .int .i64 r23.1.2.2.2.1, .int .i64 r23.1.2.2.2.2].toArray 44 (0, 0))], [(b7, .cells [.int .i64 0, .int .i64 0, .int .u32 0, .int .i64 0, .int .i64 0, .slice none 0 0].toArray 47 (0, 0))]] rfl ?_
            refine o_assign rfl rfl rfl rfl ?_
            refine st_end ?_
            obtain rfl := Eq.symm h
            exact st_retC (gs' := []) [.agg [.int .i64 0, .int .i64 0, .int .u32 0, .int .i64 0, .int .i64 0, .slice none 0 0].toArray, .int .i64 r23.2] Try.func30 ⟨⟨_, _, _, _, rfl, mem_flat 1 rfl, fun w hw => cellOfN (vs := [.int .i64 0, .int .i64 0, .int .u32 0, .int .i64 0, .int .i64 0, .slice none 0 0]) z_agg47 rfl w hw⟩, rfl, trivial⟩ (by simp) ((hl11.trans hl17).trans hl26) ⟨_, rfl, rfl, Sl.nil⟩
          · replace h := (if_neg (ne_t hc)).mp h
            refine st_skip ?_
            refine st_seq ?_
            obtain ⟨hf28, h⟩ := h
            obtain ⟨hf29, h⟩ := h
            refine st_draw 4 (tl [fun τ v => (.agg [.int .i64 r23.1.1, .int .i64 r23.1.2.1, .int .u32 r23.1.2.2.1, .int .i64 r23.1.2.2.2.1, .int .i64 r23.1.2.2.2.2].toArray : Value) = v,
    fun τ v => (v18 : Value) = v,
    fun τ v => ∃ (v30 : Value), (v30 : Value) = v ∧ Sl (kI .u8) τ v30 ((r14.1.drop (8 : Int).toNat).take (((r14.1.length : Int) : Int) - 8).toNat),
    fun τ v => ∃ (v30 : Value), (.agg [.int .i64 r23.1.1, .int .i64 r23.1.2.1, .int .u32 r23.1.2.2.1, .int .i64 r23.1.2.2.2.1, .int .i64 r23.1.2.2.2.2, v30].toArray : Value) = v ∧ Sl (kI .u8) τ v30 ((r14.1.drop (8 : Int).toNat).take (((r14.1.length : Int) : Int) - 8).toNat)]) (fun _ _ => []) z_mix rfl (tl_mono ⟨fun _ _ _ _ h => h, ⟨fun _ _ _ _ h => h, ⟨fun _ _ _ hl ⟨v30, hv, hs31⟩ => ⟨v30, hv, hs31.up hl⟩, ⟨fun _ _ _ hl ⟨v30, hv, hs31⟩ => ⟨v30, hv, hs31.up hl⟩, trivial⟩⟩⟩⟩) (allB_cons (allB_cons (allB_cons (allB_cons allB_nil ?_) ?_) ?_) ?_) ?_
            · intro ρ' τ pool rs hl hd hout hk
              refine o_loadN (j := 0) (vs := [.int .i64 r23.1.1, .int .i64 r23.1.2.1, .int .u32 r23.1.2.2.1, .int .i64 r23.1.2.2.2.1, .int .i64 r23.1.2.2.2.2]) rfl rfl rfl z_agg44 ((hout 8 rfl).trans rfl) rfl rfl ?_
              exact st_addNil (hk _ _ (Sto.Le.refl _) rfl)
            · intro ρ' τ pool rs hl hd hout hk
              refine o_move rfl rfl rfl ((hout 6 rfl).trans rfl) ?_
              exact st_addNil (hk _ _ (Sto.Le.refl _) rfl)
            · intro ρ' τ pool rs hl hd hout hk
              obtain ⟨_, e1, rfl⟩ := hd 1 rfl
              refine o_slice (L := 8) (H := (r14.1.length : Int)) rfl rfl rfl z_slT45 rfl e1 (hs19.up (hl26.trans hl)) ⟨_, rfl⟩ rfl (by decide) hf28 hf29 trivial (by simp) (fun v30 hs31 => ?_)
              exact st_addNil (hk _ _ (Sto.Le.refl _) ⟨v30, rfl, hs31⟩)
            · intro ρ' τ pool rs hl hd hout hk
              obtain ⟨_, e0, rfl⟩ := hd 0 rfl
              obtain ⟨_, e2, v30, rfl, hs31⟩ := hd 2 rfl
              refine o_build (ps := [(0, [.int .i64 r23.1.1, .int .i64 r23.1.2.1, .int .u32 r23.1.2.2.1, .int .i64 r23.1.2.2.2.1, .int .i64 r23.1.2.2.2.2]), (1, [v30])]) (cs := [.int .i64 r23.1.1, .int .i64 r23.1.2.1, .int .u32 r23.1.2.2.1, .int .i64 r23.1.2.2.2.1, .int .i64 r23.1.2.2.2.2, v30]) rfl rfl rfl z_struct47 ⟨rfl, ⟨_, e0, rfl⟩, ⟨rfl, ⟨_, e2, (oneL_sl hs31)⟩, trivial⟩⟩ rfl ?_
              exact st_addNil (hk _ _ (Sto.Le.refl _) ⟨v30, rfl, hs31⟩)
            intro ρ' τ32 vals hl32 hv hout
            obtain ⟨l3, v30, t3, hs31⟩ := hv 3 (by decide)
            replace l3 : Eng.look ρ' 59 = some (.agg [.int .i64 r23.1.1, .int .i64 r23.1.2.1, .int .u32 r23.1.2.2.1, .int .i64 r23.1.2.2.2.1, .int .i64 r23.1.2.2.2.2, v30].toArray) := l3.trans (congrArg some (Eq.symm t3))
            refine st_ord [0, 0] [[(b27, .cells [.int .i64 r23.1.1, .int .i64 r23.1.2.1, .int .u32 r23.1.2.2.1, .int .i64 r23.1.2.2.2.1, .int .i64 r23.1.2.2.2.2].toArray 44 (0, 0))], [(b7, .cells [.int .i64 0, .int .i64 0, .int .u32 0, .int .i64 0, .int .i64 0, .slice none 0 0].toArray 47 (0, 0))]] rfl ?_
            refine st_env (ρ' := [(59, .agg [.int .i64 r23.1.1, .int .i64 r23.1.2.1, .int .u32 r23.1.2.2.1, .int .i64 r23.1.2.2.2.1, .int .i64 r23.1.2.2.2.2, v30].toArray), (4, .pointer (some ⟨b7, 0, none⟩)), (5, .int .i64 0)]) ⟨l3, (hout 4 rfl).trans rfl, (hout 5 rfl).trans rfl, trivial⟩ ?_
            refine o_store (j := 1) (vs := [.int .i64 r23.1.1, .int .i64 r23.1.2.1, .int .u32 r23.1.2.2.1, .int .i64 r23.1.2.2.2.1, .int .i64 r23.1.2.2.2.2, v30]) (cs' := [.int .i64 r23.1.1, .int .i64 r23.1.2.1, .int .u32 r23.1.2.2.1, .int .i64 r23.1.2.2.2.1, .int .i64 r23.1.2.2.2.2, v30]) rfl rfl rfl z_size47 rfl rfl rfl (ones_cons rfl (ones_cons rfl (ones_cons rfl (ones_cons rfl (ones_cons rfl (ones_cons hs31.one' ones_nil)))))) rfl rfl rfl ?_
            refine st_gs [[(b27, .cells [.int .i64 r23.1.1, .int .i64 r23.1.2.1, .int .u32 r23.1.2.2.1, .int .i64 r23.1.2.2.2.1, .int .i64 r23.1.2.2.2.2].toArray 44 (0, 0))], [(b7, .cells [.int .i64 r23.1.1, .int .i64 r23.1.2.1, .int .u32 r23.1.2.2.1, .int .i64 r23.1.2.2.2.1, .int .i64 r23.1.2.2.2.2, v30].toArray 47 (0, 0))]] rfl ?_
            refine o_assign rfl rfl rfl rfl ?_
            refine st_end ?_
            obtain rfl := Eq.symm h
            exact st_retC (gs' := []) [.agg [.int .i64 r23.1.1, .int .i64 r23.1.2.1, .int .u32 r23.1.2.2.1, .int .i64 r23.1.2.2.2.1, .int .i64 r23.1.2.2.2.2, v30].toArray, .int .i64 0] Try.func30 ⟨⟨_, _, _, _, rfl, mem_flat 1 rfl, fun w hw => cellOfN (vs := [.int .i64 r23.1.1, .int .i64 r23.1.2.1, .int .u32 r23.1.2.2.1, .int .i64 r23.1.2.2.2.1, .int .i64 r23.1.2.2.2.2, v30]) z_agg47 rfl w hw⟩, rfl, trivial⟩ (by simp) (((hl11.trans hl17).trans hl26).trans hl32) ⟨_, rfl, rfl, hs31⟩
theorem ref05_Blocks_ok {a0 : List Int} {v1 : Value} {r : List (List Int)} (h : ref05_Blocks a0 r) (σ : Sto) (hs2 : Sl (kI .u8) σ v1 a0) :
    Does Try.prog 105 [v1] σ [] (fun v τ gs => ∃ (v94 : Value), gs = [] ∧ v94 = v ∧ Sl (kSl (kI .u8)) τ v94 r) := by
  refine call_of Try.func105 Try.ntmps105 rfl rfl (fun cs fs => ?_)
  refine st_seq ?_
  refine st_region ?_
  refine o_assign rfl rfl rfl rfl ?_
  refine st_end ?_
  refine st_seq ?_
  refine st_region ?_
  refine o_assign rfl rfl rfl rfl ?_
  refine st_end ?_
  refine st_seq ?_
  refine st_region ?_
  refine o_assign rfl rfl rfl rfl ?_
  refine st_end ?_
  refine st_seq ?_
  refine st_region ?_
  refine o_assign rfl rfl rfl rfl ?_
  refine st_end ?_
  refine st_seq ?_
  refine st_cut (fun ρ τ3 gs => ∃ (s3 : List (List Int) × List Int × Bool) (v4 : Value) (g5 : Grp) (v7 : Value) (g8 : Grp), ref05_Blocks_j1 s3 r ∧ σ.Le τ3 ∧ ρ = [(2, .slice none 0 0), (3, v4), (4, v7), (5, .bool s3.2.2)] ∧ gs = [g5, g8] ∧ Ow (kSl (kI .u8)) 45 τ3 v4 s3.1 g5 ∧ Ow (kI .u8) 5 τ3 v7 s3.2.1 g8) ?_ (fun hk3 => ?_)
  · rintro ρ3 τ3 gs3 ⟨s3, v4, g5, v7, g8, h, hl3, rfl, rfl, ho6, ho9⟩
    refine st_seq ?_
    refine st_cut (fun ρ τ10 gs => ∃ (s10 : List (List Int)) (v11 : Value) (g12 : Grp), ref05_Blocks_j2 s10 r ∧ τ3.Le τ10 ∧ ρ = [(2, .slice none 0 0), (3, v11)] ∧ gs = [g12] ∧ Ow (kSl (kI .u8)) 45 τ10 v11 s10 g12) ?_ (fun hk10 => ?_)
    · rintro ρ10 τ10 gs10 ⟨s10, v11, g12, h, hl10, rfl, rfl, ho13⟩
      refine st_seq ?_
      refine st_region ?_
      refine o_move rfl rfl rfl rfl ?_
      refine o_assign rfl rfl rfl rfl ?_
      refine st_end ?_
      refine st_freeze (fun τ14 hl15 hg16 => ?_)
      have hs17 := ho13.freeze hl15 hg16
      obtain rfl := Eq.symm h
      exact st_ret (gs' := []) Try.func105 rfl (List.Sublist.refl _) ((hl3.trans hl10).trans hl15) ⟨_, rfl, rfl, hs17⟩
    refine st_seq ?_
    refine st_region ?_
    refine o_move rfl rfl rfl rfl ?_
    refine o_not rfl rfl rfl rfl ?_
    refine st_end ?_
    refine st_cond rfl (fun hc => ?_) (fun hc => ?_)
    · replace h := (if_pos hc).mp h
      refine st_region ?_
      refine o_move rfl rfl rfl rfl ?_
      refine o_move rfl rfl rfl rfl ?_
      refine st_ord [1, 0] [g8, g5] rfl ?_
      refine st_freeze (fun τ20 hl21 hg22 => ?_)
      have hs23 := ho9.freeze hl21 hg22
      refine o_lit (dk := (kSl (kI .u8))) (xs := [s3.2.1]) (ps := [(0, [v7])]) (cs := [v7]) rfl rfl rfl z_slT100 z_zero45 ⟨rfl, ⟨_, rfl, (oneL_sl hs23)⟩, trivial⟩ rfl rfl rfl rfl (Kd.Many.cons (a := [v7]) ⟨_, rfl, hs23⟩ Kd.Many.nil) (fun v25 g26 ho27 => ?_)
      obtain ⟨hf31, h⟩ := h
      obtain ⟨hf32, h⟩ := h
      refine st_ord [1, 0] [g5, g26] rfl ?_
      refine o_append (dk := (kSl (kI .u8))) (xs := s3.1) (ys := [s3.2.1]) rfl rfl rfl rfl z_slT100 rfl (ho6.up hl21) rfl (Ow.src (j := 1) ho27 rfl) hf31 hf32 (fun v28 g29 ho30 => ?_)
      refine o_assign rfl rfl rfl rfl ?_
      refine st_end ?_
      refine st_env (ρ' := [(2, .slice none 0 0), (3, v28)]) ⟨rfl, rfl, trivial⟩ ?_
      refine st_ord [0] [g29] rfl ?_
      exact hk10 _ _ _ ⟨(s3.1 ++ [s3.2.1]), _, _, h, hl21, rfl, rfl, ho30⟩
    · replace h := (if_neg (ne_t hc)).mp h
      refine st_skip ?_
      refine st_env (ρ' := [(2, .slice none 0 0), (3, v4)]) ⟨rfl, rfl, trivial⟩ ?_
      refine st_ord [0] [g5] rfl ?_
      exact hk10 _ _ _ ⟨s3.1, _, _, h, (Sto.Le.refl _), rfl, rfl, ho6⟩
  refine st_seq ?_
  refine st_region ?_
  refine o_assign rfl rfl rfl rfl ?_
  refine st_end ?_
  obtain ⟨e33, hL33, hA33⟩ := h
  refine st_env (ρ' := [(0, v1), (2, .slice none 0 0), (3, .slice none 0 0), (4, .slice none 0 0), (5, .bool false), (6, .int .i64 0)]) ⟨rfl, rfl, rfl, rfl, rfl, rfl, trivial⟩ ?_
  refine st_addNil ?_
  refine st_addNil ?_
  refine st_loop hL33 (fun (s33 : List (List Int) × List Int × Bool × Int) ρ τ33 gs => σ.Le τ33 ∧ ∃ (v34 : Value) (g35 : Grp) (v37 : Value) (g38 : Grp), ρ = [(0, v1), (2, .slice none 0 0), (3, v34), (4, v37), (5, .bool s33.2.2.1), (6, .int .i64 s33.2.2.2)] ∧ gs = [g35, g38] ∧ Ow (kSl (kI .u8)) 45 τ33 v34 s33.1 g35 ∧ Ow (kI .u8) 5 τ33 v37 s33.2.1 g38) ⟨Sto.Le.refl _, _, _, _, _, rfl, rfl, Ow.nil, Ow.nil⟩ ?_
  rintro s33 o33 h he33 ρ33 τ33 gs33 ⟨hl33, v34, g35, v37, g38, rfl, rfl, ho36, ho39⟩ hn33
  refine st_seq ?_
  refine st_seq ?_
  refine st_region ?_
  refine o_move rfl rfl rfl rfl ?_
  refine o_move rfl rfl rfl rfl ?_
  refine o_lenI rfl rfl rfl z_slT45 rfl (hs2.up hl33) ?_
  refine o_ibin (v := .bool (decide (s33.2.2.2 < (a0.length : Int)))) rfl rfl rfl rfl rfl rfl ?_
  refine st_end ?_
  refine st_cond rfl (fun hc => ?_) (fun hc => ?_)
  · replace h := (if_pos hc).mp h
    refine st_skip ?_
    refine st_seq ?_
    refine st_cut (fun ρ τ40 gs => ∃ (s40 : List (List Int) × List Int × Bool) (v41 : Value) (g42 : Grp) (v44 : Value) (g45 : Grp), ref05_Blocks_j4 s33 s40 o33 ∧ τ33.Le τ40 ∧ ρ = [(0, v1), (2, .slice none 0 0), (3, v41), (4, v44), (5, .bool s40.2.2), (6, .int .i64 s33.2.2.2)] ∧ gs = [g42, g45] ∧ Ow (kSl (kI .u8)) 45 τ40 v41 s40.1 g42 ∧ Ow (kI .u8) 5 τ40 v44 s40.2.1 g45) ?_ (fun hk40 => ?_)
    · rintro ρ40 τ40 gs40 ⟨s40, v41, g42, v44, g45, h, hl40, rfl, rfl, ho43, ho46⟩
      refine st_region ?_
      refine o_move rfl rfl rfl rfl ?_
      refine o_ibin (v := .int .i64 (IntKind.i64.wrap (s33.2.2.2 + 1))) rfl rfl rfl rfl rfl rfl ?_
      refine o_assign rfl rfl rfl rfl ?_
      refine st_end ?_
      refine st_env (ρ' := [(0, v1), (2, .slice none 0 0), (3, v41), (4, v44), (5, .bool s40.2.2), (6, .int .i64 (IntKind.i64.wrap (s33.2.2.2 + 1)))]) ⟨rfl, rfl, rfl, rfl, rfl, rfl, trivial⟩ ?_
      exact hn33 _ _ _ _ h ⟨(hl33.trans hl40), _, _, _, _, rfl, rfl, ho43, ho46⟩
    refine st_block ?_
    refine st_seq ?_
    refine st_region ?_
    refine o_assign rfl rfl rfl rfl ?_
    refine st_end ?_
    refine st_seq ?_
    refine st_seq ?_
    refine st_region ?_
    refine o_move rfl rfl rfl rfl ?_
    refine o_move rfl rfl rfl rfl ?_
    obtain ⟨q47, hf48, h⟩ := h
    refine o_index rfl rfl rfl z_slT45 rfl rfl (hs2.up hl33) rfl hf48 (fun b49 of50 vs hc51 hrep => ?_)
    obtain rfl := hrep
    refine o_loadI (v := .int .u8 q47) rfl rfl rfl z_sc5 rfl (hc51 0 _ rfl) ?_
    refine o_ibin (v := .bool (decide (q47 = 0))) rfl rfl rfl rfl rfl rfl ?_
    refine st_end ?_
    refine st_cond rfl (fun hc => ?_) (fun hc => ?_)
    · replace h := (if_pos hc).mp h
      refine st_seq ?_
      refine st_region ?_
      refine o_move rfl rfl rfl rfl ?_
      refine o_move rfl rfl rfl rfl ?_
      refine st_ord [1, 0] [g38, g35] rfl ?_
      refine st_freeze (fun τ52 hl53 hg54 => ?_)
      have hs55 := ho39.freeze hl53 hg54
      refine o_lit (dk := (kSl (kI .u8))) (xs := [s33.2.1]) (ps := [(0, [v37])]) (cs := [v37]) rfl rfl rfl z_slT100 z_zero45 ⟨rfl, ⟨_, rfl, (oneL_sl hs55)⟩, trivial⟩ rfl rfl rfl rfl (Kd.Many.cons (a := [v37]) ⟨_, rfl, hs55⟩ Kd.Many.nil) (fun v57 g58 ho59 => ?_)
      obtain ⟨hf63, h⟩ := h
      obtain ⟨hf64, h⟩ := h
      refine st_ord [1, 0] [g35, g58] rfl ?_
      refine o_append (dk := (kSl (kI .u8))) (xs := s33.1) (ys := [s33.2.1]) rfl rfl rfl rfl z_slT100 rfl (ho36.up hl53) rfl (Ow.src (j := 1) ho59 rfl) hf63 hf64 (fun v60 g61 ho62 => ?_)
      refine o_assign rfl rfl rfl rfl ?_
      refine st_end ?_
      refine st_seq ?_
      refine st_region ?_
      refine o_assign rfl rfl rfl rfl ?_
      refine st_end ?_
      refine st_exit rfl ?_
      refine st_env (ρ' := [(0, v1), (2, .slice none 0 0), (3, v60), (4, .slice none 0 0), (5, .bool false), (6, .int .i64 s33.2.2.2)]) ⟨rfl, rfl, rfl, rfl, rfl, rfl, trivial⟩ ?_
      refine st_addNil ?_
      refine st_ord [1, 0] [g61, []] rfl ?_
      exact hk40 _ _ _ ⟨((s33.1 ++ [s33.2.1]), [], false), _, _, _, _, h, hl53, rfl, rfl, ho62, Ow.nil⟩
    · replace h := (if_neg (ne_t hc)).mp h
      refine st_skip ?_
      refine st_seq ?_
      refine st_region ?_
      refine o_move rfl rfl rfl rfl ?_
      refine o_move rfl rfl rfl rfl ?_
      refine o_move rfl rfl rfl rfl ?_
      obtain ⟨q65, hf66, h⟩ := h
      refine o_index rfl rfl rfl z_slT45 rfl rfl (hs2.up hl33) rfl hf66 (fun b67 of68 vs hc69 hrep => ?_)
      obtain rfl := hrep
      refine o_loadI (v := .int .u8 q65) rfl rfl rfl z_sc5 rfl (hc69 0 _ rfl) ?_
      refine o_lit (dk := (kI .u8)) (xs := [q65]) (ps := [(0, [.int .u8 q65])]) (cs := [.int .u8 q65]) rfl rfl rfl z_slT45 z_zero5 ⟨rfl, ⟨_, rfl, rfl⟩, trivial⟩ rfl rfl rfl rfl (Kd.Many.cons (a := [.int .u8 q65]) rfl Kd.Many.nil) (fun v70 g71 ho72 => ?_)
      obtain ⟨hf76, h⟩ := h
      obtain ⟨hf77, h⟩ := h
      refine st_ord [2, 0, 0] [g38, g71, g35] rfl ?_
      refine o_append (dk := (kI .u8)) (xs := s33.2.1) (ys := [q65]) rfl rfl rfl rfl z_slT45 rfl ho39 rfl (Ow.src (j := 1) ho72 rfl) hf76 hf77 (fun v73 g74 ho75 => ?_)
      refine o_assign rfl rfl rfl rfl ?_
      refine st_end ?_
      refine st_seq ?_
      refine st_region ?_
      refine o_move rfl rfl rfl rfl ?_
      refine o_lenO rfl rfl rfl z_slT45 rfl ho75 ?_
      refine o_ibin (v := .bool (decide (((s33.2.1 ++ [q65]).length : Int) = 254))) rfl rfl rfl rfl rfl rfl ?_
      refine st_end ?_
      refine st_cond rfl (fun hc => ?_) (fun hc => ?_)
      · replace h := (if_pos hc).mp h
        refine st_seq ?_
        refine st_region ?_
        refine o_move rfl rfl rfl rfl ?_
        refine o_move rfl rfl rfl rfl ?_
        refine st_freeze (fun τ78 hl79 hg80 => ?_)
        have hs81 := ho75.freeze hl79 hg80
        refine o_lit (dk := (kSl (kI .u8))) (xs := [(s33.2.1 ++ [q65])]) (ps := [(0, [v73])]) (cs := [v73]) rfl rfl rfl z_slT100 z_zero45 ⟨rfl, ⟨_, rfl, (oneL_sl hs81)⟩, trivial⟩ rfl rfl rfl rfl (Kd.Many.cons (a := [v73]) ⟨_, rfl, hs81⟩ Kd.Many.nil) (fun v85 g86 ho87 => ?_)
        obtain ⟨hf91, h⟩ := h
        obtain ⟨hf92, h⟩ := h
        refine st_ord [2, 0, 0] [g35, g86, g71] rfl ?_
        refine o_append (dk := (kSl (kI .u8))) (xs := s33.1) (ys := [(s33.2.1 ++ [q65])]) rfl rfl rfl rfl z_slT100 rfl (ho36.up hl79) rfl (Ow.src (j := 1) ho87 rfl) hf91 hf92 (fun v88 g89 ho90 => ?_)
        refine o_assign rfl rfl rfl rfl ?_
        refine st_end ?_
        refine st_seq ?_
        refine st_region ?_
        refine o_assign rfl rfl rfl rfl ?_
        refine st_end ?_
        refine st_region ?_
        refine o_assign rfl rfl rfl rfl ?_
        refine st_end ?_
        refine st_inBlock ?_
        refine st_env (ρ' := [(0, v1), (2, .slice none 0 0), (3, v88), (4, .slice none 0 0), (5, .bool true), (6, .int .i64 s33.2.2.2)]) ⟨rfl, rfl, rfl, rfl, rfl, rfl, trivial⟩ ?_
        refine st_addNil ?_
        refine st_ord [1, 0] [g89, []] rfl ?_
        exact hk40 _ _ _ ⟨((s33.1 ++ [(s33.2.1 ++ [q65])]), [], true), _, _, _, _, h, hl79, rfl, rfl, ho90, Ow.nil⟩
      · replace h := (if_neg (ne_t hc)).mp h
        refine st_skip ?_
        refine st_inBlock ?_
        refine st_env (ρ' := [(0, v1), (2, .slice none 0 0), (3, v34), (4, v73), (5, .bool false), (6, .int .i64 s33.2.2.2)]) ⟨rfl, rfl, rfl, rfl, rfl, rfl, trivial⟩ ?_
        refine st_ord [2, 0] [g35, g74] rfl ?_
        exact hk40 _ _ _ ⟨(s33.1, (s33.2.1 ++ [q65]), false), _, _, _, _, h, (Sto.Le.refl _), rfl, rfl, ho36, ho75⟩
  · replace h := (if_neg (ne_t hc)).mp h
    refine st_exit rfl ?_
    obtain rfl := he33 _ h
    replace h := hA33
    refine st_env (ρ' := [(2, .slice none 0 0), (3, v34), (4, v37), (5, .bool s33.2.2.1)]) ⟨rfl, rfl, rfl, rfl, trivial⟩ ?_
    exact hk3 _ _ _ ⟨(s33.1, s33.2.1, s33.2.2.1), _, _, _, _, h, hl33, rfl, rfl, ho36, ho39⟩
theorem ref05_Encode_ok {a0 : List Int} {v1 : Value} {r : List Int} (h : ref05_Encode a0 r) (σ : Sto) (hs2 : Sl (kI .u8) σ v1 a0) :
    Does Try.prog 88 [v1] σ [] (fun v τ gs => ∃ (v51 : Value), gs = [] ∧ v51 = v ∧ Sl (kI .u8) τ v51 r) := by
  refine call_of Try.func88 Try.ntmps88 rfl rfl (fun cs fs => ?_)
  refine st_seq ?_
  refine st_region ?_
  refine o_assign rfl rfl rfl rfl ?_
  refine st_end ?_
  refine st_seq ?_
  refine st_region ?_
  refine o_assign rfl rfl rfl rfl ?_
  refine st_end ?_
  refine st_seq ?_
  refine st_region ?_
  refine o_move rfl rfl rfl rfl ?_
  obtain ⟨r3, hr4, h⟩ := h
  refine st_call (foot := []) rfl rfl rfl rfl rfl rfl (callV_fn z_en105 (ref05_Blocks_ok hr4 σ hs2)) ?_
  rintro vτ5 τ5 gsτ5 hl6 ⟨v7, rfl, rfl, hs8⟩
  refine o_assign rfl rfl rfl rfl ?_
  refine st_end ?_
  refine st_seq ?_
  refine st_cut (fun ρ τ9 gs => ∃ (s9 : List Int) (v10 : Value) (g11 : Grp), ref05_Encode_j1 s9 r ∧ τ5.Le τ9 ∧ ρ = [(2, .slice none 0 0), (3, v10)] ∧ gs = [g11] ∧ Ow (kI .u8) 5 τ9 v10 s9 g11) ?_ (fun hk9 => ?_)
  · rintro ρ9 τ9 gs9 ⟨s9, v10, g11, h, hl9, rfl, rfl, ho12⟩
    refine st_seq ?_
    refine st_region ?_
    refine o_move rfl rfl rfl rfl ?_
    refine o_assign rfl rfl rfl rfl ?_
    refine st_end ?_
    refine st_freeze (fun τ13 hl14 hg15 => ?_)
    have hs16 := ho12.freeze hl14 hg15
    obtain rfl := Eq.symm h
    exact st_ret (gs' := []) Try.func88 rfl (List.Sublist.refl _) ((hl6.trans hl9).trans hl14) ⟨_, rfl, rfl, hs16⟩
  refine st_seq ?_
  refine st_region ?_
  refine o_assign rfl rfl rfl rfl ?_
  refine st_end ?_
  obtain ⟨e19, hL19, hA19⟩ := h
  refine st_env (ρ' := [(2, .slice none 0 0), (3, .slice none 0 0), (4, v7), (5, .int .i64 0)]) ⟨rfl, rfl, rfl, rfl, trivial⟩ ?_
  refine st_addNil ?_
  refine st_loop hL19 (fun (s19 : List Int × Int) ρ τ19 gs => τ5.Le τ19 ∧ ∃ (v20 : Value) (g21 : Grp), ρ = [(2, .slice none 0 0), (3, v20), (4, v7), (5, .int .i64 s19.2)] ∧ gs = [g21] ∧ Ow (kI .u8) 5 τ19 v20 s19.1 g21) ⟨Sto.Le.refl _, _, _, rfl, rfl, Ow.nil⟩ ?_
  rintro s19 o19 h he19 ρ19 τ19 gs19 ⟨hl19, v20, g21, rfl, rfl, ho22⟩ hn19
  refine st_seq ?_
  refine st_seq ?_
  refine st_region ?_
  refine o_move rfl rfl rfl rfl ?_
  refine o_move rfl rfl rfl rfl ?_
  refine o_lenI rfl rfl rfl z_slT100 rfl (hs8.up hl19) ?_
  refine o_ibin (v := .bool (decide (s19.2 < (r3.length : Int)))) rfl rfl rfl rfl rfl rfl ?_
  refine st_end ?_
  refine st_cond rfl (fun hc => ?_) (fun hc => ?_)
  · replace h := (if_pos hc).mp h
    refine st_skip ?_
    refine st_seq ?_
    refine st_block ?_
    refine st_seq ?_
    refine st_region ?_
    refine o_move rfl rfl rfl rfl ?_
    refine o_move rfl rfl rfl rfl ?_
    refine o_move rfl rfl rfl rfl ?_
    obtain ⟨q23, hf24, h⟩ := h
    refine o_index rfl rfl rfl z_slT100 rfl rfl (hs8.up hl19) rfl hf24 (fun b25 of26 vs hc28 hrep => ?_)
    obtain ⟨v27, rfl, hs29⟩ := hrep
    refine o_loadI (v := v27) rfl rfl rfl z_sc45 rfl (hc28 0 _ rfl) ?_
    refine o_lenI rfl rfl rfl z_slT45 rfl hs29 ?_
    refine o_ibin (v := .int .i64 (IntKind.i64.wrap ((q23.length : Int) + 1))) rfl rfl rfl rfl rfl rfl ?_
    refine o_conv rfl rfl rfl Try.underlying3 Try.underlying5 rfl ?_
    refine o_lit (dk := (kI .u8)) (xs := [(IntKind.u8.wrap (IntKind.i64.wrap ((q23.length : Int) + 1)))]) (ps := [(0, [.int .u8 (IntKind.u8.wrap (IntKind.i64.wrap ((q23.length : Int) + 1)))])]) (cs := [.int .u8 (IntKind.u8.wrap (IntKind.i64.wrap ((q23.length : Int) + 1)))]) rfl rfl rfl z_slT45 z_zero5 ⟨rfl, ⟨_, rfl, rfl⟩, trivial⟩ rfl rfl rfl rfl (Kd.Many.cons (a := [.int .u8 (IntKind.u8.wrap (IntKind.i64.wrap ((q23.length : Int) + 1)))]) rfl Kd.Many.nil) (fun v30 g31 ho32 => ?_)
    obtain ⟨hf36, h⟩ := h
    obtain ⟨hf37, h⟩ := h
    refine st_ord [1, 0] [g21, g31] rfl ?_
    refine o_append (dk := (kI .u8)) (xs := s19.1) (ys := [(IntKind.u8.wrap (IntKind.i64.wrap ((q23.length : Int) + 1)))]) rfl rfl rfl rfl z_slT45 rfl ho22 rfl (Ow.src (j := 1) ho32 rfl) hf36 hf37 (fun v33 g34 ho35 => ?_)
    refine o_assign rfl rfl rfl rfl ?_
    refine st_end ?_
    refine st_region ?_
    refine o_move rfl rfl rfl rfl ?_
    refine o_move rfl rfl rfl rfl ?_
    refine o_move rfl rfl rfl rfl ?_
    obtain ⟨q38, hf39, h⟩ := h
    refine o_index rfl rfl rfl z_slT100 rfl rfl (hs8.up hl19) rfl hf39 (fun b40 of41 vs hc43 hrep => ?_)
    obtain ⟨v42, rfl, hs44⟩ := hrep
    refine o_loadI (v := v42) rfl rfl rfl z_sc45 rfl (hc43 0 _ rfl) ?_
    obtain ⟨hf48, h⟩ := h
    obtain ⟨hf49, h⟩ := h
    refine o_append (dk := (kI .u8)) (xs := (s19.1 ++ [(IntKind.u8.wrap (IntKind.i64.wrap ((q23.length : Int) + 1)))])) (ys := q38) rfl rfl rfl rfl z_slT45 rfl ho35 rfl (Sl.src hs44) hf48 hf49 (fun v45 g46 ho47 => ?_)
    refine o_assign rfl rfl rfl rfl ?_
    refine st_end ?_
    refine st_inBlock ?_
    refine st_region ?_
    refine o_move rfl rfl rfl rfl ?_
    refine o_ibin (v := .int .i64 (IntKind.i64.wrap (s19.2 + 1))) rfl rfl rfl rfl rfl rfl ?_
    refine o_assign rfl rfl rfl rfl ?_
    refine st_end ?_
    refine st_env (ρ' := [(2, .slice none 0 0), (3, v45), (4, v7), (5, .int .i64 (IntKind.i64.wrap (s19.2 + 1)))]) ⟨rfl, rfl, rfl, rfl, trivial⟩ ?_
    refine st_ord [0] [g46] rfl ?_
    exact hn19 _ _ _ _ h ⟨hl19, _, _, rfl, rfl, ho47⟩
  · replace h := (if_neg (ne_t hc)).mp h
    refine st_exit rfl ?_
    obtain rfl := he19 _ h
    replace h := hA19
    refine st_env (ρ' := [(2, .slice none 0 0), (3, v20)]) ⟨rfl, rfl, trivial⟩ ?_
    exact hk9 _ _ _ ⟨s19.1, _, _, h, hl19, rfl, rfl, ho22⟩
theorem ref05_Decode_ok {a0 : List Int} {v1 : Value} {r : List Int × Int} (h : ref05_Decode a0 r) (σ : Sto) (hs2 : Sl (kI .u8) σ v1 a0) :
    Does Try.prog 63 [v1] σ [] (fun v τ gs => ∃ (v65 : Value), gs = [] ∧ .tuple [v65, .int .i64 r.2].toArray = v ∧ Sl (kI .u8) τ v65 r.1) := by
  refine call_of Try.func63 Try.ntmps63 rfl rfl (fun cs fs => ?_)
  refine st_seq ?_
  refine st_region ?_
  refine o_assign rfl rfl rfl rfl ?_
  refine o_assign rfl rfl rfl rfl ?_
  refine st_end ?_
  refine st_seq ?_
  refine st_region ?_
  refine o_assign rfl rfl rfl rfl ?_
  refine st_end ?_
  refine st_seq ?_
  refine st_region ?_
  refine o_assign rfl rfl rfl rfl ?_
  refine st_end ?_
  refine st_seq ?_
  refine st_cut (fun ρ τ3 gs => ∃ (s3 : List Int) (v4 : Value) (g5 : Grp), ref05_Decode_j1 a0 s3 r ∧ σ.Le τ3 ∧ ρ = [(0, v1), (2, .slice none 0 0), (3, .int .i64 0), (4, v4)] ∧ gs = [g5] ∧ Ow (kI .u8) 5 τ3 v4 s3 g5) ?_ (fun hk3 => ?_)
  · rintro ρ3 τ3 gs3 ⟨s3, v4, g5, h, hl3, rfl, rfl, ho6⟩
    refine st_seq ?_
    refine st_seq ?_
    refine st_region ?_
    refine o_move rfl rfl rfl rfl ?_
    obtain ⟨r12, hr13, h⟩ := h
    refine st_freeze (fun τ7 hl8 hg9 => ?_)
    have hs10 := ho6.freeze hl8 hg9
    refine st_call (foot := []) rfl rfl rfl rfl rfl rfl (callV_fn z_en88 (ref05_Encode_ok hr13 τ7 hs10)) ?_
    rintro vτ14 τ14 gsτ14 hl15 ⟨v16, rfl, rfl, hs17⟩
    refine o_move rfl rfl rfl rfl ?_
    obtain ⟨r18, hr19, h⟩ := h
    refine st_call (foot := []) rfl rfl rfl rfl rfl rfl (callV_fn z_en28 (ref01_Same_ok hr19 τ14 hs17 (hs2.up ((hl3.trans hl8).trans hl15)))) ?_
    rintro vτ20 τ20 gsτ20 hl21 ⟨rfl, rfl⟩
    refine o_not rfl rfl rfl rfl ?_
    refine st_end ?_
    refine st_cond rfl (fun hc => ?_) (fun hc => ?_)
    · replace h := (if_pos hc).mp h
      refine st_seq ?_
      refine st_region ?_
      refine o_assign rfl rfl rfl rfl ?_
      refine o_assign rfl rfl rfl rfl ?_
      refine st_end ?_
      obtain rfl := Eq.symm h
      exact st_ret (gs' := []) Try.func63 rfl (List.Sublist.refl _) (((hl3.trans hl8).trans hl15).trans hl21) ⟨_, rfl, rfl, Sl.nil⟩
    · replace h := (if_neg (ne_t hc)).mp h
      refine st_skip ?_
      refine st_seq ?_
      refine st_region ?_
      refine o_move rfl rfl rfl rfl ?_
      refine o_assign rfl rfl rfl rfl ?_
      refine o_assign rfl rfl rfl rfl ?_
      refine st_end ?_
      obtain rfl := Eq.symm h
      exact st_ret (gs' := []) Try.func63 rfl (List.Sublist.refl _) (((hl3.trans hl8).trans hl15).trans hl21) ⟨_, rfl, rfl, (hs10.up (hl15.trans hl21))⟩
  obtain ⟨e22, hL22, hA22⟩ := h
  refine st_env (ρ' := [(0, v1), (2, .slice none 0 0), (3, .int .i64 0), (4, .slice none 0 0), (5, .int .i64 0)]) ⟨rfl, rfl, rfl, rfl, rfl, trivial⟩ ?_
  refine st_addNil ?_
  refine st_loop hL22 (fun (s22 : List Int × Int) ρ τ22 gs => σ.Le τ22 ∧ ∃ (v23 : Value) (g24 : Grp), ρ = [(0, v1), (2, .slice none 0 0), (3, .int .i64 0), (4, v23), (5, .int .i64 s22.2)] ∧ gs = [g24] ∧ Ow (kI .u8) 5 τ22 v23 s22.1 g24) ⟨Sto.Le.refl _, _, _, rfl, rfl, Ow.nil⟩ ?_
  rintro s22 o22 h he22 ρ22 τ22 gs22 ⟨hl22, v23, g24, rfl, rfl, ho25⟩ hn22
  refine st_seq ?_
  refine st_seq ?_
  refine st_region ?_
  refine o_move rfl rfl rfl rfl ?_
  refine o_move rfl rfl rfl rfl ?_
  refine o_lenI rfl rfl rfl z_slT45 rfl (hs2.up hl22) ?_
  refine o_ibin (v := .bool (decide (s22.2 < (a0.length : Int)))) rfl rfl rfl rfl rfl rfl ?_
  refine st_end ?_
  refine st_cond rfl (fun hc => ?_) (fun hc => ?_)
  · replace h := (if_pos hc).mp h
    refine st_skip ?_
    refine st_block ?_
    refine st_seq ?_
    refine st_region ?_
    refine o_move rfl rfl rfl rfl ?_
    refine o_move rfl rfl rfl rfl ?_
    obtain ⟨q26, hf27, h⟩ := h
    refine o_index rfl rfl rfl z_slT45 rfl rfl (hs2.up hl22) rfl hf27 (fun b28 of29 vs hc30 hrep => ?_)
    obtain rfl := hrep
    refine o_loadI (v := .int .u8 q26) rfl rfl rfl z_sc5 rfl (hc30 0 _ rfl) ?_
    refine o_conv rfl rfl rfl Try.underlying5 Try.underlying3 rfl ?_
    refine o_assign rfl rfl rfl rfl ?_
    refine st_end ?_
    refine st_seq ?_
    refine st_cut (fun ρ τ31 gs => ∃ (s31 : List Int) (v32 : Value) (g33 : Grp), ref05_Decode_j3 a0 s22 q26 s31 o22 ∧ τ22.Le τ31 ∧ ρ = [(0, v1), (2, .slice none 0 0), (3, .int .i64 0), (4, v32), (5, .int .i64 s22.2), (6, .int .i64 (IntKind.i64.wrap q26))] ∧ gs = [g33] ∧ Ow (kI .u8) 5 τ31 v32 s31 g33) ?_ (fun hk31 => ?_)
    · rintro ρ31 τ31 gs31 ⟨s31, v32, g33, h, hl31, rfl, rfl, ho34⟩
      refine st_seq ?_
      refine st_region ?_
      refine o_move rfl rfl rfl rfl ?_
      refine o_move rfl rfl rfl rfl ?_
      refine o_ibin (v := .int .i64 (IntKind.i64.wrap (s22.2 + (IntKind.i64.wrap q26)))) rfl rfl rfl rfl rfl rfl ?_
      refine o_assign rfl rfl rfl rfl ?_
      refine st_end ?_
      refine st_seq ?_
      refine st_seq ?_
      refine st_region ?_
      refine o_move rfl rfl rfl rfl ?_
      refine o_ibin (v := .bool (decide ((IntKind.i64.wrap q26) = 0))) rfl rfl rfl rfl rfl rfl ?_
      refine st_end ?_
      refine st_cond rfl (fun hc => ?_) (fun hc => ?_)
      · replace h := (if_pos hc).mp h
        refine st_seq ?_
        refine st_region ?_
        refine o_assign rfl rfl rfl rfl ?_
        refine o_assign rfl rfl rfl rfl ?_
        refine st_end ?_
        refine st_ord [] [] rfl ?_
        obtain rfl := he22 _ h
        replace h := hA22
        obtain rfl := Eq.symm h
        exact st_ret (gs' := []) Try.func63 rfl (List.Sublist.refl _) (hl22.trans hl31) ⟨_, rfl, rfl, Sl.nil⟩
      · replace h := (if_neg (ne_t hc)).mp h
        refine st_skip ?_
        refine st_seq ?_
        refine st_cut (fun ρ τ35 gs => ∃ (s35 : Bool), ref05_Decode_j4 s22 q26 s31 s35 o22 ∧ τ31.Le τ35 ∧ ρ = [(0, v1), (2, .slice none 0 0), (3, .int .i64 0), (4, v32), (5, .int .i64 (IntKind.i64.wrap (s22.2 + (IntKind.i64.wrap q26)))), (51, .bool s35)] ∧ gs = [g33]) ?_ (fun hk35 => ?_)
        · rintro ρ35 τ35 gs35 ⟨s35, h, hl35, rfl, rfl⟩
          refine st_cond rfl (fun hc => ?_) (fun hc => ?_)
          · replace h := (if_pos hc).mp h
            refine st_region ?_
            refine o_move rfl rfl rfl rfl ?_
            refine o_lit (dk := (kI .u8)) (xs := [0]) (ps := [(0, [.int .u8 0])]) (cs := [.int .u8 0]) rfl rfl rfl z_slT45 z_zero5 ⟨rfl, ⟨_, rfl, rfl⟩, trivial⟩ rfl rfl rfl rfl (Kd.Many.cons (a := [.int .u8 0]) rfl Kd.Many.nil) (fun v36 g37 ho38 => ?_)
            obtain ⟨hf42, h⟩ := h
            obtain ⟨hf43, h⟩ := h
            refine st_ord [1, 0] [g33, g37] rfl ?_
            refine o_append (dk := (kI .u8)) (xs := s31) (ys := [0]) rfl rfl rfl rfl z_slT45 rfl (ho34.up hl35) rfl (Ow.src (j := 1) ho38 rfl) hf42 hf43 (fun v39 g40 ho41 => ?_)
            refine o_assign rfl rfl rfl rfl ?_
            refine st_end ?_
            refine st_inBlock ?_
            refine st_env (ρ' := [(0, v1), (2, .slice none 0 0), (3, .int .i64 0), (4, v39), (5, .int .i64 (IntKind.i64.wrap (s22.2 + (IntKind.i64.wrap q26))))]) ⟨rfl, rfl, rfl, rfl, rfl, trivial⟩ ?_
            refine st_ord [0] [g40] rfl ?_
            exact hn22 _ _ _ _ h ⟨((hl22.trans hl31).trans hl35), _, _, rfl, rfl, ho41⟩
          · replace h := (if_neg (ne_t hc)).mp h
            refine st_skip ?_
            refine st_inBlock ?_
            refine st_env (ρ' := [(0, v1), (2, .slice none 0 0), (3, .int .i64 0), (4, v32), (5, .int .i64 (IntKind.i64.wrap (s22.2 + (IntKind.i64.wrap q26))))]) ⟨rfl, rfl, rfl, rfl, rfl, trivial⟩ ?_
            exact hn22 _ _ _ _ h ⟨((hl22.trans hl31).trans hl35), _, _, rfl, rfl, (ho34.up hl35)⟩
        refine st_region ?_
        refine o_move rfl rfl rfl rfl ?_
        refine o_ibin (v := .bool (decide ((IntKind.i64.wrap q26) < 255))) rfl rfl rfl rfl rfl rfl ?_
        refine o_moveB rfl rfl rfl rfl (fun hc => ?_) (fun hc => ?_)
        · replace h := (if_pos hc).mp h
          refine o_move rfl rfl rfl rfl ?_
          refine o_move rfl rfl rfl rfl ?_
          refine o_lenI rfl rfl rfl z_slT45 rfl (hs2.up (hl22.trans hl31)) ?_
          refine o_ibin (v := .bool (decide ((IntKind.i64.wrap (s22.2 + (IntKind.i64.wrap q26))) < (a0.length : Int)))) rfl rfl rfl rfl rfl rfl ?_
          refine o_pick rfl rfl rfl rfl rfl ?_
          refine st_end ?_
          refine st_env (ρ' := [(0, v1), (2, .slice none 0 0), (3, .int .i64 0), (4, v32), (5, .int .i64 (IntKind.i64.wrap (s22.2 + (IntKind.i64.wrap q26)))), (51, .bool (decide ((IntKind.i64.wrap (s22.2 + (IntKind.i64.wrap q26))) < (a0.length : Int))))]) ⟨rfl, rfl, rfl, rfl, rfl, rfl, trivial⟩ ?_
          exact hk35 _ _ _ ⟨(decide ((IntKind.i64.wrap (s22.2 + (IntKind.i64.wrap q26))) < (a0.length : Int))), h, (Sto.Le.refl _), rfl, rfl⟩
        · replace h := (if_neg (ne_t hc)).mp h
          refine st_pass rfl rfl rfl rfl rfl rfl ?_
          refine st_pass rfl rfl rfl rfl rfl rfl ?_
          refine st_pass rfl rfl rfl rfl rfl rfl ?_
          refine st_pass rfl rfl rfl rfl rfl rfl ?_
          refine o_pick rfl rfl rfl rfl rfl ?_
          refine st_end ?_
          refine st_env (ρ' := [(0, v1), (2, .slice none 0 0), (3, .int .i64 0), (4, v32), (5, .int .i64 (IntKind.i64.wrap (s22.2 + (IntKind.i64.wrap q26)))), (51, .bool false)]) ⟨rfl, rfl, rfl, rfl, rfl, rfl, trivial⟩ ?_
          exact hk35 _ _ _ ⟨false, h, (Sto.Le.refl _), rfl, rfl⟩
    refine st_seq ?_
    refine st_region ?_
    refine o_assign rfl rfl rfl rfl ?_
    refine st_end ?_
    obtain ⟨e44, hL44, hA44⟩ := h
    refine st_env (ρ' := [(0, v1), (2, .slice none 0 0), (3, .int .i64 0), (4, v23), (5, .int .i64 s22.2), (6, .int .i64 (IntKind.i64.wrap q26)), (7, .int .i64 1)]) ⟨rfl, rfl, rfl, rfl, rfl, rfl, rfl, trivial⟩ ?_
    refine st_loop hL44 (fun (s44 : List Int × Int) ρ τ44 gs => τ22.Le τ44 ∧ ∃ (v45 : Value) (g46 : Grp), ρ = [(0, v1), (2, .slice none 0 0), (3, .int .i64 0), (4, v45), (5, .int .i64 s22.2), (6, .int .i64 (IntKind.i64.wrap q26)), (7, .int .i64 s44.2)] ∧ gs = [g46] ∧ Ow (kI .u8) 5 τ44 v45 s44.1 g46) ⟨Sto.Le.refl _, _, _, rfl, rfl, ho25⟩ ?_
    rintro s44 o44 h he44 ρ44 τ44 gs44 ⟨hl44, v45, g46, rfl, rfl, ho47⟩ hn44
    refine st_seq ?_
    refine st_seq ?_
    refine st_cut (fun ρ τ48 gs => ∃ (s48 : Bool), ref05_Decode_j6 a0 s22 s44 s48 o44 ∧ τ44.Le τ48 ∧ ρ = [(0, v1), (2, .slice none 0 0), (3, .int .i64 0), (4, v45), (5, .int .i64 s22.2), (6, .int .i64 (IntKind.i64.wrap q26)), (7, .int .i64 s44.2), (27, .bool s48)] ∧ gs = [g46]) ?_ (fun hk48 => ?_)
    · rintro ρ48 τ48 gs48 ⟨s48, h, hl48, rfl, rfl⟩
      refine st_cond rfl (fun hc => ?_) (fun hc => ?_)
      · replace h := (if_pos hc).mp h
        refine st_skip ?_
        refine st_seq ?_
        refine st_block ?_
        refine st_region ?_
        refine o_move rfl rfl rfl rfl ?_
        refine o_move rfl rfl rfl rfl ?_
        refine o_move rfl rfl rfl rfl ?_
        refine o_move rfl rfl rfl rfl ?_
        refine o_ibin (v := .int .i64 (IntKind.i64.wrap (s22.2 + s44.2))) rfl rfl rfl rfl rfl rfl ?_
        obtain ⟨q49, hf50, h⟩ := h
        refine o_index rfl rfl rfl z_slT45 rfl rfl (hs2.up ((hl22.trans hl44).trans hl48)) rfl hf50 (fun b51 of52 vs hc53 hrep => ?_)
        obtain rfl := hrep
        refine o_loadI (v := .int .u8 q49) rfl rfl rfl z_sc5 rfl (hc53 0 _ rfl) ?_
        refine o_lit (dk := (kI .u8)) (xs := [q49]) (ps := [(0, [.int .u8 q49])]) (cs := [.int .u8 q49]) rfl rfl rfl z_slT45 z_zero5 ⟨rfl, ⟨_, rfl, rfl⟩, trivial⟩ rfl rfl rfl rfl (Kd.Many.cons (a := [.int .u8 q49]) rfl Kd.Many.nil) (fun v54 g55 ho56 => ?_)
        obtain ⟨hf60, h⟩ := h
        obtain ⟨hf61, h⟩ := h
        refine st_ord [1, 0] [g46, g55] rfl ?_
        refine o_append (dk := (kI .u8)) (xs := s44.1) (ys := [q49]) rfl rfl rfl rfl z_slT45 rfl (ho47.up hl48) rfl (Ow.src (j := 1) ho56 rfl) hf60 hf61 (fun v57 g58 ho59 => ?_)
        refine o_assign rfl rfl rfl rfl ?_
        refine st_end ?_
        refine st_inBlock ?_
        refine st_region ?_
        refine o_move rfl rfl rfl rfl ?_
        refine o_ibin (v := .int .i64 (IntKind.i64.wrap (s44.2 + 1))) rfl rfl rfl rfl rfl rfl ?_
        refine o_assign rfl rfl rfl rfl ?_
        refine st_end ?_
        refine st_env (ρ' := [(0, v1), (2, .slice none 0 0), (3, .int .i64 0), (4, v57), (5, .int .i64 s22.2), (6, .int .i64 (IntKind.i64.wrap q26)), (7, .int .i64 (IntKind.i64.wrap (s44.2 + 1)))]) ⟨rfl, rfl, rfl, rfl, rfl, rfl, rfl, trivial⟩ ?_
        refine st_ord [0] [g58] rfl ?_
        exact hn44 _ _ _ _ h ⟨(hl44.trans hl48), _, _, rfl, rfl, ho59⟩
      · replace h := (if_neg (ne_t hc)).mp h
        refine st_exit rfl ?_
        obtain rfl := he44 _ h
        replace h := hA44
        refine st_env (ρ' := [(0, v1), (2, .slice none 0 0), (3, .int .i64 0), (4, v45), (5, .int .i64 s22.2), (6, .int .i64 (IntKind.i64.wrap q26))]) ⟨rfl, rfl, rfl, rfl, rfl, rfl, trivial⟩ ?_
        exact hk31 _ _ _ ⟨s44.1, _, _, h, (hl44.trans hl48), rfl, rfl, (ho47.up hl48)⟩
    refine st_region ?_
    refine o_move rfl rfl rfl rfl ?_
    refine o_move rfl rfl rfl rfl ?_
    refine o_ibin (v := .bool (decide (s44.2 < (IntKind.i64.wrap q26)))) rfl rfl rfl rfl rfl rfl ?_
    refine o_moveB rfl rfl rfl rfl (fun hc => ?_) (fun hc => ?_)
    · replace h := (if_pos hc).mp h
      refine o_move rfl rfl rfl rfl ?_
      refine o_move rfl rfl rfl rfl ?_
      refine o_ibin (v := .int .i64 (IntKind.i64.wrap (s22.2 + s44.2))) rfl rfl rfl rfl rfl rfl ?_
      refine o_move rfl rfl rfl rfl ?_
      refine o_lenI rfl rfl rfl z_slT45 rfl (hs2.up (hl22.trans hl44)) ?_
      refine o_ibin (v := .bool (decide ((IntKind.i64.wrap (s22.2 + s44.2)) < (a0.length : Int)))) rfl rfl rfl rfl rfl rfl ?_
      refine o_pick rfl rfl rfl rfl rfl ?_
      refine st_end ?_
      refine st_env (ρ' := [(0, v1), (2, .slice none 0 0), (3, .int .i64 0), (4, v45), (5, .int .i64 s22.2), (6, .int .i64 (IntKind.i64.wrap q26)), (7, .int .i64 s44.2), (27, .bool (decide ((IntKind.i64.wrap (s22.2 + s44.2)) < (a0.length : Int))))]) ⟨rfl, rfl, rfl, rfl, rfl, rfl, rfl, rfl, trivial⟩ ?_
      exact hk48 _ _ _ ⟨(decide ((IntKind.i64.wrap (s22.2 + s44.2)) < (a0.length : Int))), h, (Sto.Le.refl _), rfl, rfl⟩
    · replace h := (if_neg (ne_t hc)).mp h
      refine st_pass rfl rfl rfl rfl rfl rfl ?_
      refine st_pass rfl rfl rfl rfl rfl rfl ?_
      refine st_pass rfl rfl rfl rfl rfl rfl ?_
      refine st_pass rfl rfl rfl rfl rfl rfl ?_
      refine st_pass rfl rfl rfl rfl rfl rfl ?_
      refine st_pass rfl rfl rfl rfl rfl rfl ?_
      refine o_pick rfl rfl rfl rfl rfl ?_
      refine st_end ?_
      refine st_env (ρ' := [(0, v1), (2, .slice none 0 0), (3, .int .i64 0), (4, v45), (5, .int .i64 s22.2), (6, .int .i64 (IntKind.i64.wrap q26)), (7, .int .i64 s44.2), (27, .bool false)]) ⟨rfl, rfl, rfl, rfl, rfl, rfl, rfl, rfl, trivial⟩ ?_
      exact hk48 _ _ _ ⟨false, h, (Sto.Le.refl _), rfl, rfl⟩
  · replace h := (if_neg (ne_t hc)).mp h
    refine st_exit rfl ?_
    obtain rfl := he22 _ h
    replace h := hA22
    refine st_env (ρ' := [(0, v1), (2, .slice none 0 0), (3, .int .i64 0), (4, v23)]) ⟨rfl, rfl, rfl, rfl, trivial⟩ ?_
    exact hk3 _ _ _ ⟨s22.1, _, _, h, hl22, rfl, rfl, ho25⟩
theorem ref07_Check_ok {a0 : Int × Int × Int × Int × Int} {r : Int} (h : ref07_Check a0 r) (σ : Sto)  :
    Does Try.prog 89 [.agg [.int .i64 a0.1, .int .i64 a0.2.1, .int .u32 a0.2.2.1, .int .i64 a0.2.2.2.1, .int .i64 a0.2.2.2.2].toArray] σ [] (fun v τ gs => gs = [] ∧ .int .i64 r = v) := by
  refine call_of Try.func89 Try.ntmps89 rfl rfl (fun cs fs => ?_)
  refine st_seq ?_
  refine st_region ?_
  refine o_box (cs := [.int .i64 a0.1, .int .i64 a0.2.1, .int .u32 a0.2.2.1, .int .i64 a0.2.2.2.1, .int .i64 a0.2.2.2.2]) rfl rfl rfl rfl rfl (fun b1 => ?_)
  refine o_assign rfl rfl rfl rfl ?_
  refine st_end ?_
  refine st_seq ?_
  refine st_seq ?_
  refine st_cut (fun ρ τ2 gs => ∃ (s2 : Bool), ref07_Check_j1 a0 s2 r ∧ σ.Le τ2 ∧ ρ = [(1, .pointer (some ⟨b1, 0, none⟩)), (2, .int .i64 0), (10, .bool s2)] ∧ gs = [[(b1, .cells [.int .i64 a0.1, .int .i64 a0.2.1, .int .u32 a0.2.2.1, .int .i64 a0.2.2.2.1, .int .i64 a0.2.2.2.2].toArray 64 (0, 0))]]) ?_ (fun hk2 => ?_)
  · rintro ρ2 τ2 gs2 ⟨s2, h, hl2, rfl, rfl⟩
    refine st_cond rfl (fun hc => ?_) (fun hc => ?_)
    · replace h := (if_pos hc).mp h
      refine st_seq ?_
      refine st_region ?_
      refine o_assign rfl rfl rfl rfl ?_
      refine st_end ?_
      refine st_ord [] [] rfl ?_
      obtain rfl := Eq.symm h
      exact st_ret (gs' := []) Try.func89 rfl (List.Sublist.refl _) hl2 ⟨rfl, rfl⟩
    · replace h := (if_neg (ne_t hc)).mp h
      refine st_skip ?_
      refine st_seq ?_
      refine st_seq ?_
      refine st_cut (fun ρ τ3 gs => ∃ (s3 : Bool), ref07_Check_j2 a0 s3 r ∧ τ2.Le τ3 ∧ ρ = [(1, .pointer (some ⟨b1, 0, none⟩)), (2, .int .i64 0), (18, .bool s3)] ∧ gs = [[(b1, .cells [.int .i64 a0.1, .int .i64 a0.2.1, .int .u32 a0.2.2.1, .int .i64 a0.2.2.2.1, .int .i64 a0.2.2.2.2].toArray 64 (0, 0))]]) ?_ (fun hk3 => ?_)
      · rintro ρ3 τ3 gs3 ⟨s3, h, hl3, rfl, rfl⟩
        refine st_cond rfl (fun hc => ?_) (fun hc => ?_)
        · replace h := (if_pos hc).mp h
          refine st_seq ?_
          refine st_region ?_
          refine o_assign rfl rfl rfl rfl ?_
          refine st_end ?_
          refine st_ord [] [] rfl ?_
          obtain rfl := Eq.symm h
          exact st_ret (gs' := []) Try.func89 rfl (List.Sublist.refl _) (hl2.trans hl3) ⟨rfl, rfl⟩
        · replace h := (if_neg (ne_t hc)).mp h
          refine st_skip ?_
          refine st_seq ?_
          refine st_seq ?_
          refine st_cut (fun ρ τ4 gs => ∃ (s4 : Bool), ref07_Check_j3 s4 r ∧ τ3.Le τ4 ∧ ρ = [(2, .int .i64 0), (38, .bool s4)] ∧ gs = []) ?_ (fun hk4 => ?_)
          · rintro ρ4 τ4 gs4 ⟨s4, h, hl4, rfl, rfl⟩
            refine st_cond rfl (fun hc => ?_) (fun hc => ?_)
            · replace h := (if_pos hc).mp h
              refine st_seq ?_
              refine st_region ?_
              refine o_assign rfl rfl rfl rfl ?_
              refine st_end ?_
              obtain rfl := Eq.symm h
              exact st_ret (gs' := []) Try.func89 rfl (List.Sublist.refl _) ((hl2.trans hl3).trans hl4) ⟨rfl, rfl⟩
            · replace h := (if_neg (ne_t hc)).mp h
              refine st_skip ?_
              refine st_seq ?_
              refine st_region ?_
              refine o_assign rfl rfl rfl rfl ?_
              refine st_end ?_
              obtain rfl := Eq.symm h
              exact st_ret (gs' := []) Try.func89 rfl (List.Sublist.refl _) ((hl2.trans hl3).trans hl4) ⟨rfl, rfl⟩
          refine st_region ?_
          refine o_fieldAddr rfl rfl rfl z_field64_4 rfl ?_
          refine o_load (j := 0) (v := .int .i64 a0.2.2.2.2) rfl rfl rfl z_sc3 rfl rfl rfl ?_
          refine o_ibin (v := .bool (decide (a0.2.2.2.2 < 1))) rfl rfl rfl rfl rfl rfl ?_
          refine o_moveB rfl rfl rfl rfl (fun hc => ?_) (fun hc => ?_)
          · replace h := (if_pos hc).mp h
            refine st_pass rfl rfl rfl rfl rfl rfl ?_
            refine st_pass rfl rfl rfl rfl rfl rfl ?_
            refine st_pass rfl rfl rfl rfl rfl rfl ?_
            refine o_pick rfl rfl rfl rfl rfl ?_
            refine o_move rfl rfl rfl rfl ?_
            refine st_pass rfl rfl rfl rfl rfl rfl ?_
            refine st_pass rfl rfl rfl rfl rfl rfl ?_
            refine st_pass rfl rfl rfl rfl rfl rfl ?_
            refine o_pick rfl rfl rfl rfl rfl ?_
            refine o_move rfl rfl rfl rfl ?_
            refine st_pass rfl rfl rfl rfl rfl rfl ?_
            refine st_pass rfl rfl rfl rfl rfl rfl ?_
            refine st_pass rfl rfl rfl rfl rfl rfl ?_
            refine st_pass rfl rfl rfl rfl rfl rfl ?_
            refine st_pass rfl rfl rfl rfl rfl rfl ?_
            refine o_pick rfl rfl rfl rfl rfl ?_
            refine st_end ?_
            refine st_env (ρ' := [(2, .int .i64 0), (38, .bool true)]) ⟨rfl, rfl, trivial⟩ ?_
            refine st_ord [] [] rfl ?_
            exact hk4 _ _ _ ⟨true, h, (Sto.Le.refl _), rfl, rfl⟩
          · replace h := (if_neg (ne_t hc)).mp h
            refine o_fieldAddr rfl rfl rfl z_field64_4 rfl ?_
            refine o_load (j := 0) (v := .int .i64 a0.2.2.2.2) rfl rfl rfl z_sc3 rfl rfl rfl ?_
            refine o_ibin (v := .bool (decide (255 < a0.2.2.2.2))) rfl rfl rfl rfl rfl rfl ?_
            refine o_pick rfl rfl rfl rfl rfl ?_
            refine o_moveB rfl rfl rfl rfl (fun hc => ?_) (fun hc => ?_)
            · replace h := (if_pos hc).mp h
              refine st_pass rfl rfl rfl rfl rfl rfl ?_
              refine st_pass rfl rfl rfl rfl rfl rfl ?_
              refine st_pass rfl rfl rfl rfl rfl rfl ?_
              refine o_pick rfl rfl rfl rfl rfl ?_
              refine o_move rfl rfl rfl rfl ?_
              refine st_pass rfl rfl rfl rfl rfl rfl ?_
              refine st_pass rfl rfl rfl rfl rfl rfl ?_
              refine st_pass rfl rfl rfl rfl rfl rfl ?_
              refine st_pass rfl rfl rfl rfl rfl rfl ?_
              refine st_pass rfl rfl rfl rfl rfl rfl ?_
              refine o_pick rfl rfl rfl rfl rfl ?_
              refine st_end ?_
              refine st_env (ρ' := [(2, .int .i64 0), (38, .bool true)]) ⟨rfl, rfl, trivial⟩ ?_
              refine st_ord [] [] rfl ?_
              exact hk4 _ _ _ ⟨true, h, (Sto.Le.refl _), rfl, rfl⟩
            · replace h := (if_neg (ne_t hc)).mp h
              refine o_fieldAddr rfl rfl rfl z_field64_3 rfl ?_
              refine o_load (j := 0) (v := .int .i64 a0.2.2.2.1) rfl rfl rfl z_sc3 rfl rfl rfl ?_
              refine o_ibin (v := .bool (decide (a0.2.2.2.1 < 0))) rfl rfl rfl rfl rfl rfl ?_
              refine o_pick rfl rfl rfl rfl rfl ?_
              refine o_moveB rfl rfl rfl rfl (fun hc => ?_) (fun hc => ?_)
              · replace h := (if_pos hc).mp h
                refine st_pass rfl rfl rfl rfl rfl rfl ?_
                refine st_pass rfl rfl rfl rfl rfl rfl ?_
                refine st_pass rfl rfl rfl rfl rfl rfl ?_
                refine st_pass rfl rfl rfl rfl rfl rfl ?_
                refine st_pass rfl rfl rfl rfl rfl rfl ?_
                refine o_pick rfl rfl rfl rfl rfl ?_
                refine st_end ?_
                refine st_env (ρ' := [(2, .int .i64 0), (38, .bool true)]) ⟨rfl, rfl, trivial⟩ ?_
                refine st_ord [] [] rfl ?_
                exact hk4 _ _ _ ⟨true, h, (Sto.Le.refl _), rfl, rfl⟩
              · replace h := (if_neg (ne_t hc)).mp h
                refine o_fieldAddr rfl rfl rfl z_field64_3 rfl ?_
                refine o_load (j := 0) (v := .int .i64 a0.2.2.2.1) rfl rfl rfl z_sc3 rfl rfl rfl ?_
                refine o_fieldAddr rfl rfl rfl z_field64_4 rfl ?_
                refine o_load (j := 0) (v := .int .i64 a0.2.2.2.2) rfl rfl rfl z_sc3 rfl rfl rfl ?_
                refine o_ibin (v := .bool (decide (a0.2.2.2.2 ≤ a0.2.2.2.1))) rfl rfl rfl rfl rfl rfl ?_
                refine o_pick rfl rfl rfl rfl rfl ?_
                refine st_end ?_
                refine st_env (ρ' := [(2, .int .i64 0), (38, .bool (decide (a0.2.2.2.2 ≤ a0.2.2.2.1)))]) ⟨rfl, rfl, trivial⟩ ?_
                refine st_ord [] [] rfl ?_
                exact hk4 _ _ _ ⟨(decide (a0.2.2.2.2 ≤ a0.2.2.2.1)), h, (Sto.Le.refl _), rfl, rfl⟩
      refine st_region ?_
      refine o_fieldAddr rfl rfl rfl z_field64_1 rfl ?_
      refine o_load (j := 0) (v := .int .i64 a0.2.1) rfl rfl rfl z_sc3 rfl rfl rfl ?_
      refine o_ibin (v := .bool (decide (a0.2.1 < 1))) rfl rfl rfl rfl rfl rfl ?_
      refine o_moveB rfl rfl rfl rfl (fun hc => ?_) (fun hc => ?_)
      · replace h := (if_pos hc).mp h
        refine st_pass rfl rfl rfl rfl rfl rfl ?_
        refine st_pass rfl rfl rfl rfl rfl rfl ?_
        refine st_pass rfl rfl rfl rfl rfl rfl ?_
        refine o_pick rfl rfl rfl rfl rfl ?_
        refine st_end ?_
        refine st_env (ρ' := [(1, .pointer (some ⟨b1, 0, none⟩)), (2, .int .i64 0), (18, .bool true)]) ⟨rfl, rfl, rfl, trivial⟩ ?_
        exact hk3 _ _ _ ⟨true, h, (Sto.Le.refl _), rfl, rfl⟩
      · replace h := (if_neg (ne_t hc)).mp h
        refine o_fieldAddr rfl rfl rfl z_field64_1 rfl ?_
        refine o_load (j := 0) (v := .int .i64 a0.2.1) rfl rfl rfl z_sc3 rfl rfl rfl ?_
        refine o_ibin (v := .bool (decide (5 < a0.2.1))) rfl rfl rfl rfl rfl rfl ?_
        refine o_pick rfl rfl rfl rfl rfl ?_
        refine st_end ?_
        refine st_env (ρ' := [(1, .pointer (some ⟨b1, 0, none⟩)), (2, .int .i64 0), (18, .bool (decide (5 < a0.2.1)))]) ⟨rfl, rfl, rfl, trivial⟩ ?_
        exact hk3 _ _ _ ⟨(decide (5 < a0.2.1)), h, (Sto.Le.refl _), rfl, rfl⟩
  refine st_region ?_
  refine o_fieldAddr rfl rfl rfl z_field64_0 rfl ?_
  refine o_load (j := 0) (v := .int .i64 a0.1) rfl rfl rfl z_sc3 rfl rfl rfl ?_
  refine o_ibin (v := .bool (!(decide (a0.1 = 1)))) rfl rfl rfl rfl rfl rfl ?_
  refine o_moveB rfl rfl rfl rfl (fun hc => ?_) (fun hc => ?_)
  · replace h := (if_pos hc).mp h
    refine o_fieldAddr rfl rfl rfl z_field64_0 rfl ?_
    refine o_load (j := 0) (v := .int .i64 a0.1) rfl rfl rfl z_sc3 rfl rfl rfl ?_
    refine o_ibin (v := .bool (!(decide (a0.1 = 2)))) rfl rfl rfl rfl rfl rfl ?_
    refine o_pick rfl rfl rfl rfl rfl ?_
    refine st_end ?_
    refine st_env (ρ' := [(1, .pointer (some ⟨b1, 0, none⟩)), (2, .int .i64 0), (10, .bool (!(decide (a0.1 = 2))))]) ⟨rfl, rfl, rfl, trivial⟩ ?_
    exact hk2 _ _ _ ⟨(!(decide (a0.1 = 2))), h, (Sto.Le.refl _), rfl, rfl⟩
  · replace h := (if_neg (ne_t hc)).mp h
    refine st_pass rfl rfl rfl rfl rfl rfl ?_
    refine st_pass rfl rfl rfl rfl rfl rfl ?_
    refine st_pass rfl rfl rfl rfl rfl rfl ?_
    refine o_pick rfl rfl rfl rfl rfl ?_
    refine st_end ?_
    refine st_env (ρ' := [(1, .pointer (some ⟨b1, 0, none⟩)), (2, .int .i64 0), (10, .bool false)]) ⟨rfl, rfl, rfl, trivial⟩ ?_
    exact hk2 _ _ _ ⟨false, h, (Sto.Le.refl _), rfl, rfl⟩
theorem ref07_Parse_ok {a0 : List Int} {v1 : Value} {r : (Int × Int × Int × Int × Int) × Int} (h : ref07_Parse a0 r) (σ : Sto) (hs2 : Sl (kI .u8) σ v1 a0) :
    Does Try.prog 64 [v1] σ [] (fun v τ gs => gs = [] ∧ .tuple [.agg [.int .i64 r.1.1, .int .i64 r.1.2.1, .int .u32 r.1.2.2.1, .int .i64 r.1.2.2.2.1, .int .i64 r.1.2.2.2.2].toArray, .int .i64 r.2].toArray = v) := by
  refine call_of Try.func64 Try.ntmps64 rfl rfl (fun cs fs => ?_)
  refine st_seq ?_
  refine st_region ?_
  refine o_alloc rfl rfl rfl z_zero64 (fun b3 => ?_)
  refine o_assign rfl rfl rfl rfl ?_
  refine st_end ?_
  refine st_seq ?_
  refine st_seq ?_
  refine st_region ?_
  refine o_move rfl rfl rfl rfl ?_
  refine o_lenI rfl rfl rfl z_slT45 rfl hs2 ?_
  refine o_ibin (v := .bool (decide ((a0.length : Int) < 8))) rfl rfl rfl rfl rfl rfl ?_
  refine st_end ?_
  refine st_cond rfl (fun hc => ?_) (fun hc => ?_)
  · replace h := (if_pos hc).mp h
    refine st_seq ?_
    refine st_region ?_
    refine o_build (ps := []) (cs := [.int .i64 0, .int .i64 0, .int .u32 0, .int .i64 0, .int .i64 0]) rfl rfl rfl z_struct64 trivial rfl ?_
    refine o_store (j := 0) (vs := [.int .i64 0, .int .i64 0, .int .u32 0, .int .i64 0, .int .i64 0]) (cs' := [.int .i64 0, .int .i64 0, .int .u32 0, .int .i64 0, .int .i64 0]) rfl rfl rfl z_size64 rfl rfl rfl (ones_cons rfl (ones_cons rfl (ones_cons rfl (ones_cons rfl (ones_cons rfl ones_nil))))) rfl rfl rfl ?_
    refine st_gs [[(b3, .cells [.int .i64 0, .int .i64 0, .int .u32 0, .int .i64 0, .int .i64 0].toArray 64 (0, 0))]] rfl ?_
    refine o_assign rfl rfl rfl rfl ?_
    refine st_end ?_
    obtain rfl := Eq.symm h
    exact st_retC (gs' := []) [.agg [.int .i64 0, .int .i64 0, .int .u32 0, .int .i64 0, .int .i64 0].toArray, .int .i64 13] Try.func64 ⟨⟨_, _, _, _, rfl, mem_flat 0 rfl, fun w hw => cellOfN (vs := [.int .i64 0, .int .i64 0, .int .u32 0, .int .i64 0, .int .i64 0]) z_agg64 rfl w hw⟩, rfl, trivial⟩ (by simp) (Sto.Le.refl _) ⟨rfl, rfl⟩
  · replace h := (if_neg (ne_t hc)).mp h
    refine st_skip ?_
    refine st_seq ?_
    refine st_seq ?_
    refine st_region ?_
    refine o_move rfl rfl rfl rfl ?_
    refine o_lenI rfl rfl rfl z_slT45 rfl hs2 ?_
    refine o_ibin (v := .bool (decide (8 < (a0.length : Int)))) rfl rfl rfl rfl rfl rfl ?_
    refine st_end ?_
    refine st_cond rfl (fun hc => ?_) (fun hc => ?_)
    · replace h := (if_pos hc).mp h
      refine st_seq ?_
      refine st_region ?_
      refine o_build (ps := []) (cs := [.int .i64 0, .int .i64 0, .int .u32 0, .int .i64 0, .int .i64 0]) rfl rfl rfl z_struct64 trivial rfl ?_
      refine o_store (j := 0) (vs := [.int .i64 0, .int .i64 0, .int .u32 0, .int .i64 0, .int .i64 0]) (cs' := [.int .i64 0, .int .i64 0, .int .u32 0, .int .i64 0, .int .i64 0]) rfl rfl rfl z_size64 rfl rfl rfl (ones_cons rfl (ones_cons rfl (ones_cons rfl (ones_cons rfl (ones_cons rfl ones_nil))))) rfl rfl rfl ?_
      refine st_gs [[(b3, .cells [.int .i64 0, .int .i64 0, .int .u32 0, .int .i64 0, .int .i64 0].toArray 64 (0, 0))]] rfl ?_
      refine o_assign rfl rfl rfl rfl ?_
      refine st_end ?_
      obtain rfl := Eq.symm h
      exact st_retC (gs' := []) [.agg [.int .i64 0, .int .i64 0, .int .u32 0, .int .i64 0, .int .i64 0].toArray, .int .i64 3] Try.func64 ⟨⟨_, _, _, _, rfl, mem_flat 0 rfl, fun w hw => cellOfN (vs := [.int .i64 0, .int .i64 0, .int .u32 0, .int .i64 0, .int .i64 0]) z_agg64 rfl w hw⟩, rfl, trivial⟩ (by simp) (Sto.Le.refl _) ⟨rfl, rfl⟩
    · replace h := (if_neg (ne_t hc)).mp h
      refine st_skip ?_
      refine st_seq ?_
      refine st_region ?_
      refine o_assign rfl rfl rfl rfl ?_
      refine st_end ?_
      refine st_seq ?_
      refine st_cut (fun ρ τ4 gs => ∃ (s4 : Int), ref07_Parse_j1 a0 s4 r ∧ σ.Le τ4 ∧ ρ = [(0, v1), (2, .pointer (some ⟨b3, 0, none⟩)), (3, .int .i64 0), (4, .int .u32 s4)] ∧ gs = [[(b3, .cells [.int .i64 0, .int .i64 0, .int .u32 0, .int .i64 0, .int .i64 0].toArray 64 (0, 0))]]) ?_ (fun hk4 => ?_)
      · rintro ρ4 τ4 gs4 ⟨s4, h, hl4, rfl, rfl⟩
        refine st_seq ?_
        obtain ⟨q5, hf6, h⟩ := h
        obtain ⟨q10, hf11, h⟩ := h
        obtain ⟨q15, hf16, h⟩ := h
        obtain ⟨q20, hf21, h⟩ := h
        refine st_draw 19 (tl [fun τ v => (v1 : Value) = v,
    fun τ v => ∃ (b7 : Nat) (of8 : Nat) (vsb7 : List Value), (.pointer (some ⟨b7, of8, none⟩) : Value) = v ∧ CelN τ ⟨b7, of8, none⟩ vsb7 ∧ (kI .u8).rep τ vsb7 q5,
    fun τ v => (.int .u8 q5 : Value) = v,
    fun τ v => (.int .i64 (IntKind.i64.wrap q5) : Value) = v,
    fun τ v => (v1 : Value) = v,
    fun τ v => ∃ (b12 : Nat) (of13 : Nat) (vsb12 : List Value), (.pointer (some ⟨b12, of13, none⟩) : Value) = v ∧ CelN τ ⟨b12, of13, none⟩ vsb12 ∧ (kI .u8).rep τ vsb12 q10,
    fun τ v => (.int .u8 q10 : Value) = v,
    fun τ v => (.int .i64 (IntKind.i64.wrap q10) : Value) = v,
    fun τ v => (.int .u32 s4 : Value) = v,
    fun τ v => (v1 : Value) = v,
    fun τ v => ∃ (b17 : Nat) (of18 : Nat) (vsb17 : List Value), (.pointer (some ⟨b17, of18, none⟩) : Value) = v ∧ CelN τ ⟨b17, of18, none⟩ vsb17 ∧ (kI .u8).rep τ vsb17 q15,
    fun τ v => (.int .u8 q15 : Value) = v,
    fun τ v => (.int .i64 (IntKind.i64.wrap q15) : Value) = v,
    fun τ v => (v1 : Value) = v,
    fun τ v => ∃ (b22 : Nat) (of23 : Nat) (vsb22 : List Value), (.pointer (some ⟨b22, of23, none⟩) : Value) = v ∧ CelN τ ⟨b22, of23, none⟩ vsb22 ∧ (kI .u8).rep τ vsb22 q20,
    fun τ v => (.int .u8 q20 : Value) = v,
    fun τ v => (.int .i64 (IntKind.i64.wrap q20) : Value) = v,
    fun τ v => (.agg [.int .i64 (IntKind.i64.wrap q5), .int .i64 (IntKind.i64.wrap q10), .int .u32 s4, .int .i64 (IntKind.i64.wrap q15), .int .i64 (IntKind.i64.wrap q20)].toArray : Value) = v,
    fun τ v => ∃ (b25 : Nat), (.pointer (some ⟨b25, 0, none⟩) : Value) = v]) (oneG 18 (.cells [.int .i64 0, .int .i64 0, .int .u32 0, .int .i64 0, .int .i64 0].toArray 64 (0, 0))) z_mix rfl (tl_mono ⟨fun _ _ _ _ h => h, ⟨fun _ _ _ hl ⟨b7, of8, vsb7, hv, hc9, hrepb7⟩ => ⟨b7, of8, vsb7, hv, hc9.up hl, Kd.mono _ hl hrepb7⟩, ⟨fun _ _ _ _ h => h, ⟨fun _ _ _ _ h => h, ⟨fun _ _ _ _ h => h, ⟨fun _ _ _ hl ⟨b12, of13, vsb12, hv, hc14, hrepb12⟩ => ⟨b12, of13, vsb12, hv, hc14.up hl, Kd.mono _ hl hrepb12⟩, ⟨fun _ _ _ _ h => h, ⟨fun _ _ _ _ h => h, ⟨fun _ _ _ _ h => h, ⟨fun _ _ _ _ h => h, ⟨fun _ _ _ hl ⟨b17, of18, vsb17, hv, hc19, hrepb17⟩ => ⟨b17, of18, vsb17, hv, hc19.up hl, Kd.mono _ hl hrepb17⟩, ⟨fun _ _ _ _ h => h, ⟨fun _ _ _ _ h => h, ⟨fun _ _ _ _ h => h, ⟨fun _ _ _ hl ⟨b22, of23, vsb22, hv, hc24, hrepb22⟩ => ⟨b22, of23, vsb22, hv, hc24.up hl, Kd.mono _ hl hrepb22⟩, ⟨fun _ _ _ _ h => h, ⟨fun _ _ _ _ h => h, ⟨fun _ _ _ _ h => h, ⟨fun _ _ _ hl ⟨b25, hv⟩ => ⟨b25, hv⟩, trivial⟩⟩⟩⟩⟩⟩⟩⟩⟩⟩⟩⟩⟩⟩⟩⟩⟩⟩⟩) (allB_cons (allB_cons (allB_cons (allB_cons (allB_cons (allB_cons (allB_cons (allB_cons (allB_cons (allB_cons (allB_cons (allB_cons (allB_cons (allB_cons (allB_cons (allB_cons (allB_cons (allB_cons (allB_cons allB_nil ?_) ?_) ?_) ?_) ?_) ?_) ?_) ?_) ?_) ?_) ?_) ?_) ?_) ?_) ?_) ?_) ?_) ?_) ?_) ?_
        · intro ρ' τ pool rs hl hd hout hk
          refine o_move rfl rfl rfl ((hout 0 rfl).trans rfl) ?_
          exact st_addNil (hk _ _ (Sto.Le.refl _) rfl)
        · intro ρ' τ pool rs hl hd hout hk
          obtain ⟨_, e0, rfl⟩ := hd 0 rfl
          refine o_index rfl rfl rfl z_slT45 rfl e0 (hs2.up (hl4.trans hl)) rfl hf6 (fun b7 of8 vsb7 hc9 hrepb7 => ?_)
          exact st_addNil (hk _ _ (Sto.Le.refl _) ⟨b7, of8, vsb7, rfl, hc9, hrepb7⟩)
        · intro ρ' τ pool rs hl hd hout hk
          obtain ⟨_, e1, b7, of8, vsb7, rfl, hc9, hrepb7⟩ := hd 1 rfl
          have hrepb7 := hrepb7
          obtain rfl := hrepb7
          refine o_loadI (v := .int .u8 q5) rfl rfl rfl z_sc5 e1 (hc9 0 _ rfl) ?_
          exact st_addNil (hk _ _ (Sto.Le.refl _) rfl)
        · intro ρ' τ pool rs hl hd hout hk
          obtain ⟨_, e2, rfl⟩ := hd 2 rfl
          refine o_conv rfl rfl rfl Try.underlying5 Try.underlying3 e2 ?_
          exact st_addNil (hk _ _ (Sto.Le.refl _) rfl)
        · intro ρ' τ pool rs hl hd hout hk
          refine o_move rfl rfl rfl ((hout 0 rfl).trans rfl) ?_
          exact st_addNil (hk _ _ (Sto.Le.refl _) rfl)
        · intro ρ' τ pool rs hl hd hout hk
          obtain ⟨_, e4, rfl⟩ := hd 4 rfl
          refine o_index rfl rfl rfl z_slT45 rfl e4 (hs2.up (hl4.trans hl)) rfl hf11 (fun b12 of13 vsb12 hc14 hrepb12 => ?_)
          exact st_addNil (hk _ _ (Sto.Le.refl _) ⟨b12, of13, vsb12, rfl, hc14, hrepb12⟩)
        · intro ρ' τ pool rs hl hd hout hk
          obtain ⟨_, e5, b12, of13, vsb12, rfl, hc14, hrepb12⟩ := hd 5 rfl
          have hrepb12 := hrepb12
          obtain rfl := hrepb12
          refine o_loadI (v := .int .u8 q10) rfl rfl rfl z_sc5 e5 (hc14 0 _ rfl) ?_
          exact st_addNil (hk _ _ (Sto.Le.refl _) rfl)
        · intro ρ' τ pool rs hl hd hout hk
          obtain ⟨_, e6, rfl⟩ := hd 6 rfl
          refine o_conv rfl rfl rfl Try.underlying5 Try.underlying3 e6 ?_
          exact st_addNil (hk _ _ (Sto.Le.refl _) rfl)
        · intro ρ' τ pool rs hl hd hout hk
          refine o_move rfl rfl rfl ((hout 4 rfl).trans rfl) ?_
          exact st_addNil (hk _ _ (Sto.Le.refl _) rfl)
        · intro ρ' τ pool rs hl hd hout hk
          refine o_move rfl rfl rfl ((hout 0 rfl).trans rfl) ?_
          exact st_addNil (hk _ _ (Sto.Le.refl _) rfl)
        · intro ρ' τ pool rs hl hd hout hk
          obtain ⟨_, e9, rfl⟩ := hd 9 rfl
          refine o_index rfl rfl rfl z_slT45 rfl e9 (hs2.up (hl4.trans hl)) rfl hf16 (fun b17 of18 vsb17 hc19 hrepb17 => ?_)
          exact st_addNil (hk _ _ (Sto.Le.refl _) ⟨b17, of18, vsb17, rfl, hc19, hrepb17⟩)
        · intro ρ' τ pool rs hl hd hout hk
          obtain ⟨_, e10, b17, of18, vsb17, rfl, hc19, hrepb17⟩ := hd 10 rfl
          have hrepb17 := hrepb17
          obtain rfl := hrepb17
          refine o_loadI (v := .int .u8 q15) rfl rfl rfl z_sc5 e10 (hc19 0 _ rfl) ?_
          exact st_addNil (hk _ _ (Sto.Le.refl _) rfl)
        · intro ρ' τ pool rs hl hd hout hk
          obtain ⟨_, e11, rfl⟩ := hd 11 rfl
          refine o_conv rfl rfl rfl Try.underlying5 Try.underlying3 e11 ?_
          exact st_addNil (hk _ _ (Sto.Le.refl _) rfl)
        · intro ρ' τ pool rs hl hd hout hk
          refine o_move rfl rfl rfl ((hout 0 rfl).trans rfl) ?_
          exact st_addNil (hk _ _ (Sto.Le.refl _) rfl)
        · intro ρ' τ pool rs hl hd hout hk
          obtain ⟨_, e13, rfl⟩ := hd 13 rfl
          refine o_index rfl rfl rfl z_slT45 rfl e13 (hs2.up (hl4.trans hl)) rfl hf21 (fun b22 of23 vsb22 hc24 hrepb22 => ?_)
          exact st_addNil (hk _ _ (Sto.Le.refl _) ⟨b22, of23, vsb22, rfl, hc24, hrepb22⟩)
        · intro ρ' τ pool rs hl hd hout hk
          obtain ⟨_, e14, b22, of23, vsb22, rfl, hc24, hrepb22⟩ := hd 14 rfl
          have hrepb22 := hrepb22
          obtain rfl := hrepb22
          refine o_loadI (v := .int .u8 q20) rfl rfl rfl z_sc5 e14 (hc24 0 _ rfl) ?_
          exact st_addNil (hk _ _ (Sto.Le.refl _) rfl)
        · intro ρ' τ pool rs hl hd hout hk
          obtain ⟨_, e15, rfl⟩ := hd 15 rfl
          refine o_conv rfl rfl rfl Try.underlying5 Try.underlying3 e15 ?_
          exact st_addNil (hk _ _ (Sto.Le.refl _) rfl)
        · intro ρ' τ pool rs hl hd hout hk
          obtain ⟨_, e3, rfl⟩ := hd 3 rfl
          obtain ⟨_, e7, rfl⟩ := hd 7 rfl
          obtain ⟨_, e8, rfl⟩ := hd 8 rfl
          obtain ⟨_, e12, rfl⟩ := hd 12 rfl
          obtain ⟨_, e16, rfl⟩ := hd 16 rfl
          refine o_build (ps := [(0, [.int .i64 (IntKind.i64.wrap q5)]), (1, [.int .i64 (IntKind.i64.wrap q10)]), (2, [.int .u32 s4]), (3, [.int .i64 (IntKind.i64.wrap q15)]), (4, [.int .i64 (IntKind.i64.wrap q20)])]) (cs := [.int .i64 (IntKind.i64.wrap q5), .int .i64 (IntKind.i64.wrap q10), .int .u32 s4, .int .i64 (IntKind.i64.wrap q15), .int .i64 (IntKind.i64.wrap q20)]) rfl rfl rfl z_struct64 ⟨rfl, ⟨_, e3, rfl⟩, ⟨rfl, ⟨_, e7, rfl⟩, ⟨rfl, ⟨_, e8, rfl⟩, ⟨rfl, ⟨_, e12, rfl⟩, ⟨rfl, ⟨_, e16, rfl⟩, trivial⟩⟩⟩⟩⟩ rfl ?_
          exact st_addNil (hk _ _ (Sto.Le.refl _) rfl)
        · intro ρ' τ pool rs hl hd hout hk
          refine o_alloc rfl rfl rfl z_zero64 (fun b25 => ?_)
          exact hk _ _ (Sto.Le.refl _) ⟨b25, rfl⟩
        intro ρ' τ26 vals hl26 hv hout
        have l17 : Eng.look ρ' 44 = some (.agg [.int .i64 (IntKind.i64.wrap q5), .int .i64 (IntKind.i64.wrap q10), .int .u32 s4, .int .i64 (IntKind.i64.wrap q15), .int .i64 (IntKind.i64.wrap q20)].toArray) := (hv 17 (by decide)).1.trans (congrArg some (show vals 17 = .agg [.int .i64 (IntKind.i64.wrap q5), .int .i64 (IntKind.i64.wrap q10), .int .u32 s4, .int .i64 (IntKind.i64.wrap q15), .int .i64 (IntKind.i64.wrap q20)].toArray from Eq.symm (hv 17 (by decide)).2))
        obtain ⟨l18, b25, t18⟩ := hv 18 (by decide)
        replace l18 : Eng.look ρ' 6 = some (.pointer (some ⟨b25, 0, none⟩)) := l18.trans (congrArg some (Eq.symm t18))
        refine st_gs [[(b3, .cells [.int .i64 0, .int .i64 0, .int .u32 0, .int .i64 0, .int .i64 0].toArray 64 (0, 0))], [(b25, .cells [.int .i64 0, .int .i64 0, .int .u32 0, .int .i64 0, .int .i64 0].toArray 64 (0, 0))]] (by rw [oneG_flat (by decide) (Eq.symm t18)]; rfl) ?_
        refine st_env (ρ' := [(44, .agg [.int .i64 (IntKind.i64.wrap q5), .int .i64 (IntKind.i64.wrap q10), .int .u32 s4, .int .i64 (IntKind.i64.wrap q15), .int .i64 (IntKind.i64.wrap q20)].toArray), (6, .pointer (some ⟨b25, 0, none⟩)), (2, .pointer (some ⟨b3, 0, none⟩)), (3, .int .i64 0)]) ⟨l17, l18, (hout 2 rfl).trans rfl, (hout 3 rfl).trans rfl, trivial⟩ ?_
        refine o_store (j := 1) (vs := [.int .i64 (IntKind.i64.wrap q5), .int .i64 (IntKind.i64.wrap q10), .int .u32 s4, .int .i64 (IntKind.i64.wrap q15), .int .i64 (IntKind.i64.wrap q20)]) (cs' := [.int .i64 (IntKind.i64.wrap q5), .int .i64 (IntKind.i64.wrap q10), .int .u32 s4, .int .i64 (IntKind.i64.wrap q15), .int .i64 (IntKind.i64.wrap q20)]) rfl rfl rfl z_size64 rfl rfl rfl (ones_cons rfl (ones_cons rfl (ones_cons rfl (ones_cons rfl (ones_cons rfl ones_nil))))) rfl rfl rfl ?_
        refine st_gs [[(b3, .cells [.int .i64 0, .int .i64 0, .int .u32 0, .int .i64 0, .int .i64 0].toArray 64 (0, 0))], [(b25, .cells [.int .i64 (IntKind.i64.wrap q5), .int .i64 (IntKind.i64.wrap q10), .int .u32 s4, .int .i64 (IntKind.i64.wrap q15), .int .i64 (IntKind.i64.wrap q20)].toArray 64 (0, 0))]] rfl ?_
        refine st_end ?_
        refine st_seq ?_
        refine st_seq ?_
        refine st_region ?_
        refine o_loadN (j := 1) (vs := [.int .i64 (IntKind.i64.wrap q5), .int .i64 (IntKind.i64.wrap q10), .int .u32 s4, .int .i64 (IntKind.i64.wrap q15), .int .i64 (IntKind.i64.wrap q20)]) rfl rfl rfl z_agg64 rfl rfl rfl ?_
        obtain ⟨r27, hr28, h⟩ := h
        refine st_call (foot := []) rfl rfl rfl rfl rfl rfl (callV_fn z_en89 (ref07_Check_ok hr28 τ26)) ?_
        rintro vτ29 τ29 gsτ29 hl30 ⟨rfl, rfl⟩
        refine o_ibin (v := .bool (!(decide (r27 = 0)))) rfl rfl rfl rfl rfl rfl ?_
        refine st_end ?_
        refine st_cond rfl (fun hc => ?_) (fun hc => ?_)
        · replace h := (if_pos hc).mp h
          refine st_seq ?_
          refine st_region ?_
          refine o_build (ps := []) (cs := [.int .i64 0, .int .i64 0, .int .u32 0, .int .i64 0, .int .i64 0]) rfl rfl rfl z_struct64 trivial rfl ?_
          refine o_loadN (j := 1) (vs := [.int .i64 (IntKind.i64.wrap q5), .int .i64 (IntKind.i64.wrap q10), .int .u32 s4, .int .i64 (IntKind.i64.wrap q15), .int .i64 (IntKind.i64.wrap q20)]) rfl rfl rfl z_agg64 rfl rfl rfl ?_
          obtain ⟨r31, hr32, h⟩ := h
          refine st_call (foot := []) rfl rfl rfl rfl rfl rfl (callV_fn z_en89 (ref07_Check_ok hr32 τ29)) ?_
          rintro vτ33 τ33 gsτ33 hl34 ⟨rfl, rfl⟩
          refine o_store (j := 0) (vs := [.int .i64 0, .int .i64 0, .int .u32 0, .int .i64 0, .int .i64 0]) (cs' := [.int .i64 0, .int .i64 0, .int .u32 0, .int .i64 0, .int .i64 0]) rfl rfl rfl z_size64 rfl rfl rfl (ones_cons rfl (ones_cons rfl (ones_cons rfl (ones_cons rfl (ones_cons rfl ones_nil))))) rfl rfl rfl ?_
          refine st_gs [[(b3, .cells [.int .i64 0, .int .i64 0, .int .u32 0, .int .i64 0, .int .i64 0].toArray 64 (0, 0))], [(b25, .cells [.int .i64 (IntKind.i64.wrap q5), .int .i64 (IntKind.i64.wrap q10), .int .u32 s4, .int .i64 (IntKind.i64.wrap q15), .int .i64 (IntKind.i64.wrap q20)].toArray 64 (0, 0))]] rfl ?_
          refine o_assign rfl rfl rfl rfl ?_
          refine st_end ?_
          obtain rfl := Eq.symm h
          exact st_retC (gs' := []) [.agg [.int .i64 0, .int .i64 0, .int .u32 0, .int .i64 0, .int .i64 0].toArray, .int .i64 r31] Try.func64 ⟨⟨_, _, _, _, rfl, mem_flat 0 rfl, fun w hw => cellOfN (vs := [.int .i64 0, .int .i64 0, .int .u32 0, .int .i64 0, .int .i64 0]) z_agg64 rfl w hw⟩, rfl, trivial⟩ (by simp) (((hl4.trans hl26).trans hl30).trans hl34) ⟨rfl, rfl⟩
        · replace h := (if_neg (ne_t hc)).mp h
          refine st_skip ?_
          refine st_seq ?_
          refine st_region ?_
          refine o_loadN (j := 1) (vs := [.int .i64 (IntKind.i64.wrap q5), .int .i64 (IntKind.i64.wrap q10), .int .u32 s4, .int .i64 (IntKind.i64.wrap q15), .int .i64 (IntKind.i64.wrap q20)]) rfl rfl rfl z_agg64 rfl rfl rfl ?_
          refine o_store (j := 0) (vs := [.int .i64 (IntKind.i64.wrap q5), .int .i64 (IntKind.i64.wrap q10), .int .u32 s4, .int .i64 (IntKind.i64.wrap q15), .int .i64 (IntKind.i64.wrap q20)]) (cs' := [.int .i64 (IntKind.i64.wrap q5), .int .i64 (IntKind.i64.wrap q10), .int .u32 s4, .int .i64 (IntKind.i64.wrap q15), .int .i64 (IntKind.i64.wrap q20)]) rfl rfl rfl z_size64 rfl rfl rfl (ones_cons rfl (ones_cons rfl (ones_cons rfl (ones_cons rfl (ones_cons rfl ones_nil))))) rfl rfl rfl ?_
          refine st_gs [[(b3, .cells [.int .i64 (IntKind.i64.wrap q5), .int .i64 (IntKind.i64.wrap q10), .int .u32 s4, .int .i64 (IntKind.i64.wrap q15), .int .i64 (IntKind.i64.wrap q20)].toArray 64 (0, 0))], [(b25, .cells [.int .i64 (IntKind.i64.wrap q5), .int .i64 (IntKind.i64.wrap q10), .int .u32 s4, .int .i64 (IntKind.i64.wrap q15), .int .i64 (IntKind.i64.wrap q20)].toArray 64 (0, 0))]] rfl ?_
          refine o_assign rfl rfl rfl rfl ?_
          refine st_end ?_
          obtain rfl := Eq.symm h
          exact st_retC (gs' := []) [.agg [.int .i64 (IntKind.i64.wrap q5), .int .i64 (IntKind.i64.wrap q10), .int .u32 s4, .int .i64 (IntKind.i64.wrap q15), .int .i64 (IntKind.i64.wrap q20)].toArray, .int .i64 0] Try.func64 ⟨⟨_, _, _, _, rfl, mem_flat 0 rfl, fun w hw => cellOfN (vs := [.int .i64 (IntKind.i64.wrap q5), .int .i64 (IntKind.i64.wrap q10), .int .u32 s4, .int .i64 (IntKind.i64.wrap q15), .int .i64 (IntKind.i64.wrap q20)]) z_agg64 rfl w hw⟩, rfl, trivial⟩ (by simp) ((hl4.trans hl26).trans hl30) ⟨rfl, rfl⟩
      refine st_seq ?_
      refine st_region ?_
      refine o_assign rfl rfl rfl rfl ?_
      refine st_end ?_
      obtain ⟨e35, hL35, hA35⟩ := h
      refine st_env (ρ' := [(0, v1), (2, .pointer (some ⟨b3, 0, none⟩)), (3, .int .i64 0), (4, .int .u32 0), (5, .int .i64 5)]) ⟨rfl, rfl, rfl, rfl, rfl, trivial⟩ ?_
      refine st_loop hL35 (fun (s35 : Int × Int) ρ τ35 gs => σ.Le τ35 ∧ ρ = [(0, v1), (2, .pointer (some ⟨b3, 0, none⟩)), (3, .int .i64 0), (4, .int .u32 s35.1), (5, .int .i64 s35.2)] ∧ gs = [[(b3, .cells [.int .i64 0, .int .i64 0, .int .u32 0, .int .i64 0, .int .i64 0].toArray 64 (0, 0))]]) ⟨Sto.Le.refl _, rfl, rfl⟩ ?_
      rintro s35 o35 h he35 ρ35 τ35 gs35 ⟨hl35, rfl, rfl⟩ hn35
      refine st_seq ?_
      refine st_seq ?_
      refine st_region ?_
      refine o_move rfl rfl rfl rfl ?_
      refine o_ibin (v := .bool (decide (1 < s35.2))) rfl rfl rfl rfl rfl rfl ?_
      refine st_end ?_
      refine st_cond rfl (fun hc => ?_) (fun hc => ?_)
      · replace h := (if_pos hc).mp h
        refine st_skip ?_
        refine st_seq ?_
        refine st_block ?_
        refine st_region ?_
        refine o_move rfl rfl rfl rfl ?_
        refine o_ibin (v := .int .u32 (IntKind.u32.wrap (256 * s35.1))) rfl rfl rfl rfl rfl rfl ?_
        refine o_move rfl rfl rfl rfl ?_
        refine o_move rfl rfl rfl rfl ?_
        obtain ⟨q36, hf37, h⟩ := h
        refine o_index rfl rfl rfl z_slT45 rfl rfl (hs2.up hl35) rfl hf37 (fun b38 of39 vs hc40 hrep => ?_)
        obtain rfl := hrep
        refine o_loadI (v := .int .u8 q36) rfl rfl rfl z_sc5 rfl (hc40 0 _ rfl) ?_
        refine o_conv rfl rfl rfl Try.underlying5 Try.underlying22 rfl ?_
        refine o_ibin (v := .int .u32 (IntKind.u32.wrap ((IntKind.u32.wrap (256 * s35.1)) + (IntKind.u32.wrap q36)))) rfl rfl rfl rfl rfl rfl ?_
        refine o_assign rfl rfl rfl rfl ?_
        refine st_end ?_
        refine st_inBlock ?_
        refine st_region ?_
        refine o_move rfl rfl rfl rfl ?_
        refine o_ibin (v := .int .i64 (IntKind.i64.wrap (s35.2 - 1))) rfl rfl rfl rfl rfl rfl ?_
        refine o_assign rfl rfl rfl rfl ?_
        refine st_end ?_
        refine st_env (ρ' := [(0, v1), (2, .pointer (some ⟨b3, 0, none⟩)), (3, .int .i64 0), (4, .int .u32 (IntKind.u32.wrap ((IntKind.u32.wrap (256 * s35.1)) + (IntKind.u32.wrap q36)))), (5, .int .i64 (IntKind.i64.wrap (s35.2 - 1)))]) ⟨rfl, rfl, rfl, rfl, rfl, trivial⟩ ?_
        exact hn35 _ _ _ _ h ⟨hl35, rfl, rfl⟩
      · replace h := (if_neg (ne_t hc)).mp h
        refine st_exit rfl ?_
        obtain rfl := he35 _ h
        replace h := hA35
        refine st_env (ρ' := [(0, v1), (2, .pointer (some ⟨b3, 0, none⟩)), (3, .int .i64 0), (4, .int .u32 s35.1)]) ⟨rfl, rfl, rfl, rfl, trivial⟩ ?_
        exact hk4 _ _ _ ⟨s35.1, h, hl35, rfl, rfl⟩
theorem ref08_Unpack_ok {a0 : List Int} {v1 : Value} {r : ((Int × Int × Int × Int × Int) × List Int) × Int} (h : ref08_Unpack a0 r) (σ : Sto) (hs2 : Sl (kI .u8) σ v1 a0) :
    Does Try.prog 31 [v1] σ [] (fun v τ gs => ∃ (v51 : Value), gs = [] ∧ .tuple [.agg [.int .i64 r.1.1.1, .int .i64 r.1.1.2.1, .int .u32 r.1.1.2.2.1, .int .i64 r.1.1.2.2.2.1, .int .i64 r.1.1.2.2.2.2, v51].toArray, .int .i64 r.2].toArray = v ∧ Sl (kI .u8) τ v51 r.1.2) := by
  refine call_of Try.func31 Try.ntmps31 rfl rfl (fun cs fs => ?_)
  refine st_seq ?_
  refine st_region ?_
  refine o_alloc rfl rfl rfl z_zero66 (fun b3 => ?_)
  refine o_assign rfl rfl rfl rfl ?_
  refine st_end ?_
  refine st_seq ?_
  refine st_seq ?_
  refine st_region ?_
  refine o_move rfl rfl rfl rfl ?_
  refine o_lenI rfl rfl rfl z_slT45 rfl hs2 ?_
  refine o_ibin (v := .bool (decide (255 < (a0.length : Int)))) rfl rfl rfl rfl rfl rfl ?_
  refine st_end ?_
  refine st_cond rfl (fun hc => ?_) (fun hc => ?_)
  · replace h := (if_pos hc).mp h
    refine st_seq ?_
    refine st_region ?_
    refine o_build (ps := []) (cs := [.int .i64 0, .int .i64 0, .int .u32 0, .int .i64 0, .int .i64 0, .slice none 0 0]) rfl rfl rfl z_struct66 trivial rfl ?_
    refine o_store (j := 0) (vs := [.int .i64 0, .int .i64 0, .int .u32 0, .int .i64 0, .int .i64 0, .slice none 0 0]) (cs' := [.int .i64 0, .int .i64 0, .int .u32 0, .int .i64 0, .int .i64 0, .slice none 0 0]) rfl rfl rfl z_size66 rfl rfl rfl (ones_cons rfl (ones_cons rfl (ones_cons rfl (ones_cons rfl (ones_cons rfl (ones_cons rfl ones_nil)))))) rfl rfl rfl ?_
    refine st_gs [[(b3, .cells [.int .i64 0, .int .i64 0, .int .u32 0, .int .i64 0, .int .i64 0, .slice none 0 0].toArray 66 (0, 0))]] rfl ?_
    refine o_assign rfl rfl rfl rfl ?_
    refine st_end ?_
    obtain rfl := Eq.symm h
    exact st_retC (gs' := []) [.agg [.int .i64 0, .int .i64 0, .int .u32 0, .int .i64 0, .int .i64 0, .slice none 0 0].toArray, .int .i64 2] Try.func31 ⟨⟨_, _, _, _, rfl, mem_flat 0 rfl, fun w hw => cellOfN (vs := [.int .i64 0, .int .i64 0, .int .u32 0, .int .i64 0, .int .i64 0, .slice none 0 0]) z_agg66 rfl w hw⟩, rfl, trivial⟩ (by simp) (Sto.Le.refl _) ⟨_, rfl, rfl, Sl.nil⟩
  · replace h := (if_neg (ne_t hc)).mp h
    refine st_skip ?_
    refine st_seq ?_
    refine st_region ?_
    refine o_move rfl rfl rfl rfl ?_
    obtain ⟨r4, hr5, h⟩ := h
    refine st_call (foot := []) rfl rfl rfl rfl rfl rfl (callV_fn z_en63 (ref05_Decode_ok hr5 σ hs2)) ?_
    rintro vτ6 τ6 gsτ6 hl7 ⟨v8, rfl, rfl, hs9⟩
    refine o_move rfl rfl rfl rfl ?_
    refine o_extract rfl rfl rfl rfl rfl ?_
    refine o_extract rfl rfl rfl rfl rfl ?_
    refine o_assign rfl rfl rfl rfl ?_
    refine o_assign rfl rfl rfl rfl ?_
    refine st_end ?_
    refine st_seq ?_
    refine st_seq ?_
    refine st_region ?_
    refine o_move rfl rfl rfl rfl ?_
    refine o_ibin (v := .bool (!(decide (r4.2 = 0)))) rfl rfl rfl rfl rfl rfl ?_
    refine st_end ?_
    refine st_cond rfl (fun hc => ?_) (fun hc => ?_)
    · replace h := (if_pos hc).mp h
      refine st_seq ?_
      refine st_region ?_
      refine o_build (ps := []) (cs := [.int .i64 0, .int .i64 0, .int .u32 0, .int .i64 0, .int .i64 0, .slice none 0 0]) rfl rfl rfl z_struct66 trivial rfl ?_
      refine o_move rfl rfl rfl rfl ?_
      refine o_store (j := 0) (vs := [.int .i64 0, .int .i64 0, .int .u32 0, .int .i64 0, .int .i64 0, .slice none 0 0]) (cs' := [.int .i64 0, .int .i64 0, .int .u32 0, .int .i64 0, .int .i64 0, .slice none 0 0]) rfl rfl rfl z_size66 rfl rfl rfl (ones_cons rfl (ones_cons rfl (ones_cons rfl (ones_cons rfl (ones_cons rfl (ones_cons rfl ones_nil)))))) rfl rfl rfl ?_
      refine st_gs [[(b3, .cells [.int .i64 0, .int .i64 0, .int .u32 0, .int .i64 0, .int .i64 0, .slice none 0 0].toArray 66 (0, 0))]] rfl ?_
      refine o_assign rfl rfl rfl rfl ?_
      refine st_end ?_
      obtain rfl := Eq.symm h
      exact st_retC (gs' := []) [.agg [.int .i64 0, .int .i64 0, .int .u32 0, .int .i64 0, .int .i64 0, .slice none 0 0].toArray, .int .i64 r4.2] Try.func31 ⟨⟨_, _, _, _, rfl, mem_flat 0 rfl, fun w hw => cellOfN (vs := [.int .i64 0, .int .i64 0, .int .u32 0, .int .i64 0, .int .i64 0, .slice none 0 0]) z_agg66 rfl w hw⟩, rfl, trivial⟩ (by simp) hl7 ⟨_, rfl, rfl, Sl.nil⟩
    · replace h := (if_neg (ne_t hc)).mp h
      refine st_skip ?_
      refine st_seq ?_
      refine st_seq ?_
      refine st_region ?_
      refine o_move rfl rfl rfl rfl ?_
      refine o_lenI rfl rfl rfl z_slT45 rfl hs9 ?_
      refine o_ibin (v := .bool (decide ((r4.1.length : Int) < 13))) rfl rfl rfl rfl rfl rfl ?_
      refine st_end ?_
      refine st_cond rfl (fun hc => ?_) (fun hc => ?_)
      · replace h := (if_pos hc).mp h
        refine st_seq ?_
        refine st_region ?_
        refine o_build (ps := []) (cs := [.int .i64 0, .int .i64 0, .int .u32 0, .int .i64 0, .int .i64 0, .slice none 0 0]) rfl rfl rfl z_struct66 trivial rfl ?_
        refine o_store (j := 0) (vs := [.int .i64 0, .int .i64 0, .int .u32 0, .int .i64 0, .int .i64 0, .slice none 0 0]) (cs' := [.int .i64 0, .int .i64 0, .int .u32 0, .int .i64 0, .int .i64 0, .slice none 0 0]) rfl rfl rfl z_size66 rfl rfl rfl (ones_cons rfl (ones_cons rfl (ones_cons rfl (ones_cons rfl (ones_cons rfl (ones_cons rfl ones_nil)))))) rfl rfl rfl ?_
        refine st_gs [[(b3, .cells [.int .i64 0, .int .i64 0, .int .u32 0, .int .i64 0, .int .i64 0, .slice none 0 0].toArray 66 (0, 0))]] rfl ?_
        refine o_assign rfl rfl rfl rfl ?_
        refine st_end ?_
        obtain rfl := Eq.symm h
        exact st_retC (gs' := []) [.agg [.int .i64 0, .int .i64 0, .int .u32 0, .int .i64 0, .int .i64 0, .slice none 0 0].toArray, .int .i64 13] Try.func31 ⟨⟨_, _, _, _, rfl, mem_flat 0 rfl, fun w hw => cellOfN (vs := [.int .i64 0, .int .i64 0, .int .u32 0, .int .i64 0, .int .i64 0, .slice none 0 0]) z_agg66 rfl w hw⟩, rfl, trivial⟩ (by simp) hl7 ⟨_, rfl, rfl, Sl.nil⟩
      · replace h := (if_neg (ne_t hc)).mp h
        refine st_skip ?_
        refine st_seq ?_
        refine st_region ?_
        refine o_move rfl rfl rfl rfl ?_
        obtain ⟨r10, hr11, h⟩ := h
        refine st_call (foot := []) rfl rfl rfl rfl rfl rfl (callV_fn z_en56 (ref04_Open_ok hr11 τ6 hs9)) ?_
        rintro vτ12 τ12 gsτ12 hl13 ⟨v14, rfl, rfl, hs15⟩
        refine o_move rfl rfl rfl rfl ?_
        refine o_extract rfl rfl rfl rfl rfl ?_
        refine o_extract rfl rfl rfl rfl rfl ?_
        refine o_assign rfl rfl rfl rfl ?_
        refine o_assign rfl rfl rfl rfl ?_
        refine st_end ?_
        refine st_seq ?_
        refine st_seq ?_
        refine st_region ?_
        refine o_move rfl rfl rfl rfl ?_
        refine o_ibin (v := .bool (!(decide (r10.2 = 0)))) rfl rfl rfl rfl rfl rfl ?_
        refine st_end ?_
        refine st_cond rfl (fun hc => ?_) (fun hc => ?_)
        · replace h := (if_pos hc).mp h
          refine st_seq ?_
          refine st_region ?_
          refine o_build (ps := []) (cs := [.int .i64 0, .int .i64 0, .int .u32 0, .int .i64 0, .int .i64 0, .slice none 0 0]) rfl rfl rfl z_struct66 trivial rfl ?_
          refine o_move rfl rfl rfl rfl ?_
          refine o_store (j := 0) (vs := [.int .i64 0, .int .i64 0, .int .u32 0, .int .i64 0, .int .i64 0, .slice none 0 0]) (cs' := [.int .i64 0, .int .i64 0, .int .u32 0, .int .i64 0, .int .i64 0, .slice none 0 0]) rfl rfl rfl z_size66 rfl rfl rfl (ones_cons rfl (ones_cons rfl (ones_cons rfl (ones_cons rfl (ones_cons rfl (ones_cons rfl ones_nil)))))) rfl rfl rfl ?_
          refine st_gs [[(b3, .cells [.int .i64 0, .int .i64 0, .int .u32 0, .int .i64 0, .int .i64 0, .slice none 0 0].toArray 66 (0, 0))]] rfl ?_
          refine o_assign rfl rfl rfl rfl ?_
          refine st_end ?_
          obtain rfl := Eq.symm h
          exact st_retC (gs' := []) [.agg [.int .i64 0, .int .i64 0, .int .u32 0, .int .i64 0, .int .i64 0, .slice none 0 0].toArray, .int .i64 r10.2] Try.func31 ⟨⟨_, _, _, _, rfl, mem_flat 0 rfl, fun w hw => cellOfN (vs := [.int .i64 0, .int .i64 0, .int .u32 0, .int .i64 0, .int .i64 0, .slice none 0 0]) z_agg66 rfl w hw⟩, rfl, trivial⟩ (by simp) (hl7.trans hl13) ⟨_, rfl, rfl, Sl.nil⟩
        · replace h := (if_neg (ne_t hc)).mp h
          refine st_skip ?_
          refine st_seq ?_
          refine st_region ?_
          refine o_move rfl rfl rfl rfl ?_
          obtain ⟨hf16, h⟩ := h
          refine o_slice (L := 0) (H := 8) rfl rfl rfl z_slT45 rfl rfl hs15 rfl ⟨_, rfl⟩ (by decide) (by decide) hf16 trivial (by simp) (fun v17 hs18 => ?_)
          obtain ⟨r19, hr20, h⟩ := h
          refine st_call (foot := []) rfl rfl rfl rfl rfl rfl (callV_fn z_en64 (ref07_Parse_ok hr20 τ12 hs18)) ?_
          rintro vτ21 τ21 gsτ21 hl22 ⟨rfl, rfl⟩
          refine o_move rfl rfl rfl rfl ?_
          refine o_extract rfl rfl rfl rfl rfl ?_
          refine o_extract rfl rfl rfl rfl rfl ?_
          refine o_alloc rfl rfl rfl z_zero64 (fun b23 => ?_)
          refine o_store (j := 0) (vs := [.int .i64 r19.1.1, .int .i64 r19.1.2.1, .int .u32 r19.1.2.2.1, .int .i64 r19.1.2.2.2.1, .int .i64 r19.1.2.2.2.2]) (cs' := [.int .i64 r19.1.1, .int .i64 r19.1.2.1, .int .u32 r19.1.2.2.1, .int .i64 r19.1.2.2.2.1, .int .i64 r19.1.2.2.2.2]) rfl rfl rfl z_size64 rfl rfl rfl (ones_cons rfl (ones_cons rfl (ones_cons rfl (ones_cons rfl (ones_cons rfl ones_nil))))) rfl rfl rfl ?_
          refine st_gs [[(b23, .cells [.int .i64 r19.1.1, .int .i64 r19.1.2.1, .int .u32 r19.1.2.2.1, .int .i64 r19.1.2.2.2.1, .int .i64 r19.1.2.2.2.2].toArray 64 (0, 0))], [(b3, .cells [.int .i64 0, .int .i64 0, .int .u32 0, .int .i64 0, .int .i64 0, .slice none 0 0].toArray 66 (0, 0))]] rfl ?_
          refine o_assign rfl rfl rfl rfl ?_
          refine st_end ?_
          refine st_seq ?_
          refine st_seq ?_
          refine st_region ?_
          refine o_move rfl rfl rfl rfl ?_
          refine o_ibin (v := .bool (!(decide (r19.2 = 0)))) rfl rfl rfl rfl rfl rfl ?_
          refine st_end ?_
          refine st_cond rfl (fun hc => ?_) (fun hc => ?_)
          · replace h := (if_pos hc).mp h
            refine st_seq ?_
            refine st_region ?_
            refine o_build (ps := []) (cs := [.int .i64 0, .int .i64 0, .int .u32 0, .int .i64 0, .int .i64 0, .slice none 0 0]) rfl rfl rfl z_struct66 trivial rfl ?_
            refine o_move rfl rfl rfl rfl ?_
            refine o_store (j := 1) (vs := [.int .i64 0, .int .i64 0, .int .u32 0, .int .i64 0, .int .i64 0, .slice none 0 0]) (cs' := [.int .i64 0, .int .i64 0, .int .u32 0, .int .i64 0, .int .i64 0, .slice none 0 0]) rfl rfl rfl z_size66 rfl rfl rfl (ones_cons rfl (ones_cons rfl (ones_cons rfl (ones_cons rfl (ones_cons rfl (ones_cons rfl ones_nil)))))) rfl rfl rfl ?_
            refine st_gs [[(b23, .cells [.int .i64 r19.1.1, .int .i64 r19.1.2.1, .int .u32 r19.1.2.2.1, .int .i64 r19.1.2.2.2.1, .int .i64 r19.1.2.2.2.2].toArray 64 (0, 0))], [(b3, .cells [.int .i64 0, .int .i64 0, .int .u32 0, .int .i64 0, .int .i64 0, .slice none 0 0].toArray 66 (0, 0))]] rfl ?_
            refine o_assign rfl rfl rfl rfl ?_
            refine st_end ?_
            obtain rfl := Eq.symm h
            exact st_retC (gs' := []) [.agg [.int .i64 0, .int .i64 0, .int .u32 0, .int .i64 0, .int .i64 0, .slice none 0 0].toArray, .int .i64 r19.2] Try.func31 ⟨⟨_, _, _, _, rfl, mem_flat 1 rfl, fun w hw => cellOfN (vs := [.int .i64 0, .int .i64 0, .int .u32 0, .int .i64 0, .int .i64 0, .slice none 0 0]) z_agg66 rfl w hw⟩, rfl, trivial⟩ (by simp) ((hl7.trans hl13).trans hl22) ⟨_, rfl, rfl, Sl.nil⟩
          · replace h := (if_neg (ne_t hc)).mp h
            refine st_skip ?_
            refine st_seq ?_
            obtain ⟨hf30, h⟩ := h
            obtain ⟨hf31, h⟩ := h
            obtain ⟨hf37, h⟩ := h
            obtain ⟨hf38, h⟩ := h
            refine st_draw2 (gs := [[(b23, .cells [.int .i64 r19.1.1, .int .i64 r19.1.2.1, .int .u32 r19.1.2.2.1, .int .i64 r19.1.2.2.2.1, .int .i64 r19.1.2.2.2.2].toArray 64 (0, 0))], [(b3, .cells [.int .i64 0, .int .i64 0, .int .u32 0, .int .i64 0, .int .i64 0, .slice none 0 0].toArray 66 (0, 0))]]) (F0 := []) 6 3 (tlS [none, some 0, none, none, some 1, some 2]) (tlN [0, 44, 47, 48]) (tl [fun τ v => (.agg [.int .i64 r19.1.1, .int .i64 r19.1.2.1, .int .u32 r19.1.2.2.1, .int .i64 r19.1.2.2.2.1, .int .i64 r19.1.2.2.2.2].toArray : Value) = v,
    fun _ _ => True,
    fun τ v => (v14 : Value) = v,
    fun τ v => ∃ (v32 : Value), (v32 : Value) = v ∧ Sl (kI .u8) τ v32 ((r10.1.drop (8 : Int).toNat).take (((r10.1.length : Int) : Int) - 8).toNat),
    fun _ _ => True,
    fun _ _ => True]) (tlI [fun τ u F => F = [],
    fun τ u F => ∃ (v27 : Value) (g28 : Grp), F = [g28] ∧ v27 = u ∧ Ow (kI .u8) 5 τ v27 ([] : List Int) g28,
    fun τ u F => ∃ (v39 : Value) (g40 : Grp), F = [g40] ∧ v39 = u ∧ Ow (kI .u8) 5 τ v39 (([] : List Int) ++ ((r10.1.drop (8 : Int).toNat).take (((r10.1.length : Int) : Int) - 8).toNat)) g40,
    fun τ u F => ∃ (v42 : Value) (g43 : Grp), F = [g43] ∧ .agg [.int .i64 r19.1.1, .int .i64 r19.1.2.1, .int .u32 r19.1.2.2.1, .int .i64 r19.1.2.2.2.1, .int .i64 r19.1.2.2.2.2, v42].toArray = u ∧ Ow (kI .u8) 5 τ v42 (([] : List Int) ++ ((r10.1.drop (8 : Int).toNat).take (((r10.1.length : Int) : Int) - 8).toNat)) g43]) z_mix rfl (tl_mono ⟨fun _ _ _ _ h => h, ⟨fun _ _ _ _ _ => trivial, ⟨fun _ _ _ _ h => h, ⟨fun _ _ _ hl ⟨v32, hv, hs33⟩ => ⟨v32, hv, hs33.up hl⟩, ⟨fun _ _ _ _ _ => trivial, ⟨fun _ _ _ _ _ => trivial, trivial⟩⟩⟩⟩⟩⟩) (tlI_mono ⟨fun _ _ _ _ hl h => h, ⟨fun _ _ _ _ hl h => (let ⟨v27, g28, hF, hU, ho29⟩ := h; ⟨v27, g28, hF, hU, ho29.up hl⟩), ⟨fun _ _ _ _ hl h => (let ⟨v39, g40, hF, hU, ho41⟩ := h; ⟨v39, g40, hF, hU, ho41.up hl⟩), ⟨fun _ _ _ _ hl h => (let ⟨v42, g43, hF, hU, ho44⟩ := h; ⟨v42, g43, hF, hU, ho44.up hl⟩), trivial⟩⟩⟩⟩) rfl (rowSd rfl) rfl (allB_cons (allB_cons (allB_cons (allB_cons (allB_cons (allB_cons allB_nil ?_) ?_) ?_) ?_) ?_) ?_) ?_
            · intro ρ' τ Fv rs hl hd hout hk
              refine st_flat (gs := [[(b23, .cells [.int .i64 r19.1.1, .int .i64 r19.1.2.1, .int .u32 r19.1.2.2.1, .int .i64 r19.1.2.2.2.1, .int .i64 r19.1.2.2.2.2].toArray 64 (0, 0))], [(b3, .cells [.int .i64 0, .int .i64 0, .int .u32 0, .int .i64 0, .int .i64 0, .slice none 0 0].toArray 66 (0, 0))]]) (fun pool hp => ?_)
              refine o_loadN (j := 0) (vs := [.int .i64 r19.1.1, .int .i64 r19.1.2.1, .int .u32 r19.1.2.2.1, .int .i64 r19.1.2.2.2.1, .int .i64 r19.1.2.2.2.2]) rfl rfl rfl z_agg64 ((hout 6 rfl).trans rfl) rfl rfl ?_
              exact st_unflat (gs := [[(b23, .cells [.int .i64 r19.1.1, .int .i64 r19.1.2.1, .int .u32 r19.1.2.2.1, .int .i64 r19.1.2.2.2.1, .int .i64 r19.1.2.2.2.2].toArray 64 (0, 0))], [(b3, .cells [.int .i64 0, .int .i64 0, .int .u32 0, .int .i64 0, .int .i64 0, .slice none 0 0].toArray 66 (0, 0))]]) hp (hk _ _ (Sto.Le.refl _) rfl)
            · intro ρ' τ u Fv rs hl hI hu hd hout hk
              have hI0 := hI
              obtain rfl := hI
              refine st_gs [[(b23, .cells [.int .i64 r19.1.1, .int .i64 r19.1.2.1, .int .u32 r19.1.2.2.1, .int .i64 r19.1.2.2.2.1, .int .i64 r19.1.2.2.2.2].toArray 64 (0, 0))], [(b3, .cells [.int .i64 0, .int .i64 0, .int .u32 0, .int .i64 0, .int .i64 0, .slice none 0 0].toArray 66 (0, 0))]] rfl ?_
              refine o_lit (dk := (kI .u8)) (xs := ([] : List Int)) (ps := []) (cs := []) rfl rfl rfl z_slT45 z_zero5 trivial rfl rfl rfl rfl Kd.Many.nil (fun v24 g25 ho26 => ?_)
              refine st_ord [1, 1, 0] [[(b23, .cells [.int .i64 r19.1.1, .int .i64 r19.1.2.1, .int .u32 r19.1.2.2.1, .int .i64 r19.1.2.2.2.1, .int .i64 r19.1.2.2.2.2].toArray 64 (0, 0))], [(b3, .cells [.int .i64 0, .int .i64 0, .int .u32 0, .int .i64 0, .int .i64 0, .slice none 0 0].toArray 66 (0, 0))], g25] rfl ?_
              exact hk _ _ [g25] (Sto.Le.refl _) trivial ⟨v24, g25, rfl, rfl, ho26⟩
            · intro ρ' τ Fv rs hl hd hout hk
              refine st_flat (gs := [[(b23, .cells [.int .i64 r19.1.1, .int .i64 r19.1.2.1, .int .u32 r19.1.2.2.1, .int .i64 r19.1.2.2.2.1, .int .i64 r19.1.2.2.2.2].toArray 64 (0, 0))], [(b3, .cells [.int .i64 0, .int .i64 0, .int .u32 0, .int .i64 0, .int .i64 0, .slice none 0 0].toArray 66 (0, 0))]]) (fun pool hp => ?_)
              refine o_move rfl rfl rfl ((hout 4 rfl).trans rfl) ?_
              exact st_unflat (gs := [[(b23, .cells [.int .i64 r19.1.1, .int .i64 r19.1.2.1, .int .u32 r19.1.2.2.1, .int .i64 r19.1.2.2.2.1, .int .i64 r19.1.2.2.2.2].toArray 64 (0, 0))], [(b3, .cells [.int .i64 0, .int .i64 0, .int .u32 0, .int .i64 0, .int .i64 0, .slice none 0 0].toArray 66 (0, 0))]]) hp (hk _ _ (Sto.Le.refl _) rfl)
            · intro ρ' τ Fv rs hl hd hout hk
              obtain ⟨_, e2, rfl⟩ := hd 2 rfl
              refine st_flat (gs := [[(b23, .cells [.int .i64 r19.1.1, .int .i64 r19.1.2.1, .int .u32 r19.1.2.2.1, .int .i64 r19.1.2.2.2.1, .int .i64 r19.1.2.2.2.2].toArray 64 (0, 0))], [(b3, .cells [.int .i64 0, .int .i64 0, .int .u32 0, .int .i64 0, .int .i64 0, .slice none 0 0].toArray 66 (0, 0))]]) (fun pool hp => ?_)
              refine o_slice (L := 8) (H := (r10.1.length : Int)) rfl rfl rfl z_slT45 rfl e2 (hs15.up (hl22.trans hl)) ⟨_, rfl⟩ rfl (by decide) hf30 hf31 trivial (by simp) (fun v32 hs33 => ?_)
              exact st_unflat (gs := [[(b23, .cells [.int .i64 r19.1.1, .int .i64 r19.1.2.1, .int .u32 r19.1.2.2.1, .int .i64 r19.1.2.2.2.1, .int .i64 r19.1.2.2.2.2].toArray 64 (0, 0))], [(b3, .cells [.int .i64 0, .int .i64 0, .int .u32 0, .int .i64 0, .int .i64 0, .slice none 0 0].toArray 66 (0, 0))]]) hp (hk _ _ (Sto.Le.refl _) ⟨v32, rfl, hs33⟩)
            · intro ρ' τ u Fv rs hl hI hu hd hout hk
              obtain ⟨_, e3, v32, rfl, hs33⟩ := hd 3 rfl
              obtain ⟨v27, g28, rfl, rfl, ho29⟩ := hI
              refine st_gs [[(b23, .cells [.int .i64 r19.1.1, .int .i64 r19.1.2.1, .int .u32 r19.1.2.2.1, .int .i64 r19.1.2.2.2.1, .int .i64 r19.1.2.2.2.2].toArray 64 (0, 0))], [(b3, .cells [.int .i64 0, .int .i64 0, .int .u32 0, .int .i64 0, .int .i64 0, .slice none 0 0].toArray 66 (0, 0))], g28] rfl ?_
              refine st_ord [2, 0, 0] [g28, [(b23, .cells [.int .i64 r19.1.1, .int .i64 r19.1.2.1, .int .u32 r19.1.2.2.1, .int .i64 r19.1.2.2.2.1, .int .i64 r19.1.2.2.2.2].toArray 64 (0, 0))], [(b3, .cells [.int .i64 0, .int .i64 0, .int .u32 0, .int .i64 0, .int .i64 0, .slice none 0 0].toArray 66 (0, 0))]] rfl ?_
              refine o_append (dk := (kI .u8)) (xs := ([] : List Int)) (ys := ((r10.1.drop (8 : Int).toNat).take (((r10.1.length : Int) : Int) - 8).toNat)) rfl rfl rfl rfl z_slT45 (hu (by decide)) ho29 e3 (Sl.src hs33) hf37 hf38 (fun v34 g35 ho36 => ?_)
              refine st_ord [1, 1, 0] [[(b23, .cells [.int .i64 r19.1.1, .int .i64 r19.1.2.1, .int .u32 r19.1.2.2.1, .int .i64 r19.1.2.2.2.1, .int .i64 r19.1.2.2.2.2].toArray 64 (0, 0))], [(b3, .cells [.int .i64 0, .int .i64 0, .int .u32 0, .int .i64 0, .int .i64 0, .slice none 0 0].toArray 66 (0, 0))], g35] rfl ?_
              exact hk _ _ [g35] (Sto.Le.refl _) trivial ⟨v34, g35, rfl, rfl, ho36⟩
            · intro ρ' τ u Fv rs hl hI hu hd hout hk
              obtain ⟨_, e0, rfl⟩ := hd 0 rfl
              obtain ⟨v39, g40, rfl, rfl, ho41⟩ := hI
              refine st_gs [[(b23, .cells [.int .i64 r19.1.1, .int .i64 r19.1.2.1, .int .u32 r19.1.2.2.1, .int .i64 r19.1.2.2.2.1, .int .i64 r19.1.2.2.2.2].toArray 64 (0, 0))], [(b3, .cells [.int .i64 0, .int .i64 0, .int .u32 0, .int .i64 0, .int .i64 0, .slice none 0 0].toArray 66 (0, 0))], g40] rfl ?_
              refine o_build (ps := [(0, [.int .i64 r19.1.1, .int .i64 r19.1.2.1, .int .u32 r19.1.2.2.1, .int .i64 r19.1.2.2.2.1, .int .i64 r19.1.2.2.2.2]), (1, [v39])]) (cs := [.int .i64 r19.1.1, .int .i64 r19.1.2.1, .int .u32 r19.1.2.2.1, .int .i64 r19.1.2.2.2.1, .int .i64 r19.1.2.2.2.2, v39]) rfl rfl rfl z_struct66 ⟨rfl, ⟨_, e0, rfl⟩, ⟨rfl, ⟨_, (hu (by decide)), (oneL_ow ho41)⟩, trivial⟩⟩ rfl ?_
              exact hk _ _ [g40] (Sto.Le.refl _) trivial ⟨v39, g40, rfl, rfl, ho41⟩
            intro ρ' τ45 vals u Fv hl45 hI hu hv hout
            obtain ⟨v42, g43, rfl, rfl, ho44⟩ := hI
            refine st_gs [[(b23, .cells [.int .i64 r19.1.1, .int .i64 r19.1.2.1, .int .u32 r19.1.2.2.1, .int .i64 r19.1.2.2.2.1, .int .i64 r19.1.2.2.2.2].toArray 64 (0, 0))], [(b3, .cells [.int .i64 0, .int .i64 0, .int .u32 0, .int .i64 0, .int .i64 0, .slice none 0 0].toArray 66 (0, 0))], g43] rfl ?_
            refine st_env (ρ' := [(2, .pointer (some ⟨b3, 0, none⟩)), (3, .int .i64 0), (48, .agg [.int .i64 r19.1.1, .int .i64 r19.1.2.1, .int .u32 r19.1.2.2.1, .int .i64 r19.1.2.2.2.1, .int .i64 r19.1.2.2.2.2, v42].toArray)]) ⟨(hout 2 rfl).trans rfl, (hout 3 rfl).trans rfl, (by exact hu), trivial⟩ ?_
            refine o_store (j := 1) (vs := [.int .i64 r19.1.1, .int .i64 r19.1.2.1, .int .u32 r19.1.2.2.1, .int .i64 r19.1.2.2.2.1, .int .i64 r19.1.2.2.2.2, v42]) (cs' := [.int .i64 r19.1.1, .int .i64 r19.1.2.1, .int .u32 r19.1.2.2.1, .int .i64 r19.1.2.2.2.1, .int .i64 r19.1.2.2.2.2, v42]) rfl rfl rfl z_size66 rfl rfl rfl (ones_cons rfl (ones_cons rfl (ones_cons rfl (ones_cons rfl (ones_cons rfl (ones_cons ho44.one' ones_nil)))))) rfl rfl rfl ?_
            refine st_gs [[(b23, .cells [.int .i64 r19.1.1, .int .i64 r19.1.2.1, .int .u32 r19.1.2.2.1, .int .i64 r19.1.2.2.2.1, .int .i64 r19.1.2.2.2.2].toArray 64 (0, 0))], [(b3, .cells [.int .i64 r19.1.1, .int .i64 r19.1.2.1, .int .u32 r19.1.2.2.1, .int .i64 r19.1.2.2.2.1, .int .i64 r19.1.2.2.2.2, v42].toArray 66 (0, 0))], g43] rfl ?_
            refine o_assign rfl rfl rfl rfl ?_
            refine st_end ?_
            refine st_ord [2, 0, 0] [g43, [(b23, .cells [.int .i64 r19.1.1, .int .i64 r19.1.2.1, .int .u32 r19.1.2.2.1, .int .i64 r19.1.2.2.2.1, .int .i64 r19.1.2.2.2.2].toArray 64 (0, 0))], [(b3, .cells [.int .i64 r19.1.1, .int .i64 r19.1.2.1, .int .u32 r19.1.2.2.1, .int .i64 r19.1.2.2.2.1, .int .i64 r19.1.2.2.2.2, v42].toArray 66 (0, 0))]] rfl ?_
            refine st_freeze (fun τ46 hl47 hg48 => ?_)
            have hs49 := ho44.freeze hl47 hg48
            obtain rfl := Eq.symm h
            exact st_retC (gs' := []) [.agg [.int .i64 r19.1.1, .int .i64 r19.1.2.1, .int .u32 r19.1.2.2.1, .int .i64 r19.1.2.2.2.1, .int .i64 r19.1.2.2.2.2, v42].toArray, .int .i64 0] Try.func31 ⟨⟨_, _, _, _, rfl, mem_flat 1 rfl, fun w hw => cellOfN (vs := [.int .i64 r19.1.1, .int .i64 r19.1.2.1, .int .u32 r19.1.2.2.1, .int .i64 r19.1.2.2.2.1, .int .i64 r19.1.2.2.2.2, v42]) z_agg66 rfl w hw⟩, rfl, trivial⟩ (by simp) ((((hl7.trans hl13).trans hl22).trans hl45).trans hl47) ⟨_, rfl, rfl, hs49⟩
theorem law08_Of_ok {a0 : (Int × Int × Int × Int × Int) × List Int} {v1 : Value} {r : ((Int × Int × Int × Int × Int) × List Int)} (h : law08_Of a0 r) (σ : Sto) (hs2 : Sl (kI .u8) σ v1 a0.2) :
    Does Try.prog 33 [.agg [.int .i64 a0.1.1, .int .i64 a0.1.2.1, .int .u32 a0.1.2.2.1, .int .i64 a0.1.2.2.2.1, .int .i64 a0.1.2.2.2.2, v1].toArray] σ [] (fun v τ gs => ∃ (v5 : Value), gs = [] ∧ .agg [.int .i64 r.1.1, .int .i64 r.1.2.1, .int .u32 r.1.2.2.1, .int .i64 r.1.2.2.2.1, .int .i64 r.1.2.2.2.2, v5].toArray = v ∧ Sl (kI .u8) τ v5 r.2) := by
  refine call_of Try.func33 Try.ntmps33 rfl rfl (fun cs fs => ?_)
  refine st_seq ?_
  refine st_region ?_
  refine o_box (cs := [.int .i64 a0.1.1, .int .i64 a0.1.2.1, .int .u32 a0.1.2.2.1, .int .i64 a0.1.2.2.2.1, .int .i64 a0.1.2.2.2.2, v1]) rfl rfl rfl rfl rfl (fun b3 => ?_)
  refine o_alloc rfl rfl rfl z_zero66 (fun b4 => ?_)
  refine st_end ?_
  refine st_seq ?_
  refine st_region ?_
  refine o_fieldAddr rfl rfl rfl z_field47_0 rfl ?_
  refine o_loadN (j := 1) (vs := [.int .i64 a0.1.1, .int .i64 a0.1.2.1, .int .u32 a0.1.2.2.1, .int .i64 a0.1.2.2.2.1, .int .i64 a0.1.2.2.2.2]) rfl rfl rfl z_agg44 rfl rfl rfl ?_
  refine o_fieldAddr rfl rfl rfl z_field47_1 rfl ?_
  refine o_load (j := 1) (v := v1) rfl rfl rfl z_sc45 rfl rfl rfl ?_
  refine o_build (ps := [(0, [.int .i64 a0.1.1, .int .i64 a0.1.2.1, .int .u32 a0.1.2.2.1, .int .i64 a0.1.2.2.2.1, .int .i64 a0.1.2.2.2.2]), (1, [v1])]) (cs := [.int .i64 a0.1.1, .int .i64 a0.1.2.1, .int .u32 a0.1.2.2.1, .int .i64 a0.1.2.2.2.1, .int .i64 a0.1.2.2.2.2, v1]) rfl rfl rfl z_struct66 ⟨rfl, ⟨_, rfl, rfl⟩, ⟨rfl, ⟨_, rfl, (oneL_sl hs2)⟩, trivial⟩⟩ rfl ?_
  refine o_store (j := 0) (vs := [.int .i64 a0.1.1, .int .i64 a0.1.2.1, .int .u32 a0.1.2.2.1, .int .i64 a0.1.2.2.2.1, .int .i64 a0.1.2.2.2.2, v1]) (cs' := [.int .i64 a0.1.1, .int .i64 a0.1.2.1, .int .u32 a0.1.2.2.1, .int .i64 a0.1.2.2.2.1, .int .i64 a0.1.2.2.2.2, v1]) rfl rfl rfl z_size66 rfl rfl rfl (ones_cons rfl (ones_cons rfl (ones_cons rfl (ones_cons rfl (ones_cons rfl (ones_cons hs2.one' ones_nil)))))) rfl rfl rfl ?_
  refine st_gs [[(b4, .cells [.int .i64 a0.1.1, .int .i64 a0.1.2.1, .int .u32 a0.1.2.2.1, .int .i64 a0.1.2.2.2.1, .int .i64 a0.1.2.2.2.2, v1].toArray 66 (0, 0))], [(b3, .cells [.int .i64 a0.1.1, .int .i64 a0.1.2.1, .int .u32 a0.1.2.2.1, .int .i64 a0.1.2.2.2.1, .int .i64 a0.1.2.2.2.2, v1].toArray 47 (0, 0))]] rfl ?_
  refine st_end ?_
  obtain rfl := Eq.symm h
  exact st_retC (gs' := []) [.agg [.int .i64 a0.1.1, .int .i64 a0.1.2.1, .int .u32 a0.1.2.2.1, .int .i64 a0.1.2.2.2.1, .int .i64 a0.1.2.2.2.2, v1].toArray] Try.func33 ⟨⟨_, _, _, _, rfl, mem_flat 0 rfl, fun w hw => cellOfN (vs := [.int .i64 a0.1.1, .int .i64 a0.1.2.1, .int .u32 a0.1.2.2.1, .int .i64 a0.1.2.2.2.1, .int .i64 a0.1.2.2.2.2, v1]) z_agg66 rfl w hw⟩, trivial⟩ (by simp) (Sto.Le.refl _) ⟨_, rfl, rfl, hs2⟩
theorem ref08_Same_ok {a0 : (Int × Int × Int × Int × Int) × List Int} {a1 : (Int × Int × Int × Int × Int) × List Int} {v1 : Value} {v3 : Value} {r : Bool} (h : ref08_Same a0 a1 r) (σ : Sto) (hs2 : Sl (kI .u8) σ v1 a0.2) (hs4 : Sl (kI .u8) σ v3 a1.2) :
    Does Try.prog 32 [.agg [.int .i64 a0.1.1, .int .i64 a0.1.2.1, .int .u32 a0.1.2.2.1, .int .i64 a0.1.2.2.2.1, .int .i64 a0.1.2.2.2.2, v1].toArray, .agg [.int .i64 a1.1.1, .int .i64 a1.1.2.1, .int .u32 a1.1.2.2.1, .int .i64 a1.1.2.2.2.1, .int .i64 a1.1.2.2.2.2, v3].toArray] σ [] (fun v τ gs => gs = [] ∧ .bool r = v) := by
  refine call_of Try.func32 Try.ntmps32 rfl rfl (fun cs fs => ?_)
  refine st_seq ?_
  refine st_region ?_
  refine o_box (cs := [.int .i64 a0.1.1, .int .i64 a0.1.2.1, .int .u32 a0.1.2.2.1, .int .i64 a0.1.2.2.2.1, .int .i64 a0.1.2.2.2.2, v1]) rfl rfl rfl rfl rfl (fun b5 => ?_)
  refine o_box (cs := [.int .i64 a1.1.1, .int .i64 a1.1.2.1, .int .u32 a1.1.2.2.1, .int .i64 a1.1.2.2.2.1, .int .i64 a1.1.2.2.2.2, v3]) rfl rfl rfl rfl rfl (fun b6 => ?_)
  refine o_assign rfl rfl rfl rfl ?_
  refine st_end ?_
  refine st_seq ?_
  refine st_cut (fun ρ τ7 gs => ∃ (s7 : Bool), ref08_Same_j1 s7 r ∧ σ.Le τ7 ∧ ρ = [(4, .bool s7)] ∧ gs = []) ?_ (fun hk7 => ?_)
  · rintro ρ7 τ7 gs7 ⟨s7, h, hl7, rfl, rfl⟩
    obtain rfl := Eq.symm h
    exact st_ret (gs' := []) Try.func32 rfl (List.Sublist.refl _) hl7 ⟨rfl, rfl⟩
  refine st_region ?_
  refine o_fieldAddr rfl rfl rfl z_field66_0 rfl ?_
  refine o_loadN (j := 1) (vs := [.int .i64 a0.1.1, .int .i64 a0.1.2.1, .int .u32 a0.1.2.2.1, .int .i64 a0.1.2.2.2.1, .int .i64 a0.1.2.2.2.2]) rfl rfl rfl z_agg64 rfl rfl rfl ?_
  refine o_fieldAddr rfl rfl rfl z_field66_0 rfl ?_
  refine o_loadN (j := 0) (vs := [.int .i64 a1.1.1, .int .i64 a1.1.2.1, .int .u32 a1.1.2.2.1, .int .i64 a1.1.2.2.2.1, .int .i64 a1.1.2.2.2.2]) rfl rfl rfl z_agg64 rfl rfl rfl ?_
  refine o_aggEq (b := ((decide (a0.1.1 = a1.1.1)) && ((decide (a0.1.2.1 = a1.1.2.1)) && ((decide (a0.1.2.2.1 = a1.1.2.2.1)) && ((decide (a0.1.2.2.2.1 = a1.1.2.2.2.1)) && ((decide (a0.1.2.2.2.2 = a1.1.2.2.2.2)) && true)))))) (e := ((decide (a0.1.1 = a1.1.1)) && ((decide (a0.1.2.1 = a1.1.2.1)) && ((decide (a0.1.2.2.1 = a1.1.2.2.1)) && ((decide (a0.1.2.2.2.1 = a1.1.2.2.2.1)) && ((decide (a0.1.2.2.2.2 = a1.1.2.2.2.2)) && true)))))) rfl rfl rfl z_eqg64 rfl rfl (fun w => by refine eq_struct Try.underlying64 z_held64 ?_; refine eqf_cons (r := (decide (a0.1.1 = a1.1.1))) (r' := ((decide (a0.1.2.1 = a1.1.2.1)) && ((decide (a0.1.2.2.1 = a1.1.2.2.1)) && ((decide (a0.1.2.2.2.1 = a1.1.2.2.2.1)) && ((decide (a0.1.2.2.2.2 = a1.1.2.2.2.2)) && true))))) rfl (part_one z_sc3 rfl) (part_one z_sc3 rfl) (by exact eq_int Try.underlying3 _ _) ?_; refine eqf_cons (r := (decide (a0.1.2.1 = a1.1.2.1))) (r' := ((decide (a0.1.2.2.1 = a1.1.2.2.1)) && ((decide (a0.1.2.2.2.1 = a1.1.2.2.2.1)) && ((decide (a0.1.2.2.2.2 = a1.1.2.2.2.2)) && true)))) rfl (part_one z_sc3 rfl) (part_one z_sc3 rfl) (by exact eq_int Try.underlying3 _ _) ?_; refine eqf_cons (r := (decide (a0.1.2.2.1 = a1.1.2.2.1))) (r' := ((decide (a0.1.2.2.2.1 = a1.1.2.2.2.1)) && ((decide (a0.1.2.2.2.2 = a1.1.2.2.2.2)) && true))) rfl (part_one z_sc22 rfl) (part_one z_sc22 rfl) (by exact eq_int Try.underlying22 _ _) ?_; refine eqf_cons (r := (decide (a0.1.2.2.2.1 = a1.1.2.2.2.1))) (r' := ((decide (a0.1.2.2.2.2 = a1.1.2.2.2.2)) && true)) rfl (part_one z_sc3 rfl) (part_one z_sc3 rfl) (by exact eq_int Try.underlying3 _ _) ?_; refine eqf_cons (r := (decide (a0.1.2.2.2.2 = a1.1.2.2.2.2))) (r' := true) rfl (part_one z_sc3 rfl) (part_one z_sc3 rfl) (by exact eq_int Try.underlying3 _ _) ?_; exact eqf_nil _ _ _ _) rfl ?_
  refine o_moveB rfl rfl rfl rfl (fun hc => ?_) (fun hc => ?_)
  · replace h := (if_pos hc).mp h
    refine o_fieldAddr rfl rfl rfl z_field66_1 rfl ?_
    refine o_load (j := 1) (v := v1) rfl rfl rfl z_sc45 rfl rfl rfl ?_
    refine o_fieldAddr rfl rfl rfl z_field66_1 rfl ?_
    refine o_load (j := 0) (v := v3) rfl rfl rfl z_sc45 rfl rfl rfl ?_
    obtain ⟨r8, hr9, h⟩ := h
    refine st_call (foot := []) rfl rfl rfl rfl rfl rfl (callV_fn z_en28 (ref01_Same_ok hr9 σ hs2 hs4)) ?_
    rintro vτ10 τ10 gsτ10 hl11 ⟨rfl, rfl⟩
    refine o_pick rfl rfl rfl rfl rfl ?_
    refine o_assign rfl rfl rfl rfl ?_
    refine st_end ?_
    refine st_env (ρ' := [(4, .bool r8)]) ⟨rfl, trivial⟩ ?_
    refine st_ord [] [] rfl ?_
    exact hk7 _ _ _ ⟨r8, h, hl11, rfl, rfl⟩
  · replace h := (if_neg (ne_t hc)).mp h
    refine st_pass rfl rfl rfl rfl rfl rfl ?_
    refine st_pass rfl rfl rfl rfl rfl rfl ?_
    refine st_pass rfl rfl rfl rfl rfl rfl ?_
    refine st_pass rfl rfl rfl rfl rfl rfl ?_
    refine st_pass rfl rfl rfl rfl rfl rfl ?_
    refine o_pick rfl rfl rfl rfl rfl ?_
    refine o_assign rfl rfl rfl rfl ?_
    refine st_end ?_
    refine st_env (ρ' := [(4, .bool false)]) ⟨rfl, trivial⟩ ?_
    refine st_ord [] [] rfl ?_
    exact hk7 _ _ _ ⟨false, h, (Sto.Le.refl _), rfl, rfl⟩
theorem ref06_Split_ok {a0 : List Int} {v1 : Value} {r : List (List Int) × List Int × List Int} (h : ref06_Split a0 r) (σ : Sto) (hs2 : Sl (kI .u8) σ v1 a0) :
    Does Try.prog 67 [v1] σ [] (fun v τ gs => ∃ (v99 : Value) (v101 : Value) (v103 : Value), gs = [] ∧ .tuple [v99, v101, v103].toArray = v ∧ Sl (kSl (kI .u8)) τ v99 r.1 ∧ Sl (kI .i64) τ v101 r.2.1 ∧ Sl (kI .u8) τ v103 r.2.2) := by
  refine call_of Try.func67 Try.ntmps67 rfl rfl (fun cs fs => ?_)
  refine st_seq ?_
  refine st_region ?_
  refine o_assign rfl rfl rfl rfl ?_
  refine o_assign rfl rfl rfl rfl ?_
  refine o_assign rfl rfl rfl rfl ?_
  refine st_end ?_
  refine st_seq ?_
  refine st_region ?_
  refine o_assign rfl rfl rfl rfl ?_
  refine st_end ?_
  refine st_seq ?_
  refine st_region ?_
  refine o_assign rfl rfl rfl rfl ?_
  refine st_end ?_
  refine st_seq ?_
  refine st_region ?_
  refine o_assign rfl rfl rfl rfl ?_
  refine st_end ?_
  refine st_seq ?_
  refine st_cut (fun ρ τ3 gs => ∃ (s3 : List (List Int) × List Int × List Int) (v4 : Value) (g5 : Grp) (v7 : Value) (g8 : Grp) (v10 : Value) (g11 : Grp), ref06_Split_j1 s3 r ∧ σ.Le τ3 ∧ ρ = [(2, .slice none 0 0), (3, .slice none 0 0), (4, .slice none 0 0), (5, v4), (6, v7), (7, v10)] ∧ gs = [g5, g8, g11] ∧ Ow (kSl (kI .u8)) 45 τ3 v4 s3.1 g5 ∧ Ow (kI .i64) 3 τ3 v7 s3.2.1 g8 ∧ Ow (kI .u8) 5 τ3 v10 s3.2.2 g11) ?_ (fun hk3 => ?_)
  · rintro ρ3 τ3 gs3 ⟨s3, v4, g5, v7, g8, v10, g11, h, hl3, rfl, rfl, ho6, ho9, ho12⟩
    refine st_seq ?_
    refine st_region ?_
    refine o_move rfl rfl rfl rfl ?_
    refine o_move rfl rfl rfl rfl ?_
    refine o_move rfl rfl rfl rfl ?_
    refine o_assign rfl rfl rfl rfl ?_
    refine o_assign rfl rfl rfl rfl ?_
    refine o_assign rfl rfl rfl rfl ?_
    refine st_end ?_
    refine st_freeze (fun τ13 hl14 hg15 => ?_)
    have hs16 := ho6.freeze hl14 hg15
    refine st_freeze (fun τ19 hl20 hg21 => ?_)
    have hs22 := ho9.freeze (hl14.trans hl20) hg21
    refine st_freeze (fun τ25 hl26 hg27 => ?_)
    have hs28 := ho12.freeze ((hl14.trans hl20).trans hl26) hg27
    obtain rfl := Eq.symm h
    exact st_ret (gs' := []) Try.func67 rfl (List.Sublist.refl _) (((hl3.trans hl14).trans hl20).trans hl26) ⟨_, _, _, rfl, rfl, (hs16.up (hl20.trans hl26)), (hs22.up hl26), hs28⟩
  refine st_seq ?_
  refine st_region ?_
  refine o_assign rfl rfl rfl rfl ?_
  refine st_end ?_
  obtain ⟨e31, hL31, hA31⟩ := h
  refine st_env (ρ' := [(0, v1), (2, .slice none 0 0), (3, .slice none 0 0), (4, .slice none 0 0), (5, .slice none 0 0), (6, .slice none 0 0), (7, .slice none 0 0), (8, .int .i64 0)]) ⟨rfl, rfl, rfl, rfl, rfl, rfl, rfl, rfl, trivial⟩ ?_
  refine st_addNil ?_
  refine st_addNil ?_
  refine st_addNil ?_
  refine st_loop hL31 (fun (s31 : List (List Int) × List Int × List Int × Int) ρ τ31 gs => σ.Le τ31 ∧ ∃ (v32 : Value) (g33 : Grp) (v35 : Value) (g36 : Grp) (v38 : Value) (g39 : Grp), ρ = [(0, v1), (2, .slice none 0 0), (3, .slice none 0 0), (4, .slice none 0 0), (5, v32), (6, v35), (7, v38), (8, .int .i64 s31.2.2.2)] ∧ gs = [g33, g36, g39] ∧ Ow (kSl (kI .u8)) 45 τ31 v32 s31.1 g33 ∧ Ow (kI .i64) 3 τ31 v35 s31.2.1 g36 ∧ Ow (kI .u8) 5 τ31 v38 s31.2.2.1 g39) ⟨Sto.Le.refl _, _, _, _, _, _, _, rfl, rfl, Ow.nil, Ow.nil, Ow.nil⟩ ?_
  rintro s31 o31 h he31 ρ31 τ31 gs31 ⟨hl31, v32, g33, v35, g36, v38, g39, rfl, rfl, ho34, ho37, ho40⟩ hn31
  refine st_seq ?_
  refine st_seq ?_
  refine st_region ?_
  refine o_move rfl rfl rfl rfl ?_
  refine o_move rfl rfl rfl rfl ?_
  refine o_lenI rfl rfl rfl z_slT45 rfl (hs2.up hl31) ?_
  refine o_ibin (v := .bool (decide (s31.2.2.2 < (a0.length : Int)))) rfl rfl rfl rfl rfl rfl ?_
  refine st_end ?_
  refine st_cond rfl (fun hc => ?_) (fun hc => ?_)
  · replace h := (if_pos hc).mp h
    refine st_skip ?_
    refine st_seq ?_
    refine st_cut (fun ρ τ41 gs => ∃ (s41 : List (List Int) × List Int × List Int) (v42 : Value) (g43 : Grp) (v45 : Value) (g46 : Grp) (v48 : Value) (g49 : Grp), ref06_Split_j3 s31 s41 o31 ∧ τ31.Le τ41 ∧ ρ = [(0, v1), (2, .slice none 0 0), (3, .slice none 0 0), (4, .slice none 0 0), (5, v42), (6, v45), (7, v48), (8, .int .i64 s31.2.2.2)] ∧ gs = [g43, g46, g49] ∧ Ow (kSl (kI .u8)) 45 τ41 v42 s41.1 g43 ∧ Ow (kI .i64) 3 τ41 v45 s41.2.1 g46 ∧ Ow (kI .u8) 5 τ41 v48 s41.2.2 g49) ?_ (fun hk41 => ?_)
    · rintro ρ41 τ41 gs41 ⟨s41, v42, g43, v45, g46, v48, g49, h, hl41, rfl, rfl, ho44, ho47, ho50⟩
      refine st_region ?_
      refine o_move rfl rfl rfl rfl ?_
      refine o_ibin (v := .int .i64 (IntKind.i64.wrap (s31.2.2.2 + 1))) rfl rfl rfl rfl rfl rfl ?_
      refine o_assign rfl rfl rfl rfl ?_
      refine st_end ?_
      refine st_env (ρ' := [(0, v1), (2, .slice none 0 0), (3, .slice none 0 0), (4, .slice none 0 0), (5, v42), (6, v45), (7, v48), (8, .int .i64 (IntKind.i64.wrap (s31.2.2.2 + 1)))]) ⟨rfl, rfl, rfl, rfl, rfl, rfl, rfl, rfl, trivial⟩ ?_
      exact hn31 _ _ _ _ h ⟨(hl31.trans hl41), _, _, _, _, _, _, rfl, rfl, ho44, ho47, ho50⟩
    refine st_block ?_
    refine st_seq ?_
    refine st_seq ?_
    refine st_region ?_
    refine o_move rfl rfl rfl rfl ?_
    refine o_move rfl rfl rfl rfl ?_
    obtain ⟨q51, hf52, h⟩ := h
    refine o_index rfl rfl rfl z_slT45 rfl rfl (hs2.up hl31) rfl hf52 (fun b53 of54 vs hc55 hrep => ?_)
    obtain rfl := hrep
    refine o_loadI (v := .int .u8 q51) rfl rfl rfl z_sc5 rfl (hc55 0 _ rfl) ?_
    refine o_ibin (v := .bool (!(decide (q51 = 0)))) rfl rfl rfl rfl rfl rfl ?_
    refine st_end ?_
    refine st_cond rfl (fun hc => ?_) (fun hc => ?_)
    · replace h := (if_pos hc).mp h
      refine st_seq ?_
      refine st_region ?_
      refine o_move rfl rfl rfl rfl ?_
      refine o_move rfl rfl rfl rfl ?_
      refine o_move rfl rfl rfl rfl ?_
      obtain ⟨q56, hf57, h⟩ := h
      refine o_index rfl rfl rfl z_slT45 rfl rfl (hs2.up hl31) rfl hf57 (fun b58 of59 vs hc60 hrep => ?_)
      obtain rfl := hrep
      refine o_loadI (v := .int .u8 q56) rfl rfl rfl z_sc5 rfl (hc60 0 _ rfl) ?_
      refine o_lit (dk := (kI .u8)) (xs := [q56]) (ps := [(0, [.int .u8 q56])]) (cs := [.int .u8 q56]) rfl rfl rfl z_slT45 z_zero5 ⟨rfl, ⟨_, rfl, rfl⟩, trivial⟩ rfl rfl rfl rfl (Kd.Many.cons (a := [.int .u8 q56]) rfl Kd.Many.nil) (fun v61 g62 ho63 => ?_)
      obtain ⟨hf67, h⟩ := h
      obtain ⟨hf68, h⟩ := h
      refine st_ord [3, 0, 0, 0] [g39, g62, g33, g36] rfl ?_
      refine o_append (dk := (kI .u8)) (xs := s31.2.2.1) (ys := [q56]) rfl rfl rfl rfl z_slT45 rfl ho40 rfl (Ow.src (j := 1) ho63 rfl) hf67 hf68 (fun v64 g65 ho66 => ?_)
      refine o_assign rfl rfl rfl rfl ?_
      refine st_end ?_
      refine st_exit rfl ?_
      refine st_env (ρ' := [(0, v1), (2, .slice none 0 0), (3, .slice none 0 0), (4, .slice none 0 0), (5, v32), (6, v35), (7, v64), (8, .int .i64 s31.2.2.2)]) ⟨rfl, rfl, rfl, rfl, rfl, rfl, rfl, rfl, trivial⟩ ?_
      refine st_ord [2, 2, 0] [g33, g36, g65] rfl ?_
      exact hk41 _ _ _ ⟨(s31.1, s31.2.1, (s31.2.2.1 ++ [q56])), _, _, _, _, _, _, h, (Sto.Le.refl _), rfl, rfl, ho34, ho37, ho66⟩
    · replace h := (if_neg (ne_t hc)).mp h
      refine st_skip ?_
      refine st_seq ?_
      refine st_cut (fun ρ τ69 gs => ∃ (s69 : List (List Int) × List Int) (v70 : Value) (g71 : Grp) (v73 : Value) (g74 : Grp), ref06_Split_j4 s31 s69 o31 ∧ τ31.Le τ69 ∧ ρ = [(0, v1), (2, .slice none 0 0), (3, .slice none 0 0), (4, .slice none 0 0), (5, v70), (6, v73), (8, .int .i64 s31.2.2.2)] ∧ gs = [g71, g74] ∧ Ow (kSl (kI .u8)) 45 τ69 v70 s69.1 g71 ∧ Ow (kI .i64) 3 τ69 v73 s69.2 g74) ?_ (fun hk69 => ?_)
      · rintro ρ69 τ69 gs69 ⟨s69, v70, g71, v73, g74, h, hl69, rfl, rfl, ho72, ho75⟩
        refine st_region ?_
        refine o_assign rfl rfl rfl rfl ?_
        refine st_end ?_
        refine st_inBlock ?_
        refine st_env (ρ' := [(0, v1), (2, .slice none 0 0), (3, .slice none 0 0), (4, .slice none 0 0), (5, v70), (6, v73), (7, .slice none 0 0), (8, .int .i64 s31.2.2.2)]) ⟨rfl, rfl, rfl, rfl, rfl, rfl, rfl, rfl, trivial⟩ ?_
        refine st_addNil ?_
        refine st_ord [1, 1, 0] [g71, g74, []] rfl ?_
        exact hk41 _ _ _ ⟨(s69.1, s69.2, []), _, _, _, _, _, _, h, hl69, rfl, rfl, ho72, ho75, Ow.nil⟩
      refine st_seq ?_
      refine st_region ?_
      refine o_move rfl rfl rfl rfl ?_
      refine o_lenO rfl rfl rfl z_slT45 rfl ho40 ?_
      refine o_ibin (v := .bool (decide (0 < (s31.2.2.1.length : Int)))) rfl rfl rfl rfl rfl rfl ?_
      refine st_end ?_
      refine st_cond rfl (fun hc => ?_) (fun hc => ?_)
      · replace h := (if_pos hc).mp h
        refine st_seq ?_
        refine st_region ?_
        refine o_move rfl rfl rfl rfl ?_
        refine o_move rfl rfl rfl rfl ?_
        refine st_ord [2, 0, 0] [g39, g33, g36] rfl ?_
        refine st_freeze (fun τ76 hl77 hg78 => ?_)
        have hs79 := ho40.freeze hl77 hg78
        refine o_lit (dk := (kSl (kI .u8))) (xs := [s31.2.2.1]) (ps := [(0, [v38])]) (cs := [v38]) rfl rfl rfl z_slT100 z_zero45 ⟨rfl, ⟨_, rfl, (oneL_sl hs79)⟩, trivial⟩ rfl rfl rfl rfl (Kd.Many.cons (a := [v38]) ⟨_, rfl, hs79⟩ Kd.Many.nil) (fun v82 g83 ho84 => ?_)
        obtain ⟨hf88, h⟩ := h
        obtain ⟨hf89, h⟩ := h
        refine st_ord [1, 0, 0] [g33, g83, g36] rfl ?_
        refine o_append (dk := (kSl (kI .u8))) (xs := s31.1) (ys := [s31.2.2.1]) rfl rfl rfl rfl z_slT100 rfl (ho34.up hl77) rfl (Ow.src (j := 1) ho84 rfl) hf88 hf89 (fun v85 g86 ho87 => ?_)
        refine o_assign rfl rfl rfl rfl ?_
        refine st_end ?_
        refine st_region ?_
        refine o_move rfl rfl rfl rfl ?_
        refine o_move rfl rfl rfl rfl ?_
        refine o_move rfl rfl rfl rfl ?_
        refine o_lenI rfl rfl rfl z_slT45 rfl hs79 ?_
        refine o_ibin (v := .int .i64 (IntKind.i64.wrap (s31.2.2.2 - (s31.2.2.1.length : Int)))) rfl rfl rfl rfl rfl rfl ?_
        refine o_lit (dk := (kI .i64)) (xs := [(IntKind.i64.wrap (s31.2.2.2 - (s31.2.2.1.length : Int)))]) (ps := [(0, [.int .i64 (IntKind.i64.wrap (s31.2.2.2 - (s31.2.2.1.length : Int)))])]) (cs := [.int .i64 (IntKind.i64.wrap (s31.2.2.2 - (s31.2.2.1.length : Int)))]) rfl rfl rfl z_slT73 z_zero3 ⟨rfl, ⟨_, rfl, rfl⟩, trivial⟩ rfl rfl rfl rfl (Kd.Many.cons (a := [.int .i64 (IntKind.i64.wrap (s31.2.2.2 - (s31.2.2.1.length : Int)))]) rfl Kd.Many.nil) (fun v90 g91 ho92 => ?_)
        obtain ⟨hf96, h⟩ := h
        obtain ⟨hf97, h⟩ := h
        refine st_ord [3, 0, 0, 0] [g36, g91, g86, g83] rfl ?_
        refine o_append (dk := (kI .i64)) (xs := s31.2.1) (ys := [(IntKind.i64.wrap (s31.2.2.2 - (s31.2.2.1.length : Int)))]) rfl rfl rfl rfl z_slT73 rfl (ho37.up hl77) rfl (Ow.src (j := 1) ho92 rfl) hf96 hf97 (fun v93 g94 ho95 => ?_)
        refine o_assign rfl rfl rfl rfl ?_
        refine st_end ?_
        refine st_env (ρ' := [(0, v1), (2, .slice none 0 0), (3, .slice none 0 0), (4, .slice none 0 0), (5, v85), (6, v93), (8, .int .i64 s31.2.2.2)]) ⟨rfl, rfl, rfl, rfl, rfl, rfl, rfl, trivial⟩ ?_
        refine st_ord [2, 0] [g86, g94] rfl ?_
        exact hk69 _ _ _ ⟨((s31.1 ++ [s31.2.2.1]), (s31.2.1 ++ [(IntKind.i64.wrap (s31.2.2.2 - (s31.2.2.1.length : Int)))])), _, _, _, _, h, hl77, rfl, rfl, ho87, ho95⟩
      · replace h := (if_neg (ne_t hc)).mp h
        refine st_skip ?_
        refine st_env (ρ' := [(0, v1), (2, .slice none 0 0), (3, .slice none 0 0), (4, .slice none 0 0), (5, v32), (6, v35), (8, .int .i64 s31.2.2.2)]) ⟨rfl, rfl, rfl, rfl, rfl, rfl, rfl, trivial⟩ ?_
        refine st_ord [0, 0] [g33, g36] rfl ?_
        exact hk69 _ _ _ ⟨(s31.1, s31.2.1), _, _, _, _, h, (Sto.Le.refl _), rfl, rfl, ho34, ho37⟩
  · replace h := (if_neg (ne_t hc)).mp h
    refine st_exit rfl ?_
    obtain rfl := he31 _ h
    replace h := hA31
    refine st_env (ρ' := [(2, .slice none 0 0), (3, .slice none 0 0), (4, .slice none 0 0), (5, v32), (6, v35), (7, v38)]) ⟨rfl, rfl, rfl, rfl, rfl, rfl, trivial⟩ ?_
    exact hk3 _ _ _ ⟨(s31.1, s31.2.1, s31.2.2.1), _, _, _, _, _, _, h, hl31, rfl, rfl, ho34, ho37, ho40⟩
theorem ref08_Frames_ok {a0 : List Int} {v1 : Value} {r : (List ((Int × Int × Int × Int × Int) × List Int)) × List Int} (h : ref08_Frames a0 r) (σ : Sto) (hs2 : Sl (kI .u8) σ v1 a0) :
    Does Try.prog 35 [v1] σ [] (fun v τ gs => ∃ (v70 : Value) (v72 : Value), gs = [] ∧ .tuple [v70, v72].toArray = v ∧ Sl (kP (kP (kI .i64) (kP (kI .i64) (kP (kI .u32) (kP (kI .i64) (kI .i64))))) (kSl (kI .u8))) τ v70 r.1 ∧ Sl (kI .i64) τ v72 r.2) := by
  refine call_of Try.func35 Try.ntmps35 rfl rfl (fun cs fs => ?_)
  refine st_seq ?_
  refine st_region ?_
  refine o_assign rfl rfl rfl rfl ?_
  refine o_assign rfl rfl rfl rfl ?_
  refine st_end ?_
  refine st_seq ?_
  refine st_region ?_
  refine o_move rfl rfl rfl rfl ?_
  obtain ⟨r3, hr4, h⟩ := h
  refine st_call (foot := []) rfl rfl rfl rfl rfl rfl (callV_fn z_en67 (ref06_Split_ok hr4 σ hs2)) ?_
  rintro vτ5 τ5 gsτ5 hl6 ⟨v7, v9, v11, rfl, rfl, hs8, hs10, hs12⟩
  refine o_move rfl rfl rfl rfl ?_
  refine o_extract rfl rfl rfl rfl rfl ?_
  refine o_extract rfl rfl rfl rfl rfl ?_
  refine o_extract rfl rfl rfl rfl rfl ?_
  refine o_assign rfl rfl rfl rfl ?_
  refine o_assign rfl rfl rfl rfl ?_
  refine o_assign rfl rfl rfl rfl ?_
  refine st_end ?_
  refine st_seq ?_
  refine st_region ?_
  refine o_assign rfl rfl rfl rfl ?_
  refine st_end ?_
  refine st_seq ?_
  refine st_region ?_
  refine o_assign rfl rfl rfl rfl ?_
  refine st_end ?_
  refine st_seq ?_
  refine st_cut (fun ρ τ13 gs => ∃ (s13 : (List ((Int × Int × Int × Int × Int) × List Int)) × List Int) (v14 : Value) (g15 : Grp) (v17 : Value) (g18 : Grp), ref08_Frames_j1 s13 r ∧ τ5.Le τ13 ∧ ρ = [(2, .slice none 0 0), (3, .slice none 0 0), (7, v14), (8, v17)] ∧ gs = [g15, g18] ∧ Ow (kP (kP (kI .i64) (kP (kI .i64) (kP (kI .u32) (kP (kI .i64) (kI .i64))))) (kSl (kI .u8))) 66 τ13 v14 s13.1 g15 ∧ Ow (kI .i64) 3 τ13 v17 s13.2 g18) ?_ (fun hk13 => ?_)
  · rintro ρ13 τ13 gs13 ⟨s13, v14, g15, v17, g18, h, hl13, rfl, rfl, ho16, ho19⟩
    refine st_seq ?_
    refine st_region ?_
    refine o_move rfl rfl rfl rfl ?_
    refine o_move rfl rfl rfl rfl ?_
    refine o_assign rfl rfl rfl rfl ?_
    refine o_assign rfl rfl rfl rfl ?_
    refine st_end ?_
    refine st_freeze (fun τ20 hl21 hg22 => ?_)
    have hs23 := ho16.freeze hl21 hg22
    refine st_freeze (fun τ26 hl27 hg28 => ?_)
    have hs29 := ho19.freeze (hl21.trans hl27) hg28
    obtain rfl := Eq.symm h
    exact st_ret (gs' := []) Try.func35 rfl (List.Sublist.refl _) (((hl6.trans hl13).trans hl21).trans hl27) ⟨_, _, rfl, rfl, (hs23.up hl27), hs29⟩
  refine st_seq ?_
  refine st_region ?_
  refine o_assign rfl rfl rfl rfl ?_
  refine st_end ?_
  obtain ⟨e32, hL32, hA32⟩ := h
  refine st_env (ρ' := [(2, .slice none 0 0), (3, .slice none 0 0), (4, v7), (7, .slice none 0 0), (8, .slice none 0 0), (9, .int .i64 0)]) ⟨rfl, rfl, rfl, rfl, rfl, rfl, trivial⟩ ?_
  refine st_addNil ?_
  refine st_addNil ?_
  refine st_loop hL32 (fun (s32 : (List ((Int × Int × Int × Int × Int) × List Int)) × List Int × Int) ρ τ32 gs => τ5.Le τ32 ∧ ∃ (v33 : Value) (g34 : Grp) (v36 : Value) (g37 : Grp), ρ = [(2, .slice none 0 0), (3, .slice none 0 0), (4, v7), (7, v33), (8, v36), (9, .int .i64 s32.2.2)] ∧ gs = [g34, g37] ∧ Ow (kP (kP (kI .i64) (kP (kI .i64) (kP (kI .u32) (kP (kI .i64) (kI .i64))))) (kSl (kI .u8))) 66 τ32 v33 s32.1 g34 ∧ Ow (kI .i64) 3 τ32 v36 s32.2.1 g37) ⟨Sto.Le.refl _, _, _, _, _, rfl, rfl, Ow.nil, Ow.nil⟩ ?_
  rintro s32 o32 h he32 ρ32 τ32 gs32 ⟨hl32, v33, g34, v36, g37, rfl, rfl, ho35, ho38⟩ hn32
  refine st_seq ?_
  refine st_seq ?_
  refine st_region ?_
  refine o_move rfl rfl rfl rfl ?_
  refine o_move rfl rfl rfl rfl ?_
  refine o_lenI rfl rfl rfl z_slT100 rfl (hs8.up hl32) ?_
  refine o_ibin (v := .bool (decide (s32.2.2 < (r3.1.length : Int)))) rfl rfl rfl rfl rfl rfl ?_
  refine st_end ?_
  refine st_cond rfl (fun hc => ?_) (fun hc => ?_)
  · replace h := (if_pos hc).mp h
    refine st_skip ?_
    refine st_seq ?_
    refine st_block ?_
    refine st_seq ?_
    refine st_region ?_
    refine o_move rfl rfl rfl rfl ?_
    refine o_move rfl rfl rfl rfl ?_
    obtain ⟨q39, hf40, h⟩ := h
    refine o_index rfl rfl rfl z_slT100 rfl rfl (hs8.up hl32) rfl hf40 (fun b41 of42 vs hc44 hrep => ?_)
    obtain ⟨v43, rfl, hs45⟩ := hrep
    refine o_loadI (v := v43) rfl rfl rfl z_sc45 rfl (hc44 0 _ rfl) ?_
    obtain ⟨r46, hr47, h⟩ := h
    refine st_call (foot := []) rfl rfl rfl rfl rfl rfl (callV_fn z_en31 (ref08_Unpack_ok hr47 τ32 hs45)) ?_
    rintro vτ48 τ48 gsτ48 hl49 ⟨v50, rfl, rfl, hs51⟩
    refine o_move rfl rfl rfl rfl ?_
    refine o_extract rfl rfl rfl rfl rfl ?_
    refine o_extract rfl rfl rfl rfl rfl ?_
    refine o_alloc rfl rfl rfl z_zero66 (fun b52 => ?_)
    refine o_store (j := 0) (vs := [.int .i64 r46.1.1.1, .int .i64 r46.1.1.2.1, .int .u32 r46.1.1.2.2.1, .int .i64 r46.1.1.2.2.2.1, .int .i64 r46.1.1.2.2.2.2, v50]) (cs' := [.int .i64 r46.1.1.1, .int .i64 r46.1.1.2.1, .int .u32 r46.1.1.2.2.1, .int .i64 r46.1.1.2.2.2.1, .int .i64 r46.1.1.2.2.2.2, v50]) rfl rfl rfl z_size66 rfl rfl rfl (ones_cons rfl (ones_cons rfl (ones_cons rfl (ones_cons rfl (ones_cons rfl (ones_cons hs51.one' ones_nil)))))) rfl rfl rfl ?_
    refine st_gs [[(b52, .cells [.int .i64 r46.1.1.1, .int .i64 r46.1.1.2.1, .int .u32 r46.1.1.2.2.1, .int .i64 r46.1.1.2.2.2.1, .int .i64 r46.1.1.2.2.2.2, v50].toArray 66 (0, 0))], g34, g37] rfl ?_
    refine o_assign rfl rfl rfl rfl ?_
    refine st_end ?_
    refine st_region ?_
    refine o_move rfl rfl rfl rfl ?_
    refine o_loadN (j := 0) (vs := [.int .i64 r46.1.1.1, .int .i64 r46.1.1.2.1, .int .u32 r46.1.1.2.2.1, .int .i64 r46.1.1.2.2.2.1, .int .i64 r46.1.1.2.2.2.2, v50]) rfl rfl rfl z_agg66 rfl rfl rfl ?_
    refine o_lit (dk := (kP (kP (kI .i64) (kP (kI .i64) (kP (kI .u32) (kP (kI .i64) (kI .i64))))) (kSl (kI .u8)))) (xs := [r46.1]) (ps := [(0, [.int .i64 r46.1.1.1, .int .i64 r46.1.1.2.1, .int .u32 r46.1.1.2.2.1, .int .i64 r46.1.1.2.2.2.1, .int .i64 r46.1.1.2.2.2.2, v50])]) (cs := [.int .i64 r46.1.1.1, .int .i64 r46.1.1.2.1, .int .u32 r46.1.1.2.2.1, .int .i64 r46.1.1.2.2.2.1, .int .i64 r46.1.1.2.2.2.2, v50]) rfl rfl rfl z_slT72 z_zero66 ⟨rfl, ⟨_, rfl, rfl⟩, trivial⟩ rfl rfl rfl rfl (Kd.Many.cons (a := [.int .i64 r46.1.1.1, .int .i64 r46.1.1.2.1, .int .u32 r46.1.1.2.2.1, .int .i64 r46.1.1.2.2.2.1, .int .i64 r46.1.1.2.2.2.2, v50]) ⟨[.int .i64 r46.1.1.1, .int .i64 r46.1.1.2.1, .int .u32 r46.1.1.2.2.1, .int .i64 r46.1.1.2.2.2.1, .int .i64 r46.1.1.2.2.2.2], _, rfl, ⟨[.int .i64 r46.1.1.1], _, rfl, rfl, ⟨[.int .i64 r46.1.1.2.1], _, rfl, rfl, ⟨[.int .u32 r46.1.1.2.2.1], _, rfl, rfl, ⟨[.int .i64 r46.1.1.2.2.2.1], _, rfl, rfl, rfl⟩⟩⟩⟩, ⟨_, rfl, hs51⟩⟩ Kd.Many.nil) (fun v53 g54 ho55 => ?_)
    obtain ⟨hf59, h⟩ := h
    obtain ⟨hf60, h⟩ := h
    refine st_ord [2, 0, 0, 0] [g34, g54, [(b52, .cells [.int .i64 r46.1.1.1, .int .i64 r46.1.1.2.1, .int .u32 r46.1.1.2.2.1, .int .i64 r46.1.1.2.2.2.1, .int .i64 r46.1.1.2.2.2.2, v50].toArray 66 (0, 0))], g37] rfl ?_
    refine o_append (dk := (kP (kP (kI .i64) (kP (kI .i64) (kP (kI .u32) (kP (kI .i64) (kI .i64))))) (kSl (kI .u8)))) (xs := s32.1) (ys := [r46.1]) rfl rfl rfl rfl z_slT72 rfl (ho35.up hl49) rfl (Ow.src (j := 1) ho55 rfl) hf59 hf60 (fun v56 g57 ho58 => ?_)
    refine o_move rfl rfl rfl rfl ?_
    refine o_move rfl rfl rfl rfl ?_
    refine o_lit (dk := (kI .i64)) (xs := [r46.2]) (ps := [(0, [.int .i64 r46.2])]) (cs := [.int .i64 r46.2]) rfl rfl rfl z_slT73 z_zero3 ⟨rfl, ⟨_, rfl, rfl⟩, trivial⟩ rfl rfl rfl rfl (Kd.Many.cons (a := [.int .i64 r46.2]) rfl Kd.Many.nil) (fun v61 g62 ho63 => ?_)
    obtain ⟨hf67, h⟩ := h
    obtain ⟨hf68, h⟩ := h
    refine st_ord [4, 0, 0, 0, 0] [g37, g62, g57, g54, [(b52, .cells [.int .i64 r46.1.1.1, .int .i64 r46.1.1.2.1, .int .u32 r46.1.1.2.2.1, .int .i64 r46.1.1.2.2.2.1, .int .i64 r46.1.1.2.2.2.2, v50].toArray 66 (0, 0))]] rfl ?_
    refine o_append (dk := (kI .i64)) (xs := s32.2.1) (ys := [r46.2]) rfl rfl rfl rfl z_slT73 rfl (ho38.up hl49) rfl (Ow.src (j := 1) ho63 rfl) hf67 hf68 (fun v64 g65 ho66 => ?_)
    refine o_assign rfl rfl rfl rfl ?_
    refine o_assign rfl rfl rfl rfl ?_
    refine st_end ?_
    refine st_inBlock ?_
    refine st_region ?_
    refine o_move rfl rfl rfl rfl ?_
    refine o_ibin (v := .int .i64 (IntKind.i64.wrap (s32.2.2 + 1))) rfl rfl rfl rfl rfl rfl ?_
    refine o_assign rfl rfl rfl rfl ?_
    refine st_end ?_
    refine st_env (ρ' := [(2, .slice none 0 0), (3, .slice none 0 0), (4, v7), (7, v56), (8, v64), (9, .int .i64 (IntKind.i64.wrap (s32.2.2 + 1)))]) ⟨rfl, rfl, rfl, rfl, rfl, rfl, trivial⟩ ?_
    refine st_ord [2, 0] [g57, g65] rfl ?_
    exact hn32 _ _ _ _ h ⟨(hl32.trans hl49), _, _, _, _, rfl, rfl, ho58, ho66⟩
  · replace h := (if_neg (ne_t hc)).mp h
    refine st_exit rfl ?_
    obtain rfl := he32 _ h
    replace h := hA32
    refine st_env (ρ' := [(2, .slice none 0 0), (3, .slice none 0 0), (7, v33), (8, v36)]) ⟨rfl, rfl, rfl, rfl, trivial⟩ ?_
    exact hk13 _ _ _ ⟨(s32.1, s32.2.1), _, _, _, _, h, hl32, rfl, rfl, ho35, ho38⟩
theorem fence_Segments_1_ok {c0 : List Int} {bc0 : Nat} {v1 : Value} {σ0 : Sto} (hc0_0 : Cel σ0 ⟨bc0, 0, none⟩ (v1)) (hs2 : Sl (kI .u8) σ0 v1 c0) :
    IterV Try.prog (fun τ x vx => ∃ (v20 : Value), vx = [.int .i64 x.1, v20] ∧ Sl (kI .u8) τ v20 x.2) (.func (.func 91) #[] [.pointer (some ⟨bc0, 0, none⟩)].toArray) σ0 [] (fun (_ : Unit) _ f => f = []) (fence_Segments_1 c0) := by
  intro S Y I y hyc hyo hIm hY s s' o hR σ g hle hIg
  obtain ⟨r, hr0⟩ : ∃ r, r = (s', o) := ⟨_, rfl⟩
  rw [← hr0] at hR
  have h := hR
  refine callV_of (caps := [.pointer (some ⟨bc0, 0, none⟩)]) z_en91 ?_
  refine call_of Try.func91 Try.ntmps91 rfl rfl (fun cs fs => ?_)
  refine st_ord [0] [g] rfl ?_
  refine st_scope ?_
  refine st_seq ?_
  refine st_region ?_
  refine o_assign rfl rfl rfl rfl ?_
  refine st_end ?_
  refine st_seq ?_
  refine st_label ?_
  refine st_seq ?_
  refine st_region ?_
  refine o_loadI (v := v1) rfl rfl rfl z_sc45 rfl (Cel.up hc0_0 hle) ?_
  refine o_lenI rfl rfl rfl z_slT45 rfl (hs2.up hle) ?_
  refine o_move rfl rfl rfl rfl ?_
  refine st_end ?_
  obtain ⟨e3, hL3, hA3⟩ := h
  refine st_env (ρ' := [(0, y), (1, .pointer (some ⟨bc0, 0, none⟩)), (3, .int .i64 0), (6, v1), (7, .int .i64 (c0.length : Int)), (8, .int .i64 0)]) ⟨rfl, rfl, rfl, rfl, rfl, rfl, trivial⟩ ?_
  refine st_loop hL3 (fun (s3 : S × Int × Int) ρ τ3 gs => σ.Le τ3 ∧ ∃ (g4 : Grp), ρ = [(0, y), (1, .pointer (some ⟨bc0, 0, none⟩)), (3, .int .i64 s3.2.1), (6, v1), (7, .int .i64 (c0.length : Int)), (8, .int .i64 s3.2.2)] ∧ gs = [g4] ∧ I s3.1 τ3 g4) ⟨Sto.Le.refl _, g, rfl, rfl, hIg⟩ ?_
  rintro s3 o3 h he3 ρ3 τ3 gs3 ⟨hl3, g4, rfl, rfl, hI5⟩ hn3
  refine st_seq ?_
  refine st_region ?_
  refine o_ibin (v := .bool (decide (s3.2.2 < (c0.length : Int)))) rfl rfl rfl rfl rfl rfl ?_
  refine st_end ?_
  refine st_seq ?_
  refine st_cond rfl (fun hc => ?_) (fun hc => ?_)
  · replace h := (if_pos hc).mp h
    refine st_skip ?_
    refine st_seq ?_
    refine st_cut (fun ρ τ6 gs => ∃ (s6 : S × Int) (g7 : Grp), fence_Segments_1_j2 S Y s3 s6 o3 ∧ τ3.Le τ6 ∧ ρ = [(0, y), (1, .pointer (some ⟨bc0, 0, none⟩)), (3, .int .i64 s6.2), (6, v1), (7, .int .i64 (c0.length : Int)), (8, .int .i64 s3.2.2)] ∧ gs = [g7] ∧ I s6.1 τ6 g7) ?_ (fun hk6 => ?_)
    · rintro ρ6 τ6 gs6 ⟨s6, g7, h, hl6, rfl, rfl, hI8⟩
      refine st_region ?_
      refine o_ibin (v := .int .i64 (IntKind.i64.wrap (s3.2.2 + 1))) rfl rfl rfl rfl rfl rfl ?_
      refine o_move rfl rfl rfl rfl ?_
      refine st_end ?_
      refine st_env (ρ' := [(0, y), (1, .pointer (some ⟨bc0, 0, none⟩)), (3, .int .i64 s6.2), (6, v1), (7, .int .i64 (c0.length : Int)), (8, .int .i64 (IntKind.i64.wrap (s3.2.2 + 1)))]) ⟨rfl, rfl, rfl, rfl, rfl, rfl, trivial⟩ ?_
      exact hn3 _ _ _ _ h ⟨(hl3.trans hl6), g7, rfl, rfl, hI8⟩
    refine st_block ?_
    refine st_seq ?_
    refine st_region ?_
    refine o_move rfl rfl rfl rfl ?_
    obtain ⟨q9, hf10, h⟩ := h
    refine o_index rfl rfl rfl z_slT45 rfl rfl (hs2.up (hle.trans hl3)) rfl hf10 (fun b11 of12 vs hc13 hrep => ?_)
    obtain rfl := hrep
    refine o_loadI (v := .int .u8 q9) rfl rfl rfl z_sc5 rfl (hc13 0 _ rfl) ?_
    refine o_assign rfl rfl rfl rfl ?_
    refine o_assign rfl rfl rfl rfl ?_
    refine st_end ?_
    refine st_seq ?_
    refine st_seq ?_
    refine st_region ?_
    refine o_move rfl rfl rfl rfl ?_
    refine o_ibin (v := .bool (!(decide (q9 = 0)))) rfl rfl rfl rfl rfl rfl ?_
    refine st_end ?_
    refine st_cond rfl (fun hc => ?_) (fun hc => ?_)
    · replace h := (if_pos hc).mp h
      refine st_exit rfl ?_
      refine st_env (ρ' := [(0, y), (1, .pointer (some ⟨bc0, 0, none⟩)), (3, .int .i64 s3.2.1), (6, v1), (7, .int .i64 (c0.length : Int)), (8, .int .i64 s3.2.2)]) ⟨rfl, rfl, rfl, rfl, rfl, rfl, trivial⟩ ?_
      exact hk6 _ _ _ ⟨(s3.1, s3.2.1), g4, h, (Sto.Le.refl _), rfl, rfl, hI5⟩
    · replace h := (if_neg (ne_t hc)).mp h
      refine st_skip ?_
      refine st_seq ?_
      refine st_seq ?_
      refine st_cut (fun ρ τ14 gs => ∃ (s14 : S × Bool) (g15 : Grp), fence_Segments_1_j3 S Y s3 s14 o3 ∧ τ3.Le τ14 ∧ ρ = [(0, y), (1, .pointer (some ⟨bc0, 0, none⟩)), (6, v1), (7, .int .i64 (c0.length : Int)), (8, .int .i64 s3.2.2), (4, .int .i64 s3.2.2), (30, .bool s14.2)] ∧ gs = [g15] ∧ I s14.1 τ14 g15) ?_ (fun hk14 => ?_)
      · rintro ρ14 τ14 gs14 ⟨s14, g15, h, hl14, rfl, rfl, hI16⟩
        refine st_cond rfl (fun hc => ?_) (fun hc => ?_)
        · replace h := (if_pos hc).mp h
          obtain rfl := he3 _ h
          replace h := hA3
          obtain rfl := Eq.symm h
          cases hr0
          exact st_ret (gs' := [g15, []]) Try.func91 rfl (by simp) (hl3.trans hl14) ⟨g15, _, rfl, hI16, rfl⟩
        · replace h := (if_neg (ne_t hc)).mp h
          refine st_skip ?_
          refine st_region ?_
          refine o_move rfl rfl rfl rfl ?_
          refine o_ibin (v := .int .i64 (IntKind.i64.wrap (s3.2.2 + 1))) rfl rfl rfl rfl rfl rfl ?_
          refine o_assign rfl rfl rfl rfl ?_
          refine st_end ?_
          refine st_inBlock ?_
          refine st_env (ρ' := [(0, y), (1, .pointer (some ⟨bc0, 0, none⟩)), (3, .int .i64 (IntKind.i64.wrap (s3.2.2 + 1))), (6, v1), (7, .int .i64 (c0.length : Int)), (8, .int .i64 s3.2.2)]) ⟨rfl, rfl, rfl, rfl, rfl, rfl, trivial⟩ ?_
          exact hk6 _ _ _ ⟨(s14.1, (IntKind.i64.wrap (s3.2.2 + 1))), g15, h, hl14, rfl, rfl, hI16⟩
      refine st_region ?_
      refine o_move rfl rfl rfl rfl ?_
      refine o_move rfl rfl rfl rfl ?_
      refine o_ibin (v := .bool (decide (s3.2.1 < s3.2.2))) rfl rfl rfl rfl rfl rfl ?_
      refine o_moveB rfl rfl rfl rfl (fun hc => ?_) (fun hc => ?_)
      · replace h := (if_pos hc).mp h
        refine o_move rfl rfl rfl rfl ?_
        refine o_move rfl rfl rfl rfl ?_
        refine o_lit (dk := (kI .u8)) (xs := ([] : List Int)) (ps := []) (cs := []) rfl rfl rfl z_slT45 z_zero5 trivial rfl rfl rfl rfl Kd.Many.nil (fun v17 g18 ho19 => ?_)
        refine o_loadI (v := v1) rfl rfl rfl z_sc45 rfl (Cel.up hc0_0 (hle.trans hl3)) ?_
        refine o_move rfl rfl rfl rfl ?_
        refine o_move rfl rfl rfl rfl ?_
        refine o_move rfl rfl rfl rfl ?_
        obtain ⟨hf20, h⟩ := h
        obtain ⟨hf21, h⟩ := h
        obtain ⟨hf22, h⟩ := h
        obtain ⟨hf23, h⟩ := h
        obtain ⟨hf24, h⟩ := h
        refine o_slice (L := s3.2.1) (H := s3.2.2) rfl rfl rfl z_slT45 rfl rfl (hs2.up (hle.trans hl3)) ⟨_, rfl⟩ ⟨_, rfl⟩ hf20 hf21 hf22 ⟨_, _, rfl, hf23, hf24⟩ (by simp) (fun v25 hs26 => ?_)
        obtain ⟨hf30, h⟩ := h
        obtain ⟨hf31, h⟩ := h
        refine o_append (dk := (kI .u8)) (xs := ([] : List Int)) (ys := ((c0.drop s3.2.1.toNat).take ((s3.2.2 : Int) - s3.2.1).toNat)) rfl rfl rfl rfl z_slT45 rfl ho19 rfl (Sl.src hs26) hf30 hf31 (fun v27 g28 ho29 => ?_)
        obtain ⟨y36, u37, hy38, h⟩ := h
        refine st_freeze (fun τ32 hl33 hg34 => ?_)
        have hs35 := ho29.freeze hl33 hg34
        refine st_call (foot := [g4]) rfl rfl rfl rfl rfl rfl (hY (s3.2.1, (([] : List Int) ++ ((c0.drop s3.2.1.toNat).take ((s3.2.2 : Int) - s3.2.1).toNat))) s3.1 _ _ _ _ _ (hle.trans (hl3.trans hl33)) hy38 ⟨_, rfl, hs35⟩ (hIm _ _ _ _ hl33 hI5)) ?_
        rintro vτ39 τ39 gsτ39 hl40 ⟨rfl, g41, rfl, hI42⟩
        refine o_not rfl rfl rfl rfl ?_
        refine o_pick rfl rfl rfl rfl rfl ?_
        refine st_end ?_
        refine st_env (ρ' := [(0, y), (1, .pointer (some ⟨bc0, 0, none⟩)), (6, v1), (7, .int .i64 (c0.length : Int)), (8, .int .i64 s3.2.2), (4, .int .i64 s3.2.2), (30, .bool (!y36))]) ⟨rfl, rfl, rfl, rfl, rfl, rfl, rfl, trivial⟩ ?_
        exact hk14 _ _ _ ⟨(u37, (!y36)), g41, h, (hl33.trans hl40), rfl, rfl, hI42⟩
      · replace h := (if_neg (ne_t hc)).mp h
        refine st_pass rfl rfl rfl rfl rfl rfl ?_
        refine st_pass rfl rfl rfl rfl rfl rfl ?_
        refine st_pass rfl rfl rfl rfl rfl rfl ?_
        refine st_pass rfl rfl rfl rfl rfl rfl ?_
        refine st_pass rfl rfl rfl rfl rfl rfl ?_
        refine st_pass rfl rfl rfl rfl rfl rfl ?_
        refine st_pass rfl rfl rfl rfl rfl rfl ?_
        refine st_pass rfl rfl rfl rfl rfl rfl ?_
        refine st_pass rfl rfl rfl rfl rfl rfl ?_
        refine st_pass rfl rfl rfl rfl rfl rfl ?_
        refine st_pass rfl rfl rfl rfl rfl rfl ?_
        refine o_pick rfl rfl rfl rfl rfl ?_
        refine st_end ?_
        refine st_env (ρ' := [(0, y), (1, .pointer (some ⟨bc0, 0, none⟩)), (6, v1), (7, .int .i64 (c0.length : Int)), (8, .int .i64 s3.2.2), (4, .int .i64 s3.2.2), (30, .bool false)]) ⟨rfl, rfl, rfl, rfl, rfl, rfl, rfl, trivial⟩ ?_
        exact hk14 _ _ _ ⟨(s3.1, false), g4, h, (Sto.Le.refl _), rfl, rfl, hI5⟩
  · replace h := (if_neg (ne_t hc)).mp h
    refine st_exit rfl ?_
    refine st_inScope ?_
    obtain rfl := he3 _ h
    replace h := hA3
    obtain rfl := Eq.symm h
    cases hr0
    exact st_fin (gs' := [g4, []]) Try.func91 rfl (by simp) hl3 ⟨g4, _, rfl, hI5, rfl⟩
theorem fence_Segments_ok {a0 : List Int} {v1 : Value} {r : (((S : Type) → ((Int × List Int) → S → Bool × S → Prop) → S → S × Unit → Prop))} (h : fence_Segments a0 r) (σ : Sto) (hs2 : Sl (kI .u8) σ v1 a0) :
    Does Try.prog 69 [v1] σ [] (fun v τ gs => ∃ (f7 : Nat) (q8 : Array Value), gs = [] ∧ .func (.func f7) #[] q8 = v ∧ IterV Try.prog (fun τ x vx => ∃ (v22 : Value), vx = [.int .i64 x.1, v22] ∧ Sl (kI .u8) τ v22 x.2) (.func (.func f7) #[] q8) τ [] (fun (_ : Unit) _ f => f = []) r) := by
  refine call_of Try.func69 Try.ntmps69 rfl rfl (fun cs fs => ?_)
  refine st_seq ?_
  refine st_region ?_
  refine o_box (cs := [v1]) rfl rfl rfl rfl (oneL_sl hs2) (fun b3 => ?_)
  refine o_assign rfl rfl rfl rfl ?_
  refine st_end ?_
  refine st_seq ?_
  refine st_region ?_
  refine st_freeze (fun τ4 hl5 hg6 => ?_)
  refine o_func rfl rfl rfl rfl rfl ?_
  refine o_assign rfl rfl rfl rfl ?_
  refine st_end ?_
  obtain rfl := Eq.symm h
  exact st_ret (gs' := []) Try.func69 rfl (List.Sublist.refl _) hl5 ⟨_, _, rfl, rfl, (fence_Segments_1_ok (cel_of hg6 rfl) (hs2.up hl5))⟩
theorem frame_Codec_Frames_1_ok {c0 : List Int} {c1 : List Int} {bc0 : Nat} {bi3 : Nat} {bi1 : Nat} {bc1 : Nat} {v5 : Value} {σ0 : Sto} (hc0_0 : Cel σ0 ⟨bc0, 0, none⟩ (.pointer (some ⟨bi1, 0, none⟩))) (hc4 : CelN σ0 ⟨bi3, 0, none⟩ (cellsN (Value.int .u32) 0 1024 c0)) (hc2 : CelN σ0 ⟨bi1, 0, none⟩ [.pointer (some ⟨bi3, 0, none⟩)]) (hc1_0 : Cel σ0 ⟨bc1, 0, none⟩ (v5)) (hs6 : Sl (kI .u8) σ0 v5 c1) :
    IterV Try.prog (fun τ x vx => ∃ (v18 : Value), vx = [.agg [.int .i64 x.1.1.1, .int .i64 x.1.1.2.1, .int .u32 x.1.1.2.2.1, .int .i64 x.1.1.2.2.2.1, .int .i64 x.1.1.2.2.2.2, v18].toArray, .int .i64 x.2] ∧ Sl (kI .u8) τ v18 x.1.2) (.func (.func 68) #[] [.pointer (some ⟨bc0, 0, none⟩), .pointer (some ⟨bc1, 0, none⟩)].toArray) σ0 [] (fun (_ : Unit) _ f => f = []) (frame_Codec_Frames_1 c0 c1) := by
  intro S Y I y hyc hyo hIm hY s s' o hR σ g hle hIg
  obtain ⟨r, hr0⟩ : ∃ r, r = (s', o) := ⟨_, rfl⟩
  rw [← hr0] at hR
  have h := hR
  refine callV_of (caps := [.pointer (some ⟨bc0, 0, none⟩), .pointer (some ⟨bc1, 0, none⟩)]) z_en68 ?_
  refine call_of Try.func68 Try.ntmps68 rfl rfl (fun cs fs => ?_)
  refine st_ord [0] [g] rfl ?_
  refine st_seq ?_
  refine st_region ?_
  refine o_box (cs := [y]) rfl rfl rfl rfl hyc (fun b7 => ?_)
  refine st_end ?_
  refine st_seq ?_
  refine st_seq ?_
  refine st_region ?_
  refine o_loadI (v := .pointer (some ⟨bi1, 0, none⟩)) rfl rfl rfl z_sc48 rfl (Cel.up hc0_0 hle) ?_
  refine o_ptrNil (b := false) rfl rfl rfl Try.underlying48 rfl rfl rfl ?_
  refine st_end ?_
  refine st_condF rfl ?_
  refine st_skip ?_
  refine st_seq ?_
  refine st_region ?_
  refine o_loadI (v := v5) rfl rfl rfl z_sc45 rfl (Cel.up hc1_0 hle) ?_
  obtain ⟨r8, hr9, h⟩ := h
  refine st_call (foot := []) rfl rfl rfl rfl rfl rfl (callV_fn z_en69 (fence_Segments_ok hr9 σ (hs6.up hle))) ?_
  rintro vτ10 τ10 gsτ10 hl11 ⟨f12, q13, rfl, rfl, hit14⟩
  refine st_end ?_
  refine st_block ?_
  obtain ⟨t15, w15, hR15, hA15⟩ := h
  refine st_env (ρ' := [(1, .pointer (some ⟨bc0, 0, none⟩)), (3, .pointer (some ⟨b7, 0, none⟩)), (9, .func (.func f12) #[] q13)]) ⟨rfl, rfl, rfl, trivial⟩ ?_
  refine st_addNil ?_
  refine st_range (B := frame_Codec_Frames_1_l1 S Y c0) (s0 := s) ranges_fctx rfl hit14 (Sto.Le.refl _) hR15 rfl (fun _ _ _ h => by obtain ⟨_, rfl, _⟩ := h; rfl) (fun (s15 : S) τ15 gs => τ10.Le τ15 ∧ ∃ (g16 : Grp), gs = [[(b7, .cells [y].toArray 123 (0, 0))], g16] ∧ I s15 τ15 g16) (fun (p36 : S) cd τ37 gs => cd = .ret ∧ τ10.Le τ37 ∧ ∃ (g39 : Grp), gs = [[(b7, .cells [y].toArray 123 (0, 0))], g39] ∧ I p36 τ37 g39) (fun _ _ _ _ hl ⟨hb, g16, hg, hI17⟩ => ⟨hb.trans hl, g16, hg, hIm _ _ _ _ hl hI17⟩) (fun _ _ _ _ _ hl ⟨hc, hb, g39, hg, hI40⟩ => ⟨hc, hb.trans hl, g39, hg, hIm _ _ _ _ hl hI40⟩) ⟨Sto.Le.refl _, g, rfl, (hIm _ _ _ _ hl11 hIg)⟩ ?_ ?_ ?_
  · rintro x15 s15 o15 τ15 gs15 vx15 hl15 h ⟨v18, rfl, hs19⟩ ⟨hb15, g16, rfl, hI17⟩ l15 rc15 caller15 cs15 fs15
    refine st_region ?_
    refine o_assign rfl rfl rfl rfl ?_
    refine st_end ?_
    refine st_begin ?_
    refine st_block ?_
    refine st_seq ?_
    obtain ⟨r20, hr21, h⟩ := h
    obtain ⟨y26, u27, hy28, h⟩ := h
    refine st_draw2 (gs := [[(b7, .cells [y].toArray 123 (0, 0))]]) (F0 := [g16]) 8 1 (tlS [none, none, none, none, none, none, some 0, none]) (tlN [0, 18]) (tl [fun τ v => (y : Value) = v,
    fun τ v => (.pointer (some ⟨bi1, 0, none⟩) : Value) = v,
    fun τ v => (v18 : Value) = v,
    fun τ v => ∃ (v24 : Value), (.tuple [.agg [.int .i64 r20.1.1.1, .int .i64 r20.1.1.2.1, .int .u32 r20.1.1.2.2.1, .int .i64 r20.1.1.2.2.2.1, .int .i64 r20.1.1.2.2.2.2, v24].toArray, .int .i64 r20.2].toArray : Value) = v ∧ Sl (kI .u8) τ v24 r20.1.2,
    fun τ v => ∃ (v24 : Value), (.agg [.int .i64 r20.1.1.1, .int .i64 r20.1.1.2.1, .int .u32 r20.1.1.2.2.1, .int .i64 r20.1.1.2.2.2.1, .int .i64 r20.1.1.2.2.2.2, v24].toArray : Value) = v ∧ Sl (kI .u8) τ v24 r20.1.2,
    fun τ v => (.int .i64 r20.2 : Value) = v,
    fun τ v => (.bool y26 : Value) = v,
    fun τ v => (.bool (!y26) : Value) = v]) (tlI [fun τ u F => F = [g16],
    fun τ u F => ∃ (g33 : Grp), F = [g33] ∧ I u27 τ g33]) z_mix rfl (tl_mono ⟨fun _ _ _ _ h => h, ⟨fun _ _ _ _ h => h, ⟨fun _ _ _ _ h => h, ⟨fun _ _ _ hl ⟨v24, hv, hs25⟩ => ⟨v24, hv, hs25.up hl⟩, ⟨fun _ _ _ hl ⟨v24, hv, hs25⟩ => ⟨v24, hv, hs25.up hl⟩, ⟨fun _ _ _ _ h => h, ⟨fun _ _ _ _ h => h, ⟨fun _ _ _ _ h => h, trivial⟩⟩⟩⟩⟩⟩⟩⟩) (tlI_mono ⟨fun _ _ _ _ hl h => h, ⟨fun _ _ _ _ hl h => (let ⟨g33, hF, hI34⟩ := h; ⟨g33, hF, hIm _ _ _ _ hl hI34⟩), trivial⟩⟩) rfl (rowSd rfl) rfl (allB_cons (allB_cons (allB_cons (allB_cons (allB_cons (allB_cons (allB_cons (allB_cons allB_nil ?_) ?_) ?_) ?_) ?_) ?_) ?_) ?_) ?_
    · intro ρ' τ Fv rs hl hd hout hk
      refine st_flat (gs := [[(b7, .cells [y].toArray 123 (0, 0))]]) (fun pool hp => ?_)
      refine o_load (j := 0) (v := y) rfl rfl rfl z_sc123 ((hout 3 rfl).trans rfl) rfl rfl ?_
      exact st_unflat (gs := [[(b7, .cells [y].toArray 123 (0, 0))]]) hp (hk _ _ (Sto.Le.refl _) rfl)
    · intro ρ' τ Fv rs hl hd hout hk
      refine st_flat (gs := [[(b7, .cells [y].toArray 123 (0, 0))]]) (fun pool hp => ?_)
      refine o_loadI (v := .pointer (some ⟨bi1, 0, none⟩)) rfl rfl rfl z_sc48 ((hout 1 rfl).trans rfl) (Cel.up hc0_0 (((hle.trans hl11).trans hl15).trans hl)) ?_
      exact st_unflat (gs := [[(b7, .cells [y].toArray 123 (0, 0))]]) hp (hk _ _ (Sto.Le.refl _) rfl)
    · intro ρ' τ Fv rs hl hd hout hk
      refine st_flat (gs := [[(b7, .cells [y].toArray 123 (0, 0))]]) (fun pool hp => ?_)
      refine o_move rfl rfl rfl ((hout 5 rfl).trans rfl) ?_
      exact st_unflat (gs := [[(b7, .cells [y].toArray 123 (0, 0))]]) hp (hk _ _ (Sto.Le.refl _) rfl)
    · intro ρ' τ Fv rs hl hd hout hk
      obtain ⟨_, e1, rfl⟩ := hd 1 rfl
      obtain ⟨_, e2, rfl⟩ := hd 2 rfl
      refine st_flat (gs := [[(b7, .cells [y].toArray 123 (0, 0))]]) (fun pool hp => ?_)
      refine st_call (foot := []) rfl rfl rfl rfl (evs_cons e1 (evs_cons e2 rfl)) rfl (callV_fn z_en30 (frame_Codec_Unpack_ok hr21 τ (hc4.up (((hle.trans hl11).trans hl15).trans hl)) (hc2.up (((hle.trans hl11).trans hl15).trans hl)) (hs19.up hl))) ?_
      rintro vτ22 τ22 gsτ22 hl23 ⟨v24, rfl, rfl, hs25⟩
      exact st_unflat (gs := [[(b7, .cells [y].toArray 123 (0, 0))]]) hp (hk _ _ hl23 ⟨v24, rfl, hs25⟩)
    · intro ρ' τ Fv rs hl hd hout hk
      obtain ⟨_, e3, v24, rfl, hs25⟩ := hd 3 rfl
      refine st_flat (gs := [[(b7, .cells [y].toArray 123 (0, 0))]]) (fun pool hp => ?_)
      refine o_extract rfl rfl rfl e3 rfl ?_
      exact st_unflat (gs := [[(b7, .cells [y].toArray 123 (0, 0))]]) hp (hk _ _ (Sto.Le.refl _) ⟨v24, rfl, hs25⟩)
    · intro ρ' τ Fv rs hl hd hout hk
      obtain ⟨_, e3, v24, rfl, hs25⟩ := hd 3 rfl
      refine st_flat (gs := [[(b7, .cells [y].toArray 123 (0, 0))]]) (fun pool hp => ?_)
      refine o_extract rfl rfl rfl e3 rfl ?_
      exact st_unflat (gs := [[(b7, .cells [y].toArray 123 (0, 0))]]) hp (hk _ _ (Sto.Le.refl _) rfl)
    · intro ρ' τ u Fv rs hl hI hu hd hout hk
      obtain ⟨_, e0, rfl⟩ := hd 0 rfl
      obtain ⟨_, e4, v24, rfl, hs25⟩ := hd 4 rfl
      obtain ⟨_, e5, rfl⟩ := hd 5 rfl
      have hI0 := hI
      obtain rfl := hI
      refine st_gs [[(b7, .cells [y].toArray 123 (0, 0))], g16] rfl ?_
      refine st_ord [1, 0] [g16, [(b7, .cells [y].toArray 123 (0, 0))]] rfl ?_
      refine st_call (foot := [g16]) rfl rfl rfl e0 (evs_cons e4 (evs_cons e5 rfl)) rfl (hY (r20.1, r20.2) s15 _ _ _ _ _ (hle.trans ((hl11.trans hl15).trans hl)) hy28 ⟨_, rfl, hs25⟩ (hIm _ _ _ _ hl hI17)) ?_
      rintro vτ29 τ29 gsτ29 hl30 ⟨rfl, g31, rfl, hI32⟩
      refine st_ord [1, 0] [[(b7, .cells [y].toArray 123 (0, 0))], g31] rfl ?_
      exact hk _ _ [g31] hl30 rfl ⟨g31, rfl, hI32⟩
    · intro ρ' τ Fv rs hl hd hout hk
      obtain ⟨_, e6, rfl⟩ := hd 6 rfl
      refine st_flat (gs := [[(b7, .cells [y].toArray 123 (0, 0))]]) (fun pool hp => ?_)
      refine o_not rfl rfl rfl e6 ?_
      exact st_unflat (gs := [[(b7, .cells [y].toArray 123 (0, 0))]]) hp (hk _ _ (Sto.Le.refl _) rfl)
    intro ρ' τ35 vals u Fv hl35 hI hu hv hout
    have l7 : Eng.look ρ' 19 = some (.bool (!y26)) := (hv 7 (by decide)).1.trans (congrArg some (show vals 7 = .bool (!y26) from Eq.symm (hv 7 (by decide)).2))
    obtain ⟨g33, rfl, hI34⟩ := hI
    refine st_gs [[(b7, .cells [y].toArray 123 (0, 0))], g33] rfl ?_
    refine st_env (ρ' := [(19, .bool (!y26)), (1, .pointer (some ⟨bc0, 0, none⟩)), (3, .pointer (some ⟨b7, 0, none⟩)), (11, v18), (5, v18)]) ⟨l7, (hout 1 rfl).trans rfl, (hout 3 rfl).trans rfl, (hout 11 rfl).trans rfl, (hout 5 rfl).trans rfl, trivial⟩ ?_
    refine st_end ?_
    refine st_cond rfl (fun hc => ?_) (fun hc => ?_)
    · replace h := (if_pos hc).mp h
      exact st_rret (List.Sublist.refl _) hl35 ⟨_, h, rfl, (hl15.trans hl35), g33, rfl, hI34⟩
    · replace h := (if_neg (ne_t hc)).mp h
      refine st_skip ?_
      refine st_inBlock ?_
      exact st_rend (List.Sublist.refl _) hl35 ⟨_, h, (hl15.trans hl35), g33, rfl, hI34⟩
  · rintro p41 τ42 gs15 f15 ht hl43 ⟨hb, g44, rfl, hI45⟩ rfl
    subst ht
    replace h := hA15
    refine st_ord [1, 1] [[(b7, .cells [y].toArray 123 (0, 0))], g44] rfl ?_
    refine st_inBlock ?_
    refine st_ord [1] [g44] rfl ?_
    obtain rfl := Eq.symm h
    cases hr0
    exact st_fin (gs' := [g44, []]) Try.func68 rfl (by simp) (hl11.trans hl43) ⟨g44, _, rfl, hI45, rfl⟩
  · rintro p36 cd15 τ37 gs15 f15 ht hl38 ⟨rfl, hb, g39, rfl, hI40⟩ rfl
    subst ht
    replace h := hA15
    refine st_ord [1, 1] [[(b7, .cells [y].toArray 123 (0, 0))], g39] rfl ?_
    refine st_ord [1] [g39] rfl ?_
    obtain rfl := Eq.symm h
    cases hr0
    exact st_ret (gs' := [g39, []]) Try.func68 rfl (by simp) (hl11.trans hl38) ⟨g39, _, rfl, hI40, rfl⟩
theorem frame_Codec_Frames_ok {a0 : List Int} {a1 : List Int} {bi3 : Nat} {bi1 : Nat} {v5 : Value} {r : (((S : Type) → ((((Int × Int × Int × Int × Int) × List Int) × Int) → S → Bool × S → Prop) → S → S × Unit → Prop))} (h : frame_Codec_Frames a0 a1 r) (σ : Sto) (hc4 : CelN σ ⟨bi3, 0, none⟩ (cellsN (Value.int .u32) 0 1024 a0)) (hc2 : CelN σ ⟨bi1, 0, none⟩ [.pointer (some ⟨bi3, 0, none⟩)]) (hs6 : Sl (kI .u8) σ v5 a1) :
    Does Try.prog 36 [.pointer (some ⟨bi1, 0, none⟩), v5] σ [] (fun v τ gs => ∃ (f15 : Nat) (q16 : Array Value), gs = [] ∧ .func (.func f15) #[] q16 = v ∧ IterV Try.prog (fun τ x vx => ∃ (v27 : Value), vx = [.agg [.int .i64 x.1.1.1, .int .i64 x.1.1.2.1, .int .u32 x.1.1.2.2.1, .int .i64 x.1.1.2.2.2.1, .int .i64 x.1.1.2.2.2.2, v27].toArray, .int .i64 x.2] ∧ Sl (kI .u8) τ v27 x.1.2) (.func (.func f15) #[] q16) τ [] (fun (_ : Unit) _ f => f = []) r) := by
  refine call_of Try.func36 Try.ntmps36 rfl rfl (fun cs fs => ?_)
  refine st_seq ?_
  refine st_region ?_
  refine o_box (cs := [.pointer (some ⟨bi1, 0, none⟩)]) rfl rfl rfl rfl rfl (fun b7 => ?_)
  refine o_box (cs := [v5]) rfl rfl rfl rfl (oneL_sl hs6) (fun b8 => ?_)
  refine o_assign rfl rfl rfl rfl ?_
  refine st_end ?_
  refine st_seq ?_
  refine st_region ?_
  refine st_ord [1, 0] [[(b7, .cells [.pointer (some ⟨bi1, 0, none⟩)].toArray 48 (0, 0))], [(b8, .cells [v5].toArray 45 (0, 0))]] rfl ?_
  refine st_freeze (fun τ9 hl10 hg11 => ?_)
  refine st_freeze (fun τ12 hl13 hg14 => ?_)
  refine o_func rfl rfl rfl rfl rfl ?_
  refine o_assign rfl rfl rfl rfl ?_
  refine st_end ?_
  obtain rfl := Eq.symm h
  exact st_ret (gs' := []) Try.func36 rfl (List.Sublist.refl _) (hl10.trans hl13) ⟨_, _, rfl, rfl, (frame_Codec_Frames_1_ok (Cel.up (cel_of hg11 rfl) hl13) (hc4.up (hl10.trans hl13)) (hc2.up (hl10.trans hl13)) (cel_of hg14 rfl) (hs6.up (hl10.trans hl13)))⟩
end Go.Rel
