import Derived.Test.YtlamkclnkbnedaaDoorURel
import Derived.Test.YtlamkclnkbnedaaDoorUFacts
import Derived.Test.YtlamkclnkbnedaaDoorUWalk0
/-! The walks. -/
set_option linter.unusedVariables false
set_option linter.unusedSimpArgs false
set_option maxRecDepth 4000
namespace Go.Rel
open Go Go.Eng Go.Proofs
theorem ref04_Of_ok {a0 : Int} {r : List Bool} (h : ref04_Of a0 r) (σ : Sto)  :
    Does Tryd.prog 84 [.int .u32 a0] σ [] (fun v τ gs => gs = [] ∧ .agg (cellsN Value.bool false 32 r).toArray = v) := by
  refine call_of Tryd.func84 Tryd.ntmps84 rfl rfl (fun cs fs => ?_)
  refine st_seq ?_
  refine st_region ?_
  refine o_alloc rfl rfl rfl z_zero136 (fun b1 => ?_)
  refine st_end ?_
  refine st_seq ?_
  refine st_region ?_
  refine o_alloc rfl rfl rfl z_zero136 (fun b2 => ?_)
  refine st_end ?_
  refine st_seq ?_
  refine st_cut (fun ρ τ3 gs => ∃ (s3 : List Bool), ref04_Of_j1 s3 r ∧ σ.Le τ3 ∧ ρ = [(2, .pointer (some ⟨b1, 0, none⟩)), (3, .pointer (some ⟨b2, 0, none⟩))] ∧ gs = [[(b1, .cells (cellsN Value.bool false 32 (List.replicate 32 false)).toArray 136 (0, 0))], [(b2, .cells (cellsN Value.bool false 32 s3).toArray 136 (0, 0))]]) ?_ (fun hk3 => ?_)
  · rintro ρ3 τ3 gs3 ⟨s3, h, hl3, rfl, rfl⟩
    refine st_seq ?_
    refine st_region ?_
    refine o_loadN (j := 1) (vs := (cellsN Value.bool false 32 s3)) rfl rfl rfl z_agg136 rfl rfl rfl ?_
    refine o_store (j := 0) (vs := (cellsN Value.bool false 32 s3)) (cs' := (cellsN Value.bool false 32 s3)) rfl rfl rfl z_size136 rfl rfl rfl ones_cellsNB rfl rfl rfl ?_
    refine st_gs [[(b1, .cells (cellsN Value.bool false 32 s3).toArray 136 (0, 0))], [(b2, .cells (cellsN Value.bool false 32 s3).toArray 136 (0, 0))]] rfl ?_
    refine st_end ?_
    obtain rfl := Eq.symm h
    exact st_retC (gs' := []) [.agg (cellsN Value.bool false 32 s3).toArray] Tryd.func84 ⟨⟨_, _, _, _, rfl, mem_flat 0 rfl, fun w hw => cellOfN (vs := (cellsN Value.bool false 32 s3)) z_agg136 rfl w hw⟩, trivial⟩ (by simp) hl3 ⟨rfl, rfl⟩
  refine st_seq ?_
  refine st_region ?_
  refine o_assign rfl rfl rfl rfl ?_
  refine st_end ?_
  obtain ⟨e4, hL4, hA4⟩ := h
  refine st_env (ρ' := [(0, .int .u32 a0), (2, .pointer (some ⟨b1, 0, none⟩)), (3, .pointer (some ⟨b2, 0, none⟩)), (4, .int .i64 0)]) ⟨rfl, rfl, rfl, rfl, trivial⟩ ?_
  refine st_ord [1, 0] [[(b1, .cells (cellsN Value.bool false 32 (List.replicate 32 false)).toArray 136 (0, 0))], [(b2, .cells (cellsN Value.bool false 32 (List.replicate 32 false)).toArray 136 (0, 0))]] rfl ?_
  refine st_loop hL4 (fun (s4 : Int × Int × List Bool) ρ τ4 gs => σ.Le τ4 ∧ ρ = [(0, .int .u32 s4.1), (2, .pointer (some ⟨b1, 0, none⟩)), (3, .pointer (some ⟨b2, 0, none⟩)), (4, .int .i64 s4.2.1)] ∧ gs = [[(b1, .cells (cellsN Value.bool false 32 (List.replicate 32 false)).toArray 136 (0, 0))], [(b2, .cells (cellsN Value.bool false 32 s4.2.2).toArray 136 (0, 0))]]) ⟨Sto.Le.refl _, rfl, rfl⟩ ?_
  rintro s4 o4 h he4 ρ4 τ4 gs4 ⟨hl4, rfl, rfl⟩ hn4
  refine st_seq ?_
  refine st_seq ?_
  refine st_region ?_
  refine o_move rfl rfl rfl rfl ?_
  refine o_ibin (v := .bool (decide (s4.2.1 < 32))) rfl rfl rfl rfl rfl rfl ?_
  refine st_end ?_
  refine st_cond rfl (fun hc => ?_) (fun hc => ?_)
  · replace h := (if_pos hc).mp h
    refine st_skip ?_
    refine st_seq ?_
    refine st_block ?_
    refine st_seq ?_
    refine st_region ?_
    refine o_move rfl rfl rfl rfl ?_
    refine o_move rfl rfl rfl rfl ?_
    refine o_rem rfl rfl rfl rfl rfl (by decide) ?_
    refine o_ibin (v := .bool (decide ((s4.1.tmod 2) = 1))) rfl rfl rfl rfl rfl rfl ?_
    obtain ⟨hf5, h⟩ := h
    obtain ⟨hf6, h⟩ := h
    refine o_indexA rfl rfl rfl z_arr136 rfl rfl hf5 hf6 ?_
    refine o_storeB (j := 1) (q := s4.2.1.toNat) (f := Value.bool) (zz := false) (a := (decide ((s4.1.tmod 2) = 1))) (l := 32) (xs := s4.2.2) rfl rfl rfl z_size4 rfl rfl rfl rfl rfl (by omega) (by omega) ?_
    refine st_gs [[(b1, .cells (cellsN Value.bool false 32 (List.replicate 32 false)).toArray 136 (0, 0))], [(b2, .cells (cellsN Value.bool false 32 (putN 32 false s4.2.2 s4.2.1.toNat (decide ((s4.1.tmod 2) = 1)))).toArray 136 (0, 0))]] rfl ?_
    refine st_end ?_
    refine st_region ?_
    refine o_move rfl rfl rfl rfl ?_
    refine o_quo rfl rfl rfl rfl rfl (by decide) ?_
    refine o_assign rfl rfl rfl rfl ?_
    refine st_end ?_
    refine st_inBlock ?_
    refine st_region ?_
    refine o_move rfl rfl rfl rfl ?_
    refine o_ibin (v := .int .i64 (IntKind.i64.wrap (s4.2.1 + 1))) rfl rfl rfl rfl rfl rfl ?_
    refine o_assign rfl rfl rfl rfl ?_
    refine st_end ?_
    refine st_env (ρ' := [(0, .int .u32 (IntKind.u32.wrap (s4.1.tdiv 2))), (2, .pointer (some ⟨b1, 0, none⟩)), (3, .pointer (some ⟨b2, 0, none⟩)), (4, .int .i64 (IntKind.i64.wrap (s4.2.1 + 1)))]) ⟨rfl, rfl, rfl, rfl, trivial⟩ ?_
    exact hn4 _ _ _ _ h ⟨hl4, rfl, rfl⟩
  · replace h := (if_neg (ne_t hc)).mp h
    refine st_exit rfl ?_
    obtain rfl := he4 _ h
    replace h := hA4
    refine st_env (ρ' := [(2, .pointer (some ⟨b1, 0, none⟩)), (3, .pointer (some ⟨b2, 0, none⟩))]) ⟨rfl, rfl, trivial⟩ ?_
    exact hk3 _ _ _ ⟨s4.2.2, h, hl4, rfl, rfl⟩
theorem ref04_Xor_ok {a0 : List Bool} {a1 : List Bool} {r : List Bool} (h : ref04_Xor a0 a1 r) (σ : Sto)  :
    Does Tryd.prog 86 [.agg (cellsN Value.bool false 32 a0).toArray, .agg (cellsN Value.bool false 32 a1).toArray] σ [] (fun v τ gs => gs = [] ∧ .agg (cellsN Value.bool false 32 r).toArray = v) := by
  refine call_of Tryd.func86 Tryd.ntmps86 rfl rfl (fun cs fs => ?_)
  refine st_seq ?_
  refine st_region ?_
  refine o_box (cs := (cellsN Value.bool false 32 a0)) rfl rfl rfl rfl rfl (fun b1 => ?_)
  refine o_box (cs := (cellsN Value.bool false 32 a1)) rfl rfl rfl rfl rfl (fun b2 => ?_)
  refine o_alloc rfl rfl rfl z_zero136 (fun b3 => ?_)
  refine st_end ?_
  refine st_seq ?_
  refine st_cut (fun ρ τ4 gs => ∃ (s4 : List Bool), ref04_Xor_j1 s4 r ∧ σ.Le τ4 ∧ ρ = [(2, .pointer (some ⟨b1, 0, none⟩)), (4, .pointer (some ⟨b3, 0, none⟩))] ∧ gs = [[(b1, .cells (cellsN Value.bool false 32 s4).toArray 136 (0, 0))], [(b3, .cells (cellsN Value.bool false 32 (List.replicate 32 false)).toArray 136 (0, 0))]]) ?_ (fun hk4 => ?_)
  · rintro ρ4 τ4 gs4 ⟨s4, h, hl4, rfl, rfl⟩
    refine st_seq ?_
    refine st_region ?_
    refine o_loadN (j := 0) (vs := (cellsN Value.bool false 32 s4)) rfl rfl rfl z_agg136 rfl rfl rfl ?_
    refine o_store (j := 1) (vs := (cellsN Value.bool false 32 s4)) (cs' := (cellsN Value.bool false 32 s4)) rfl rfl rfl z_size136 rfl rfl rfl ones_cellsNB rfl rfl rfl ?_
    refine st_gs [[(b1, .cells (cellsN Value.bool false 32 s4).toArray 136 (0, 0))], [(b3, .cells (cellsN Value.bool false 32 s4).toArray 136 (0, 0))]] rfl ?_
    refine st_end ?_
    obtain rfl := Eq.symm h
    exact st_retC (gs' := []) [.agg (cellsN Value.bool false 32 s4).toArray] Tryd.func86 ⟨⟨_, _, _, _, rfl, mem_flat 1 rfl, fun w hw => cellOfN (vs := (cellsN Value.bool false 32 s4)) z_agg136 rfl w hw⟩, trivial⟩ (by simp) hl4 ⟨rfl, rfl⟩
  refine st_seq ?_
  refine st_region ?_
  refine o_assign rfl rfl rfl rfl ?_
  refine st_end ?_
  obtain ⟨e5, hL5, hA5⟩ := h
  refine st_env (ρ' := [(2, .pointer (some ⟨b1, 0, none⟩)), (3, .pointer (some ⟨b2, 0, none⟩)), (4, .pointer (some ⟨b3, 0, none⟩)), (5, .int .i64 0)]) ⟨rfl, rfl, rfl, rfl, trivial⟩ ?_
  refine st_ord [2, 1, 0] [[(b1, .cells (cellsN Value.bool false 32 a0).toArray 136 (0, 0))], [(b2, .cells (cellsN Value.bool false 32 a1).toArray 136 (0, 0))], [(b3, .cells (cellsN Value.bool false 32 (List.replicate 32 false)).toArray 136 (0, 0))]] rfl ?_
  refine st_loop hL5 (fun (s5 : Int × List Bool) ρ τ5 gs => σ.Le τ5 ∧ ρ = [(2, .pointer (some ⟨b1, 0, none⟩)), (3, .pointer (some ⟨b2, 0, none⟩)), (4, .pointer (some ⟨b3, 0, none⟩)), (5, .int .i64 s5.1)] ∧ gs = [[(b1, .cells (cellsN Value.bool false 32 s5.2).toArray 136 (0, 0))], [(b2, .cells (cellsN Value.bool false 32 a1).toArray 136 (0, 0))], [(b3, .cells (cellsN Value.bool false 32 (List.replicate 32 false)).toArray 136 (0, 0))]]) ⟨Sto.Le.refl _, rfl, rfl⟩ ?_
  rintro s5 o5 h he5 ρ5 τ5 gs5 ⟨hl5, rfl, rfl⟩ hn5
  refine st_seq ?_
  refine st_seq ?_
  refine st_region ?_
  refine o_move rfl rfl rfl rfl ?_
  refine o_ibin (v := .bool (decide (s5.1 < 32))) rfl rfl rfl rfl rfl rfl ?_
  refine st_end ?_
  refine st_cond rfl (fun hc => ?_) (fun hc => ?_)
  · replace h := (if_pos hc).mp h
    refine st_skip ?_
    refine st_seq ?_
    refine st_block ?_
    obtain ⟨hf6, h⟩ := h
    obtain ⟨hf7, h⟩ := h
    obtain ⟨hf8, h⟩ := h
    obtain ⟨hf9, h⟩ := h
    refine st_draw 8 (tl [fun τ v => (.int .i64 s5.1 : Value) = v,
    fun τ v => (.int .i64 s5.1 : Value) = v,
    fun τ v => (.pointer (some ⟨b1, 0 + s5.1.toNat * 1, none⟩) : Value) = v,
    fun τ v => (.bool (s5.2.getD s5.1.toNat false) : Value) = v,
    fun τ v => (.int .i64 s5.1 : Value) = v,
    fun τ v => (.pointer (some ⟨b2, 0 + s5.1.toNat * 1, none⟩) : Value) = v,
    fun τ v => (.bool (a1.getD s5.1.toNat false) : Value) = v,
    fun τ v => (.bool (!(decide ((s5.2.getD s5.1.toNat false) = (a1.getD s5.1.toNat false)))) : Value) = v]) (fun _ _ => []) z_mix rfl (tl_mono ⟨fun _ _ _ _ h => h, ⟨fun _ _ _ _ h => h, ⟨fun _ _ _ _ h => h, ⟨fun _ _ _ _ h => h, ⟨fun _ _ _ _ h => h, ⟨fun _ _ _ _ h => h, ⟨fun _ _ _ _ h => h, ⟨fun _ _ _ _ h => h, trivial⟩⟩⟩⟩⟩⟩⟩⟩) (allB_cons (allB_cons (allB_cons (allB_cons (allB_cons (allB_cons (allB_cons (allB_cons allB_nil ?_) ?_) ?_) ?_) ?_) ?_) ?_) ?_) ?_
    · intro ρ' τ pool rs hl hd hout hk
      refine o_move rfl rfl rfl ((hout 5 rfl).trans rfl) ?_
      exact st_addNil (hk _ _ (Sto.Le.refl _) rfl)
    · intro ρ' τ pool rs hl hd hout hk
      refine o_move rfl rfl rfl ((hout 5 rfl).trans rfl) ?_
      exact st_addNil (hk _ _ (Sto.Le.refl _) rfl)
    · intro ρ' τ pool rs hl hd hout hk
      obtain ⟨_, e1, rfl⟩ := hd 1 rfl
      refine o_indexA rfl rfl rfl z_arr136 ((hout 2 rfl).trans rfl) e1 hf6 hf7 ?_
      exact st_addNil (hk _ _ (Sto.Le.refl _) rfl)
    · intro ρ' τ pool rs hl hd hout hk
      obtain ⟨_, e2, rfl⟩ := hd 2 rfl
      refine o_loadB (j := 0) (q := s5.1.toNat) (f := Value.bool) (zz := false) (l := 32) (xs := s5.2) rfl rfl rfl z_sc4 e2 rfl (by omega) (by omega) ?_
      exact st_addNil (hk _ _ (Sto.Le.refl _) rfl)
    · intro ρ' τ pool rs hl hd hout hk
      refine o_move rfl rfl rfl ((hout 5 rfl).trans rfl) ?_
      exact st_addNil (hk _ _ (Sto.Le.refl _) rfl)
    · intro ρ' τ pool rs hl hd hout hk
      obtain ⟨_, e4, rfl⟩ := hd 4 rfl
      refine o_indexA rfl rfl rfl z_arr136 ((hout 3 rfl).trans rfl) e4 hf8 hf9 ?_
      exact st_addNil (hk _ _ (Sto.Le.refl _) rfl)
    · intro ρ' τ pool rs hl hd hout hk
      obtain ⟨_, e5, rfl⟩ := hd 5 rfl
      refine o_loadB (j := 1) (q := s5.1.toNat) (f := Value.bool) (zz := false) (l := 32) (xs := a1) rfl rfl rfl z_sc4 e5 rfl (by omega) (by omega) ?_
      exact st_addNil (hk _ _ (Sto.Le.refl _) rfl)
    · intro ρ' τ pool rs hl hd hout hk
      obtain ⟨_, e3, rfl⟩ := hd 3 rfl
      obtain ⟨_, e6, rfl⟩ := hd 6 rfl
      refine o_beq (e := (!(decide ((s5.2.getD s5.1.toNat false) = (a1.getD s5.1.toNat false))))) rfl rfl rfl Tryd.underlying4 e3 e6 rfl ?_
      exact st_addNil (hk _ _ (Sto.Le.refl _) rfl)
    intro ρ' τ10 vals hl10 hv hout
    have l0 : Eng.look ρ' 10 = some (.int .i64 s5.1) := (hv 0 (by decide)).1.trans (congrArg some (show vals 0 = .int .i64 s5.1 from Eq.symm (hv 0 (by decide)).2))
    have l7 : Eng.look ρ' 17 = some (.bool (!(decide ((s5.2.getD s5.1.toNat false) = (a1.getD s5.1.toNat false))))) := (hv 7 (by decide)).1.trans (congrArg some (show vals 7 = .bool (!(decide ((s5.2.getD s5.1.toNat false) = (a1.getD s5.1.toNat false)))) from Eq.symm (hv 7 (by decide)).2))
    refine st_ord [0, 0, 0] [[(b1, .cells (cellsN Value.bool false 32 s5.2).toArray 136 (0, 0))], [(b2, .cells (cellsN Value.bool false 32 a1).toArray 136 (0, 0))], [(b3, .cells (cellsN Value.bool false 32 (List.replicate 32 false)).toArray 136 (0, 0))]] rfl ?_
    refine st_env (ρ' := [(10, .int .i64 s5.1), (17, .bool (!(decide ((s5.2.getD s5.1.toNat false) = (a1.getD s5.1.toNat false))))), (2, .pointer (some ⟨b1, 0, none⟩)), (3, .pointer (some ⟨b2, 0, none⟩)), (4, .pointer (some ⟨b3, 0, none⟩)), (5, .int .i64 s5.1)]) ⟨l0, l7, (hout 2 rfl).trans rfl, (hout 3 rfl).trans rfl, (hout 4 rfl).trans rfl, (hout 5 rfl).trans rfl, trivial⟩ ?_
    obtain ⟨hf11, h⟩ := h
    obtain ⟨hf12, h⟩ := h
    refine o_indexA rfl rfl rfl z_arr136 rfl rfl hf11 hf12 ?_
    refine o_storeB (j := 0) (q := s5.1.toNat) (f := Value.bool) (zz := false) (a := (!(decide ((s5.2.getD s5.1.toNat false) = (a1.getD s5.1.toNat false))))) (l := 32) (xs := s5.2) rfl rfl rfl z_size4 rfl rfl rfl rfl rfl (by omega) (by omega) ?_
    refine st_gs [[(b1, .cells (cellsN Value.bool false 32 (putN 32 false s5.2 s5.1.toNat (!(decide ((s5.2.getD s5.1.toNat false) = (a1.getD s5.1.toNat false)))))).toArray 136 (0, 0))], [(b2, .cells (cellsN Value.bool false 32 a1).toArray 136 (0, 0))], [(b3, .cells (cellsN Value.bool false 32 (List.replicate 32 false)).toArray 136 (0, 0))]] rfl ?_
    refine st_end ?_
    refine st_inBlock ?_
    refine st_region ?_
    refine o_move rfl rfl rfl rfl ?_
    refine o_ibin (v := .int .i64 (IntKind.i64.wrap (s5.1 + 1))) rfl rfl rfl rfl rfl rfl ?_
    refine o_assign rfl rfl rfl rfl ?_
    refine st_end ?_
    refine st_env (ρ' := [(2, .pointer (some ⟨b1, 0, none⟩)), (3, .pointer (some ⟨b2, 0, none⟩)), (4, .pointer (some ⟨b3, 0, none⟩)), (5, .int .i64 (IntKind.i64.wrap (s5.1 + 1)))]) ⟨rfl, rfl, rfl, rfl, trivial⟩ ?_
    exact hn5 _ _ _ _ h ⟨(hl5.trans hl10), rfl, rfl⟩
  · replace h := (if_neg (ne_t hc)).mp h
    refine st_exit rfl ?_
    obtain rfl := he5 _ h
    replace h := hA5
    refine st_env (ρ' := [(2, .pointer (some ⟨b1, 0, none⟩)), (4, .pointer (some ⟨b3, 0, none⟩))]) ⟨rfl, rfl, trivial⟩ ?_
    refine st_ord [0, 1] [[(b1, .cells (cellsN Value.bool false 32 s5.2).toArray 136 (0, 0))], [(b3, .cells (cellsN Value.bool false 32 (List.replicate 32 false)).toArray 136 (0, 0))]] rfl ?_
    exact hk4 _ _ _ ⟨s5.2, h, hl5, rfl, rfl⟩
theorem ref04_Shift_ok {a0 : List Bool} {r : List Bool} (h : ref04_Shift a0 r) (σ : Sto)  :
    Does Tryd.prog 85 [.agg (cellsN Value.bool false 32 a0).toArray] σ [] (fun v τ gs => gs = [] ∧ .agg (cellsN Value.bool false 32 r).toArray = v) := by
  refine call_of Tryd.func85 Tryd.ntmps85 rfl rfl (fun cs fs => ?_)
  refine st_seq ?_
  refine st_region ?_
  refine o_box (cs := (cellsN Value.bool false 32 a0)) rfl rfl rfl rfl rfl (fun b1 => ?_)
  refine o_alloc rfl rfl rfl z_zero136 (fun b2 => ?_)
  refine st_end ?_
  refine st_seq ?_
  refine st_region ?_
  obtain ⟨r3, hr4, h⟩ := h
  refine st_call (foot := []) rfl rfl rfl rfl rfl rfl (callV_fn z_en84 (ref04_Of_ok hr4 σ)) ?_
  rintro vτ5 τ5 gsτ5 hl6 ⟨rfl, rfl⟩
  refine o_alloc rfl rfl rfl z_zero136 (fun b7 => ?_)
  refine o_store (j := 0) (vs := (cellsN Value.bool false 32 r3)) (cs' := (cellsN Value.bool false 32 r3)) rfl rfl rfl z_size136 rfl rfl rfl ones_cellsNB rfl rfl rfl ?_
  refine st_gs [[(b7, .cells (cellsN Value.bool false 32 r3).toArray 136 (0, 0))], [(b2, .cells (cellsN Value.bool false 32 (List.replicate 32 false)).toArray 136 (0, 0))], [(b1, .cells (cellsN Value.bool false 32 a0).toArray 136 (0, 0))]] rfl ?_
  refine st_end ?_
  refine st_seq ?_
  refine st_cut (fun ρ τ8 gs => ∃ (s8 : List Bool), ref04_Shift_j1 s8 r ∧ τ5.Le τ8 ∧ ρ = [(1, .pointer (some ⟨b1, 0, none⟩)), (2, .pointer (some ⟨b2, 0, none⟩))] ∧ gs = [[(b1, .cells (cellsN Value.bool false 32 s8).toArray 136 (0, 0))], [(b2, .cells (cellsN Value.bool false 32 (List.replicate 32 false)).toArray 136 (0, 0))]]) ?_ (fun hk8 => ?_)
  · rintro ρ8 τ8 gs8 ⟨s8, h, hl8, rfl, rfl⟩
    refine st_seq ?_
    refine st_region ?_
    refine o_loadN (j := 0) (vs := (cellsN Value.bool false 32 s8)) rfl rfl rfl z_agg136 rfl rfl rfl ?_
    refine o_store (j := 1) (vs := (cellsN Value.bool false 32 s8)) (cs' := (cellsN Value.bool false 32 s8)) rfl rfl rfl z_size136 rfl rfl rfl ones_cellsNB rfl rfl rfl ?_
    refine st_gs [[(b1, .cells (cellsN Value.bool false 32 s8).toArray 136 (0, 0))], [(b2, .cells (cellsN Value.bool false 32 s8).toArray 136 (0, 0))]] rfl ?_
    refine st_end ?_
    obtain rfl := Eq.symm h
    exact st_retC (gs' := []) [.agg (cellsN Value.bool false 32 s8).toArray] Tryd.func85 ⟨⟨_, _, _, _, rfl, mem_flat 1 rfl, fun w hw => cellOfN (vs := (cellsN Value.bool false 32 s8)) z_agg136 rfl w hw⟩, trivial⟩ (by simp) (hl6.trans hl8) ⟨rfl, rfl⟩
  refine st_seq ?_
  refine st_region ?_
  refine o_assign rfl rfl rfl rfl ?_
  refine st_end ?_
  obtain ⟨e9, hL9, hA9⟩ := h
  refine st_env (ρ' := [(1, .pointer (some ⟨b1, 0, none⟩)), (2, .pointer (some ⟨b2, 0, none⟩)), (3, .pointer (some ⟨b7, 0, none⟩)), (4, .int .i64 0)]) ⟨rfl, rfl, rfl, rfl, trivial⟩ ?_
  refine st_ord [2, 1, 0] [[(b1, .cells (cellsN Value.bool false 32 a0).toArray 136 (0, 0))], [(b2, .cells (cellsN Value.bool false 32 (List.replicate 32 false)).toArray 136 (0, 0))], [(b7, .cells (cellsN Value.bool false 32 r3).toArray 136 (0, 0))]] rfl ?_
  refine st_loop hL9 (fun (s9 : Int × List Bool) ρ τ9 gs => τ5.Le τ9 ∧ ρ = [(1, .pointer (some ⟨b1, 0, none⟩)), (2, .pointer (some ⟨b2, 0, none⟩)), (3, .pointer (some ⟨b7, 0, none⟩)), (4, .int .i64 s9.1)] ∧ gs = [[(b1, .cells (cellsN Value.bool false 32 s9.2).toArray 136 (0, 0))], [(b2, .cells (cellsN Value.bool false 32 (List.replicate 32 false)).toArray 136 (0, 0))], [(b7, .cells (cellsN Value.bool false 32 r3).toArray 136 (0, 0))]]) ⟨Sto.Le.refl _, rfl, rfl⟩ ?_
  rintro s9 o9 h he9 ρ9 τ9 gs9 ⟨hl9, rfl, rfl⟩ hn9
  refine st_seq ?_
  refine st_seq ?_
  refine st_region ?_
  refine o_move rfl rfl rfl rfl ?_
  refine o_ibin (v := .bool (decide (s9.1 < 8))) rfl rfl rfl rfl rfl rfl ?_
  refine st_end ?_
  refine st_cond rfl (fun hc => ?_) (fun hc => ?_)
  · replace h := (if_pos hc).mp h
    refine st_skip ?_
    refine st_seq ?_
    refine st_cut (fun ρ τ10 gs => ∃ (s10 : List Bool), ref04_Shift_j3 s9 s10 o9 ∧ τ9.Le τ10 ∧ ρ = [(1, .pointer (some ⟨b1, 0, none⟩)), (2, .pointer (some ⟨b2, 0, none⟩)), (3, .pointer (some ⟨b7, 0, none⟩)), (4, .int .i64 s9.1)] ∧ gs = [[(b1, .cells (cellsN Value.bool false 32 s10).toArray 136 (0, 0))], [(b2, .cells (cellsN Value.bool false 32 (List.replicate 32 false)).toArray 136 (0, 0))], [(b7, .cells (cellsN Value.bool false 32 r3).toArray 136 (0, 0))]]) ?_ (fun hk10 => ?_)
    · rintro ρ10 τ10 gs10 ⟨s10, h, hl10, rfl, rfl⟩
      refine st_region ?_
      refine o_move rfl rfl rfl rfl ?_
      refine o_ibin (v := .int .i64 (IntKind.i64.wrap (s9.1 + 1))) rfl rfl rfl rfl rfl rfl ?_
      refine o_assign rfl rfl rfl rfl ?_
      refine st_end ?_
      refine st_env (ρ' := [(1, .pointer (some ⟨b1, 0, none⟩)), (2, .pointer (some ⟨b2, 0, none⟩)), (3, .pointer (some ⟨b7, 0, none⟩)), (4, .int .i64 (IntKind.i64.wrap (s9.1 + 1)))]) ⟨rfl, rfl, rfl, rfl, trivial⟩ ?_
      exact hn9 _ _ _ _ h ⟨(hl9.trans hl10), rfl, rfl⟩
    refine st_block ?_
    refine st_seq ?_
    refine st_region ?_
    refine o_indexA rfl rfl rfl z_arr136 rfl rfl (by decide) (by decide) ?_
    refine o_loadB (j := 0) (q := 0) (f := Value.bool) (zz := false) (l := 32) (xs := s9.2) rfl rfl rfl z_sc4 rfl rfl (by omega) (by omega) ?_
    refine o_assign rfl rfl rfl rfl ?_
    refine st_end ?_
    refine st_seq ?_
    refine st_cut (fun ρ τ11 gs => ∃ (s11 : List Bool), ref04_Shift_j4 r3 s9 s11 o9 ∧ τ9.Le τ11 ∧ ρ = [(1, .pointer (some ⟨b1, 0, none⟩)), (2, .pointer (some ⟨b2, 0, none⟩)), (3, .pointer (some ⟨b7, 0, none⟩)), (4, .int .i64 s9.1), (5, .bool (s9.2.getD 0 false))] ∧ gs = [[(b1, .cells (cellsN Value.bool false 32 s11).toArray 136 (0, 0))], [(b2, .cells (cellsN Value.bool false 32 (List.replicate 32 false)).toArray 136 (0, 0))], [(b7, .cells (cellsN Value.bool false 32 r3).toArray 136 (0, 0))]]) ?_ (fun hk11 => ?_)
    · rintro ρ11 τ11 gs11 ⟨s11, h, hl11, rfl, rfl⟩
      refine st_seq ?_
      refine st_region ?_
      refine o_indexA rfl rfl rfl z_arr136 rfl rfl (by decide) (by decide) ?_
      refine o_storeB (j := 0) (q := 31) (f := Value.bool) (zz := false) (a := false) (l := 32) (xs := s11) rfl rfl rfl z_size4 rfl rfl rfl rfl rfl (by omega) (by omega) ?_
      refine st_gs [[(b1, .cells (cellsN Value.bool false 32 (putN 32 false s11 31 false)).toArray 136 (0, 0))], [(b2, .cells (cellsN Value.bool false 32 (List.replicate 32 false)).toArray 136 (0, 0))], [(b7, .cells (cellsN Value.bool false 32 r3).toArray 136 (0, 0))]] rfl ?_
      refine st_end ?_
      refine st_seq ?_
      refine st_region ?_
      refine o_move rfl rfl rfl rfl ?_
      refine st_end ?_
      refine st_cond rfl (fun hc => ?_) (fun hc => ?_)
      · replace h := (if_pos hc).mp h
        refine st_region ?_
        refine o_loadN (j := 0) (vs := (cellsN Value.bool false 32 (putN 32 false s11 31 false))) rfl rfl rfl z_agg136 rfl rfl rfl ?_
        refine o_loadN (j := 2) (vs := (cellsN Value.bool false 32 r3)) rfl rfl rfl z_agg136 rfl rfl rfl ?_
        obtain ⟨r12, hr13, h⟩ := h
        refine st_call (foot := []) rfl rfl rfl rfl rfl rfl (callV_fn z_en86 (ref04_Xor_ok hr13 τ11)) ?_
        rintro vτ14 τ14 gsτ14 hl15 ⟨rfl, rfl⟩
        refine o_store (j := 0) (vs := (cellsN Value.bool false 32 r12)) (cs' := (cellsN Value.bool false 32 r12)) rfl rfl rfl z_size136 rfl rfl rfl ones_cellsNB rfl rfl rfl ?_
        refine st_gs [[(b1, .cells (cellsN Value.bool false 32 r12).toArray 136 (0, 0))], [(b2, .cells (cellsN Value.bool false 32 (List.replicate 32 false)).toArray 136 (0, 0))], [(b7, .cells (cellsN Value.bool false 32 r3).toArray 136 (0, 0))]] rfl ?_
        refine st_end ?_
        refine st_inBlock ?_
        refine st_env (ρ' := [(1, .pointer (some ⟨b1, 0, none⟩)), (2, .pointer (some ⟨b2, 0, none⟩)), (3, .pointer (some ⟨b7, 0, none⟩)), (4, .int .i64 s9.1)]) ⟨rfl, rfl, rfl, rfl, trivial⟩ ?_
        exact hk10 _ _ _ ⟨r12, h, (hl11.trans hl15), rfl, rfl⟩
      · replace h := (if_neg (ne_t hc)).mp h
        refine st_skip ?_
        refine st_inBlock ?_
        refine st_env (ρ' := [(1, .pointer (some ⟨b1, 0, none⟩)), (2, .pointer (some ⟨b2, 0, none⟩)), (3, .pointer (some ⟨b7, 0, none⟩)), (4, .int .i64 s9.1)]) ⟨rfl, rfl, rfl, rfl, trivial⟩ ?_
        exact hk10 _ _ _ ⟨(putN 32 false s11 31 false), h, hl11, rfl, rfl⟩
    refine st_seq ?_
    refine st_region ?_
    refine o_assign rfl rfl rfl rfl ?_
    refine st_end ?_
    obtain ⟨e16, hL16, hA16⟩ := h
    refine st_env (ρ' := [(1, .pointer (some ⟨b1, 0, none⟩)), (2, .pointer (some ⟨b2, 0, none⟩)), (3, .pointer (some ⟨b7, 0, none⟩)), (4, .int .i64 s9.1), (5, .bool (s9.2.getD 0 false)), (6, .int .i64 0)]) ⟨rfl, rfl, rfl, rfl, rfl, rfl, trivial⟩ ?_
    refine st_loop hL16 (fun (s16 : Int × List Bool) ρ τ16 gs => τ9.Le τ16 ∧ ρ = [(1, .pointer (some ⟨b1, 0, none⟩)), (2, .pointer (some ⟨b2, 0, none⟩)), (3, .pointer (some ⟨b7, 0, none⟩)), (4, .int .i64 s9.1), (5, .bool (s9.2.getD 0 false)), (6, .int .i64 s16.1)] ∧ gs = [[(b1, .cells (cellsN Value.bool false 32 s16.2).toArray 136 (0, 0))], [(b2, .cells (cellsN Value.bool false 32 (List.replicate 32 false)).toArray 136 (0, 0))], [(b7, .cells (cellsN Value.bool false 32 r3).toArray 136 (0, 0))]]) ⟨Sto.Le.refl _, rfl, rfl⟩ ?_
    rintro s16 o16 h he16 ρ16 τ16 gs16 ⟨hl16, rfl, rfl⟩ hn16
    refine st_seq ?_
    refine st_seq ?_
    refine st_region ?_
    refine o_move rfl rfl rfl rfl ?_
    refine o_ibin (v := .bool (decide (s16.1 < 31))) rfl rfl rfl rfl rfl rfl ?_
    refine st_end ?_
    refine st_cond rfl (fun hc => ?_) (fun hc => ?_)
    · replace h := (if_pos hc).mp h
      refine st_skip ?_
      refine st_seq ?_
      refine st_block ?_
      refine st_region ?_
      refine o_move rfl rfl rfl rfl ?_
      refine o_move rfl rfl rfl rfl ?_
      refine o_ibin (v := .int .i64 (IntKind.i64.wrap (s16.1 + 1))) rfl rfl rfl rfl rfl rfl ?_
      obtain ⟨hf17, h⟩ := h
      obtain ⟨hf18, h⟩ := h
      refine o_indexA rfl rfl rfl z_arr136 rfl rfl hf17 hf18 ?_
      refine o_loadB (j := 0) (q := (IntKind.i64.wrap (s16.1 + 1)).toNat) (f := Value.bool) (zz := false) (l := 32) (xs := s16.2) rfl rfl rfl z_sc4 rfl rfl (by omega) (by omega) ?_
      obtain ⟨hf19, h⟩ := h
      obtain ⟨hf20, h⟩ := h
      refine o_indexA rfl rfl rfl z_arr136 rfl rfl hf19 hf20 ?_
      refine o_storeB (j := 0) (q := s16.1.toNat) (f := Value.bool) (zz := false) (a := (s16.2.getD ((IntKind.i64.wrap (s16.1 + 1)).toNat) false)) (l := 32) (xs := s16.2) rfl rfl rfl z_size4 rfl rfl rfl rfl rfl (by omega) (by omega) ?_
      refine st_gs [[(b1, .cells (cellsN Value.bool false 32 (putN 32 false s16.2 s16.1.toNat (s16.2.getD ((IntKind.i64.wrap (s16.1 + 1)).toNat) false))).toArray 136 (0, 0))], [(b2, .cells (cellsN Value.bool false 32 (List.replicate 32 false)).toArray 136 (0, 0))], [(b7, .cells (cellsN Value.bool false 32 r3).toArray 136 (0, 0))]] rfl ?_
      refine st_end ?_
      refine st_inBlock ?_
      refine st_region ?_
      refine o_move rfl rfl rfl rfl ?_
      refine o_ibin (v := .int .i64 (IntKind.i64.wrap (s16.1 + 1))) rfl rfl rfl rfl rfl rfl ?_
      refine o_assign rfl rfl rfl rfl ?_
      refine st_end ?_
      refine st_env (ρ' := [(1, .pointer (some ⟨b1, 0, none⟩)), (2, .pointer (some ⟨b2, 0, none⟩)), (3, .pointer (some ⟨b7, 0, none⟩)), (4, .int .i64 s9.1), (5, .bool (s9.2.getD 0 false)), (6, .int .i64 (IntKind.i64.wrap (s16.1 + 1)))]) ⟨rfl, rfl, rfl, rfl, rfl, rfl, trivial⟩ ?_
      exact hn16 _ _ _ _ h ⟨hl16, rfl, rfl⟩
    · replace h := (if_neg (ne_t hc)).mp h
      refine st_exit rfl ?_
      obtain rfl := he16 _ h
      replace h := hA16
      refine st_env (ρ' := [(1, .pointer (some ⟨b1, 0, none⟩)), (2, .pointer (some ⟨b2, 0, none⟩)), (3, .pointer (some ⟨b7, 0, none⟩)), (4, .int .i64 s9.1), (5, .bool (s9.2.getD 0 false))]) ⟨rfl, rfl, rfl, rfl, rfl, trivial⟩ ?_
      exact hk11 _ _ _ ⟨s16.2, h, hl16, rfl, rfl⟩
  · replace h := (if_neg (ne_t hc)).mp h
    refine st_exit rfl ?_
    obtain rfl := he9 _ h
    replace h := hA9
    refine st_env (ρ' := [(1, .pointer (some ⟨b1, 0, none⟩)), (2, .pointer (some ⟨b2, 0, none⟩))]) ⟨rfl, rfl, trivial⟩ ?_
    refine st_ord [0, 0] [[(b1, .cells (cellsN Value.bool false 32 s9.2).toArray 136 (0, 0))], [(b2, .cells (cellsN Value.bool false 32 (List.replicate 32 false)).toArray 136 (0, 0))]] rfl ?_
    exact hk8 _ _ _ ⟨s9.2, h, hl9, rfl, rfl⟩
theorem ref04_Word_ok {a0 : List Bool} {r : Int} (h : ref04_Word a0 r) (σ : Sto)  :
    Does Tryd.prog 87 [.agg (cellsN Value.bool false 32 a0).toArray] σ [] (fun v τ gs => gs = [] ∧ .int .u32 r = v) := by
  refine call_of Tryd.func87 Tryd.ntmps87 rfl rfl (fun cs fs => ?_)
  refine st_seq ?_
  refine st_region ?_
  refine o_box (cs := (cellsN Value.bool false 32 a0)) rfl rfl rfl rfl rfl (fun b1 => ?_)
  refine o_assign rfl rfl rfl rfl ?_
  refine st_end ?_
  refine st_seq ?_
  refine st_region ?_
  refine o_assign rfl rfl rfl rfl ?_
  refine st_end ?_
  refine st_seq ?_
  refine st_cut (fun ρ τ2 gs => ∃ (s2 : Int), ref04_Word_j1 s2 r ∧ σ.Le τ2 ∧ ρ = [(2, .int .u32 0), (3, .int .u32 s2)] ∧ gs = []) ?_ (fun hk2 => ?_)
  · rintro ρ2 τ2 gs2 ⟨s2, h, hl2, rfl, rfl⟩
    refine st_seq ?_
    refine st_region ?_
    refine o_move rfl rfl rfl rfl ?_
    refine o_assign rfl rfl rfl rfl ?_
    refine st_end ?_
    obtain rfl := Eq.symm h
    exact st_ret (gs' := []) Tryd.func87 rfl (List.Sublist.refl _) hl2 ⟨rfl, rfl⟩
  refine st_seq ?_
  refine st_region ?_
  refine o_assign rfl rfl rfl rfl ?_
  refine st_end ?_
  obtain ⟨e3, hL3, hA3⟩ := h
  refine st_env (ρ' := [(1, .pointer (some ⟨b1, 0, none⟩)), (2, .int .u32 0), (3, .int .u32 0), (4, .int .i64 31)]) ⟨rfl, rfl, rfl, rfl, trivial⟩ ?_
  refine st_loop hL3 (fun (s3 : Int × Int) ρ τ3 gs => σ.Le τ3 ∧ ρ = [(1, .pointer (some ⟨b1, 0, none⟩)), (2, .int .u32 0), (3, .int .u32 s3.1), (4, .int .i64 s3.2)] ∧ gs = [[(b1, .cells (cellsN Value.bool false 32 a0).toArray 136 (0, 0))]]) ⟨Sto.Le.refl _, rfl, rfl⟩ ?_
  rintro s3 o3 h he3 ρ3 τ3 gs3 ⟨hl3, rfl, rfl⟩ hn3
  refine st_seq ?_
  refine st_seq ?_
  refine st_region ?_
  refine o_move rfl rfl rfl rfl ?_
  refine o_ibin (v := .bool (decide (0 ≤ s3.2))) rfl rfl rfl rfl rfl rfl ?_
  refine st_end ?_
  refine st_cond rfl (fun hc => ?_) (fun hc => ?_)
  · replace h := (if_pos hc).mp h
    refine st_skip ?_
    refine st_seq ?_
    refine st_cut (fun ρ τ4 gs => ∃ (s4 : Int), ref04_Word_j3 s3 s4 o3 ∧ τ3.Le τ4 ∧ ρ = [(1, .pointer (some ⟨b1, 0, none⟩)), (2, .int .u32 0), (3, .int .u32 s4), (4, .int .i64 s3.2)] ∧ gs = [[(b1, .cells (cellsN Value.bool false 32 a0).toArray 136 (0, 0))]]) ?_ (fun hk4 => ?_)
    · rintro ρ4 τ4 gs4 ⟨s4, h, hl4, rfl, rfl⟩
      refine st_region ?_
      refine o_move rfl rfl rfl rfl ?_
      refine o_ibin (v := .int .i64 (IntKind.i64.wrap (s3.2 - 1))) rfl rfl rfl rfl rfl rfl ?_
      refine o_assign rfl rfl rfl rfl ?_
      refine st_end ?_
      refine st_env (ρ' := [(1, .pointer (some ⟨b1, 0, none⟩)), (2, .int .u32 0), (3, .int .u32 s4), (4, .int .i64 (IntKind.i64.wrap (s3.2 - 1)))]) ⟨rfl, rfl, rfl, rfl, trivial⟩ ?_
      exact hn3 _ _ _ _ h ⟨(hl3.trans hl4), rfl, rfl⟩
    refine st_block ?_
    refine st_seq ?_
    refine st_region ?_
    refine o_move rfl rfl rfl rfl ?_
    refine o_ibin (v := .int .u32 (IntKind.u32.wrap (2 * s3.1))) rfl rfl rfl rfl rfl rfl ?_
    refine o_assign rfl rfl rfl rfl ?_
    refine st_end ?_
    refine st_seq ?_
    refine st_region ?_
    refine o_move rfl rfl rfl rfl ?_
    obtain ⟨hf5, h⟩ := h
    obtain ⟨hf6, h⟩ := h
    refine o_indexA rfl rfl rfl z_arr136 rfl rfl hf5 hf6 ?_
    refine o_loadB (j := 0) (q := s3.2.toNat) (f := Value.bool) (zz := false) (l := 32) (xs := a0) rfl rfl rfl z_sc4 rfl rfl (by omega) (by omega) ?_
    refine st_end ?_
    refine st_cond rfl (fun hc => ?_) (fun hc => ?_)
    · replace h := (if_pos hc).mp h
      refine st_region ?_
      refine o_move rfl rfl rfl rfl ?_
      refine o_ibin (v := .int .u32 (IntKind.u32.wrap ((IntKind.u32.wrap (2 * s3.1)) + 1))) rfl rfl rfl rfl rfl rfl ?_
      refine o_assign rfl rfl rfl rfl ?_
      refine st_end ?_
      refine st_inBlock ?_
      refine st_env (ρ' := [(1, .pointer (some ⟨b1, 0, none⟩)), (2, .int .u32 0), (3, .int .u32 (IntKind.u32.wrap ((IntKind.u32.wrap (2 * s3.1)) + 1))), (4, .int .i64 s3.2)]) ⟨rfl, rfl, rfl, rfl, trivial⟩ ?_
      exact hk4 _ _ _ ⟨(IntKind.u32.wrap ((IntKind.u32.wrap (2 * s3.1)) + 1)), h, (Sto.Le.refl _), rfl, rfl⟩
    · replace h := (if_neg (ne_t hc)).mp h
      refine st_skip ?_
      refine st_inBlock ?_
      refine st_env (ρ' := [(1, .pointer (some ⟨b1, 0, none⟩)), (2, .int .u32 0), (3, .int .u32 (IntKind.u32.wrap (2 * s3.1))), (4, .int .i64 s3.2)]) ⟨rfl, rfl, rfl, rfl, trivial⟩ ?_
      exact hk4 _ _ _ ⟨(IntKind.u32.wrap (2 * s3.1)), h, (Sto.Le.refl _), rfl, rfl⟩
  · replace h := (if_neg (ne_t hc)).mp h
    refine st_exit rfl ?_
    obtain rfl := he3 _ h
    replace h := hA3
    refine st_env (ρ' := [(2, .int .u32 0), (3, .int .u32 s3.1)]) ⟨rfl, rfl, trivial⟩ ?_
    refine st_ord [] [] rfl ?_
    exact hk2 _ _ _ ⟨s3.1, h, hl3, rfl, rfl⟩
theorem ref04_Sum_ok {a0 : List Int} {v1 : Value} {r : Int} (h : ref04_Sum a0 r) (σ : Sto) (hs2 : Sl (kI .u8) σ v1 a0) :
    Does Tryd.prog 62 [v1] σ [] (fun v τ gs => gs = [] ∧ .int .u32 r = v) := by
  refine call_of Tryd.func62 Tryd.ntmps62 rfl rfl (fun cs fs => ?_)
  refine st_seq ?_
  refine st_region ?_
  refine o_assign rfl rfl rfl rfl ?_
  refine st_end ?_
  refine st_seq ?_
  refine st_region ?_
  obtain ⟨r3, hr4, h⟩ := h
  refine st_call (foot := []) rfl rfl rfl rfl rfl rfl (callV_fn z_en84 (ref04_Of_ok hr4 σ)) ?_
  rintro vτ5 τ5 gsτ5 hl6 ⟨rfl, rfl⟩
  refine o_alloc rfl rfl rfl z_zero136 (fun b7 => ?_)
  refine o_store (j := 0) (vs := (cellsN Value.bool false 32 r3)) (cs' := (cellsN Value.bool false 32 r3)) rfl rfl rfl z_size136 rfl rfl rfl ones_cellsNB rfl rfl rfl ?_
  refine st_gs [[(b7, .cells (cellsN Value.bool false 32 r3).toArray 136 (0, 0))]] rfl ?_
  refine st_end ?_
  refine st_seq ?_
  refine st_cut (fun ρ τ8 gs => ∃ (s8 : List Bool), ref04_Sum_j1 s8 r ∧ τ5.Le τ8 ∧ ρ = [(2, .int .u32 0), (3, .pointer (some ⟨b7, 0, none⟩))] ∧ gs = [[(b7, .cells (cellsN Value.bool false 32 s8).toArray 136 (0, 0))]]) ?_ (fun hk8 => ?_)
  · rintro ρ8 τ8 gs8 ⟨s8, h, hl8, rfl, rfl⟩
    refine st_seq ?_
    refine st_region ?_
    refine o_loadN (j := 0) (vs := (cellsN Value.bool false 32 s8)) rfl rfl rfl z_agg136 rfl rfl rfl ?_
    obtain ⟨r9, hr10, h⟩ := h
    refine st_call (foot := []) rfl rfl rfl rfl rfl rfl (callV_fn z_en87 (ref04_Word_ok hr10 τ8)) ?_
    rintro vτ11 τ11 gsτ11 hl12 ⟨rfl, rfl⟩
    refine o_ibin (v := .int .u32 (IntKind.u32.wrap (4294967295 - r9))) rfl rfl rfl rfl rfl rfl ?_
    refine o_assign rfl rfl rfl rfl ?_
    refine st_end ?_
    refine st_ord [] [] rfl ?_
    obtain rfl := Eq.symm h
    exact st_ret (gs' := []) Tryd.func62 rfl (List.Sublist.refl _) ((hl6.trans hl8).trans hl12) ⟨rfl, rfl⟩
  refine st_seq ?_
  refine st_region ?_
  refine o_assign rfl rfl rfl rfl ?_
  refine st_end ?_
  obtain ⟨e13, hL13, hA13⟩ := h
  refine st_env (ρ' := [(0, v1), (2, .int .u32 0), (3, .pointer (some ⟨b7, 0, none⟩)), (4, .int .i64 0)]) ⟨rfl, rfl, rfl, rfl, trivial⟩ ?_
  refine st_loop hL13 (fun (s13 : Int × List Bool) ρ τ13 gs => τ5.Le τ13 ∧ ρ = [(0, v1), (2, .int .u32 0), (3, .pointer (some ⟨b7, 0, none⟩)), (4, .int .i64 s13.1)] ∧ gs = [[(b7, .cells (cellsN Value.bool false 32 s13.2).toArray 136 (0, 0))]]) ⟨Sto.Le.refl _, rfl, rfl⟩ ?_
  rintro s13 o13 h he13 ρ13 τ13 gs13 ⟨hl13, rfl, rfl⟩ hn13
  refine st_seq ?_
  refine st_seq ?_
  refine st_region ?_
  refine o_move rfl rfl rfl rfl ?_
  refine o_move rfl rfl rfl rfl ?_
  refine o_lenI rfl rfl rfl z_slT31 rfl (hs2.up (hl6.trans hl13)) ?_
  refine o_ibin (v := .bool (decide (s13.1 < (a0.length : Int)))) rfl rfl rfl rfl rfl rfl ?_
  refine st_end ?_
  refine st_cond rfl (fun hc => ?_) (fun hc => ?_)
  · replace h := (if_pos hc).mp h
    refine st_skip ?_
    refine st_seq ?_
    refine st_block ?_
    obtain ⟨q14, hf15, h⟩ := h
    obtain ⟨r19, hr20, h⟩ := h
    obtain ⟨r23, hr24, h⟩ := h
    obtain ⟨r27, hr28, h⟩ := h
    refine st_draw 9 (tl [fun τ v => (.agg (cellsN Value.bool false 32 s13.2).toArray : Value) = v,
    fun τ v => (v1 : Value) = v,
    fun τ v => (.int .i64 s13.1 : Value) = v,
    fun τ v => ∃ (b16 : Nat) (of17 : Nat) (vsb16 : List Value), (.pointer (some ⟨b16, of17, none⟩) : Value) = v ∧ CelN τ ⟨b16, of17, none⟩ vsb16 ∧ (kI .u8).rep τ vsb16 q14,
    fun τ v => (.int .u8 q14 : Value) = v,
    fun τ v => (.int .u32 (IntKind.u32.wrap q14) : Value) = v,
    fun τ v => (.agg (cellsN Value.bool false 32 r19).toArray : Value) = v,
    fun τ v => (.agg (cellsN Value.bool false 32 r23).toArray : Value) = v,
    fun τ v => (.agg (cellsN Value.bool false 32 r27).toArray : Value) = v]) (fun _ _ => []) z_mix rfl (tl_mono ⟨fun _ _ _ _ h => h, ⟨fun _ _ _ _ h => h, ⟨fun _ _ _ _ h => h, ⟨fun _ _ _ hl ⟨b16, of17, vsb16, hv, hc18, hrepb16⟩ => ⟨b16, of17, vsb16, hv, hc18.up hl, Kd.mono _ hl hrepb16⟩, ⟨fun _ _ _ _ h => h, ⟨fun _ _ _ _ h => h, ⟨fun _ _ _ _ h => h, ⟨fun _ _ _ _ h => h, ⟨fun _ _ _ _ h => h, trivial⟩⟩⟩⟩⟩⟩⟩⟩⟩) (allB_cons (allB_cons (allB_cons (allB_cons (allB_cons (allB_cons (allB_cons (allB_cons (allB_cons allB_nil ?_) ?_) ?_) ?_) ?_) ?_) ?_) ?_) ?_) ?_
    · intro ρ' τ pool rs hl hd hout hk
      refine o_loadN (j := 0) (vs := (cellsN Value.bool false 32 s13.2)) rfl rfl rfl z_agg136 ((hout 3 rfl).trans rfl) rfl rfl ?_
      exact st_addNil (hk _ _ (Sto.Le.refl _) rfl)
    · intro ρ' τ pool rs hl hd hout hk
      refine o_move rfl rfl rfl ((hout 0 rfl).trans rfl) ?_
      exact st_addNil (hk _ _ (Sto.Le.refl _) rfl)
    · intro ρ' τ pool rs hl hd hout hk
      refine o_move rfl rfl rfl ((hout 4 rfl).trans rfl) ?_
      exact st_addNil (hk _ _ (Sto.Le.refl _) rfl)
    · intro ρ' τ pool rs hl hd hout hk
      obtain ⟨_, e1, rfl⟩ := hd 1 rfl
      obtain ⟨_, e2, rfl⟩ := hd 2 rfl
      refine o_index rfl rfl rfl z_slT31 rfl e1 (hs2.up ((hl6.trans hl13).trans hl)) e2 hf15 (fun b16 of17 vsb16 hc18 hrepb16 => ?_)
      exact st_addNil (hk _ _ (Sto.Le.refl _) ⟨b16, of17, vsb16, rfl, hc18, hrepb16⟩)
    · intro ρ' τ pool rs hl hd hout hk
      obtain ⟨_, e3, b16, of17, vsb16, rfl, hc18, hrepb16⟩ := hd 3 rfl
      have hrepb16 := hrepb16
      obtain rfl := hrepb16
      refine o_loadI (v := .int .u8 q14) rfl rfl rfl z_sc5 e3 (hc18 0 _ rfl) ?_
      exact st_addNil (hk _ _ (Sto.Le.refl _) rfl)
    · intro ρ' τ pool rs hl hd hout hk
      obtain ⟨_, e4, rfl⟩ := hd 4 rfl
      refine o_conv rfl rfl rfl Tryd.underlying5 Tryd.underlying22 e4 ?_
      exact st_addNil (hk _ _ (Sto.Le.refl _) rfl)
    · intro ρ' τ pool rs hl hd hout hk
      obtain ⟨_, e5, rfl⟩ := hd 5 rfl
      refine st_call (foot := []) rfl rfl rfl rfl (evs_cons e5 rfl) rfl (callV_fn z_en84 (ref04_Of_ok hr20 τ)) ?_
      rintro vτ21 τ21 gsτ21 hl22 ⟨rfl, rfl⟩
      exact st_addNil (hk _ _ hl22 rfl)
    · intro ρ' τ pool rs hl hd hout hk
      obtain ⟨_, e0, rfl⟩ := hd 0 rfl
      obtain ⟨_, e6, rfl⟩ := hd 6 rfl
      refine st_call (foot := []) rfl rfl rfl rfl (evs_cons e0 (evs_cons e6 rfl)) rfl (callV_fn z_en86 (ref04_Xor_ok hr24 τ)) ?_
      rintro vτ25 τ25 gsτ25 hl26 ⟨rfl, rfl⟩
      exact st_addNil (hk _ _ hl26 rfl)
    · intro ρ' τ pool rs hl hd hout hk
      obtain ⟨_, e7, rfl⟩ := hd 7 rfl
      refine st_call (foot := []) rfl rfl rfl rfl (evs_cons e7 rfl) rfl (callV_fn z_en85 (ref04_Shift_ok hr28 τ)) ?_
      rintro vτ29 τ29 gsτ29 hl30 ⟨rfl, rfl⟩
      exact st_addNil (hk _ _ hl30 rfl)
    intro ρ' τ31 vals hl31 hv hout
    have l8 : Eng.look ρ' 20 = some (.agg (cellsN Value.bool false 32 r27).toArray) := (hv 8 (by decide)).1.trans (congrArg some (show vals 8 = .agg (cellsN Value.bool false 32 r27).toArray from Eq.symm (hv 8 (by decide)).2))
    refine st_ord [0] [[(b7, .cells (cellsN Value.bool false 32 s13.2).toArray 136 (0, 0))]] rfl ?_
    refine st_env (ρ' := [(20, .agg (cellsN Value.bool false 32 r27).toArray), (0, v1), (2, .int .u32 0), (3, .pointer (some ⟨b7, 0, none⟩)), (4, .int .i64 s13.1)]) ⟨l8, (hout 0 rfl).trans rfl, (hout 2 rfl).trans rfl, (hout 3 rfl).trans rfl, (hout 4 rfl).trans rfl, trivial⟩ ?_
    refine o_store (j := 0) (vs := (cellsN Value.bool false 32 r27)) (cs' := (cellsN Value.bool false 32 r27)) rfl rfl rfl z_size136 rfl rfl rfl ones_cellsNB rfl rfl rfl ?_
    refine st_gs [[(b7, .cells (cellsN Value.bool false 32 r27).toArray 136 (0, 0))]] rfl ?_
    refine st_end ?_
    refine st_inBlock ?_
    refine st_region ?_
    refine o_move rfl rfl rfl rfl ?_
    refine o_ibin (v := .int .i64 (IntKind.i64.wrap (s13.1 + 1))) rfl rfl rfl rfl rfl rfl ?_
    refine o_assign rfl rfl rfl rfl ?_
    refine st_end ?_
    refine st_env (ρ' := [(0, v1), (2, .int .u32 0), (3, .pointer (some ⟨b7, 0, none⟩)), (4, .int .i64 (IntKind.i64.wrap (s13.1 + 1)))]) ⟨rfl, rfl, rfl, rfl, trivial⟩ ?_
    exact hn13 _ _ _ _ h ⟨(hl13.trans hl31), rfl, rfl⟩
  · replace h := (if_neg (ne_t hc)).mp h
    refine st_exit rfl ?_
    obtain rfl := he13 _ h
    replace h := hA13
    refine st_env (ρ' := [(2, .int .u32 0), (3, .pointer (some ⟨b7, 0, none⟩))]) ⟨rfl, rfl, trivial⟩ ?_
    exact hk8 _ _ _ ⟨s13.2, h, hl13, rfl, rfl⟩
theorem ref04_Bytes_ok {a0 : Int} {r : List Int} (h : ref04_Bytes a0 r) (σ : Sto)  :
    Does Tryd.prog 61 [.int .u32 a0] σ [] (fun v τ gs => ∃ (v9 : Value), gs = [] ∧ v9 = v ∧ Sl (kI .u8) τ v9 r) := by
  refine call_of Tryd.func61 Tryd.ntmps61 rfl rfl (fun cs fs => ?_)
  refine st_seq ?_
  refine st_region ?_
  refine o_assign rfl rfl rfl rfl ?_
  refine st_end ?_
  refine st_seq ?_
  refine st_region ?_
  refine o_move rfl rfl rfl rfl ?_
  refine o_rem rfl rfl rfl rfl rfl (by decide) ?_
  refine o_conv rfl rfl rfl Tryd.underlying22 Tryd.underlying5 rfl ?_
  refine o_move rfl rfl rfl rfl ?_
  refine o_quo rfl rfl rfl rfl rfl (by decide) ?_
  refine o_rem rfl rfl rfl rfl rfl (by decide) ?_
  refine o_conv rfl rfl rfl Tryd.underlying22 Tryd.underlying5 rfl ?_
  refine o_move rfl rfl rfl rfl ?_
  refine o_quo rfl rfl rfl rfl rfl (by decide) ?_
  refine o_rem rfl rfl rfl rfl rfl (by decide) ?_
  refine o_conv rfl rfl rfl Tryd.underlying22 Tryd.underlying5 rfl ?_
  refine o_move rfl rfl rfl rfl ?_
  refine o_quo rfl rfl rfl rfl rfl (by decide) ?_
  refine o_conv rfl rfl rfl Tryd.underlying22 Tryd.underlying5 rfl ?_
  refine o_lit (dk := (kI .u8)) (xs := [(IntKind.u8.wrap (a0.tmod 256)), (IntKind.u8.wrap ((IntKind.u32.wrap (a0.tdiv 256)).tmod 256)), (IntKind.u8.wrap ((IntKind.u32.wrap (a0.tdiv 65536)).tmod 256)), (IntKind.u8.wrap (IntKind.u32.wrap (a0.tdiv 16777216)))]) (ps := [(0, [.int .u8 (IntKind.u8.wrap (a0.tmod 256))]), (1, [.int .u8 (IntKind.u8.wrap ((IntKind.u32.wrap (a0.tdiv 256)).tmod 256))]), (2, [.int .u8 (IntKind.u8.wrap ((IntKind.u32.wrap (a0.tdiv 65536)).tmod 256))]), (3, [.int .u8 (IntKind.u8.wrap (IntKind.u32.wrap (a0.tdiv 16777216)))])]) (cs := [.int .u8 (IntKind.u8.wrap (a0.tmod 256)), .int .u8 (IntKind.u8.wrap ((IntKind.u32.wrap (a0.tdiv 256)).tmod 256)), .int .u8 (IntKind.u8.wrap ((IntKind.u32.wrap (a0.tdiv 65536)).tmod 256)), .int .u8 (IntKind.u8.wrap (IntKind.u32.wrap (a0.tdiv 16777216)))]) rfl rfl rfl z_slT31 z_zero5 ⟨rfl, ⟨_, rfl, rfl⟩, ⟨rfl, ⟨_, rfl, rfl⟩, ⟨rfl, ⟨_, rfl, rfl⟩, ⟨rfl, ⟨_, rfl, rfl⟩, trivial⟩⟩⟩⟩ rfl rfl rfl rfl (Kd.Many.cons (a := [.int .u8 (IntKind.u8.wrap (a0.tmod 256))]) rfl (Kd.Many.cons (a := [.int .u8 (IntKind.u8.wrap ((IntKind.u32.wrap (a0.tdiv 256)).tmod 256))]) rfl (Kd.Many.cons (a := [.int .u8 (IntKind.u8.wrap ((IntKind.u32.wrap (a0.tdiv 65536)).tmod 256))]) rfl (Kd.Many.cons (a := [.int .u8 (IntKind.u8.wrap (IntKind.u32.wrap (a0.tdiv 16777216)))]) rfl Kd.Many.nil)))) (fun v1 g2 ho3 => ?_)
  refine o_assign rfl rfl rfl rfl ?_
  refine st_end ?_
  refine st_freeze (fun τ4 hl5 hg6 => ?_)
  have hs7 := ho3.freeze hl5 hg6
  obtain rfl := Eq.symm h
  exact st_ret (gs' := []) Tryd.func61 rfl (List.Sublist.refl _) hl5 ⟨_, rfl, rfl, hs7⟩
theorem ref32_Bytes_ok {a0 : Int × Int} {r : List Int} (h : ref32_Bytes a0 r) (σ : Sto)  :
    Does Tryd.prog 30 [.agg [.int .u32 a0.1, .int .u64 a0.2].toArray] σ [] (fun v τ gs => ∃ (v73 : Value), gs = [] ∧ v73 = v ∧ Sl (kI .u8) τ v73 r) := by
  refine call_of Tryd.func30 Tryd.ntmps30 rfl rfl (fun cs fs => ?_)
  refine st_seq ?_
  refine st_region ?_
  refine o_box (cs := [.int .u32 a0.1, .int .u64 a0.2]) rfl rfl rfl rfl rfl (fun b1 => ?_)
  refine o_assign rfl rfl rfl rfl ?_
  refine st_end ?_
  refine st_seq ?_
  refine st_region ?_
  refine o_fieldAddr rfl rfl rfl z_field55_0 rfl ?_
  refine o_load (j := 0) (v := .int .u32 a0.1) rfl rfl rfl z_sc22 rfl rfl rfl ?_
  obtain ⟨r2, hr3, h⟩ := h
  refine st_call (foot := []) rfl rfl rfl rfl rfl rfl (callV_fn z_en46 (ref02_Word_own_ok hr3 σ)) ?_
  rintro vτ4 τ4 gsτ4 hl5 ⟨v6, g7, rfl, rfl, ho8⟩
  refine o_assign rfl rfl rfl rfl ?_
  refine st_end ?_
  refine st_seq ?_
  obtain ⟨r9, hr10, h⟩ := h
  obtain ⟨hf18, h⟩ := h
  obtain ⟨hf19, h⟩ := h
  obtain ⟨r23, hr24, h⟩ := h
  obtain ⟨hf32, h⟩ := h
  obtain ⟨hf33, h⟩ := h
  refine st_ord [1, 0] [[(b1, .cells [.int .u32 a0.1, .int .u64 a0.2].toArray 55 (0, 0))], g7] rfl ?_
  refine st_draw2 (gs := [[(b1, .cells [.int .u32 a0.1, .int .u64 a0.2].toArray 55 (0, 0))]]) (F0 := [g7]) 13 2 (tlS [none, none, none, none, none, none, some 0, none, none, none, none, none, some 1]) (tlN [0, 13, 19]) (tl [fun τ v => (v6 : Value) = v,
    fun τ v => (.pointer (some ⟨b1, 1, none⟩) : Value) = v,
    fun τ v => (.int .u64 a0.2 : Value) = v,
    fun τ v => (.int .u64 (a0.2.tmod 4294967296) : Value) = v,
    fun τ v => (.int .u32 (IntKind.u32.wrap (a0.2.tmod 4294967296)) : Value) = v,
    fun τ v => ∃ (v13 : Value), (v13 : Value) = v ∧ Sl (kI .u8) τ v13 r9,
    fun _ _ => True,
    fun τ v => (.pointer (some ⟨b1, 1, none⟩) : Value) = v,
    fun τ v => (.int .u64 a0.2 : Value) = v,
    fun τ v => (.int .u64 (IntKind.u64.wrap (a0.2.tdiv 4294967296)) : Value) = v,
    fun τ v => (.int .u32 (IntKind.u32.wrap (IntKind.u64.wrap (a0.2.tdiv 4294967296))) : Value) = v,
    fun τ v => ∃ (v27 : Value), (v27 : Value) = v ∧ Sl (kI .u8) τ v27 r23,
    fun _ _ => True]) (tlI [fun τ u F => F = [g7],
    fun τ u F => ∃ (v20 : Value) (g21 : Grp), F = [g21] ∧ v20 = u ∧ Ow (kI .u8) 5 τ v20 (r2 ++ r9) g21,
    fun τ u F => ∃ (v34 : Value) (g35 : Grp), F = [g35] ∧ v34 = u ∧ Ow (kI .u8) 5 τ v34 ((r2 ++ r9) ++ r23) g35]) z_mix rfl (tl_mono ⟨fun _ _ _ _ h => h, ⟨fun _ _ _ _ h => h, ⟨fun _ _ _ _ h => h, ⟨fun _ _ _ _ h => h, ⟨fun _ _ _ _ h => h, ⟨fun _ _ _ hl ⟨v13, hv, hs14⟩ => ⟨v13, hv, hs14.up hl⟩, ⟨fun _ _ _ _ _ => trivial, ⟨fun _ _ _ _ h => h, ⟨fun _ _ _ _ h => h, ⟨fun _ _ _ _ h => h, ⟨fun _ _ _ _ h => h, ⟨fun _ _ _ hl ⟨v27, hv, hs28⟩ => ⟨v27, hv, hs28.up hl⟩, ⟨fun _ _ _ _ _ => trivial, trivial⟩⟩⟩⟩⟩⟩⟩⟩⟩⟩⟩⟩⟩) (tlI_mono ⟨fun _ _ _ _ hl h => h, ⟨fun _ _ _ _ hl h => (let ⟨v20, g21, hF, hU, ho22⟩ := h; ⟨v20, g21, hF, hU, ho22.up hl⟩), ⟨fun _ _ _ _ hl h => (let ⟨v34, g35, hF, hU, ho36⟩ := h; ⟨v34, g35, hF, hU, ho36.up hl⟩), trivial⟩⟩⟩) rfl (rowSd rfl) rfl (allB_cons (allB_cons (allB_cons (allB_cons (allB_cons (allB_cons (allB_cons (allB_cons (allB_cons (allB_cons (allB_cons (allB_cons (allB_cons allB_nil ?_) ?_) ?_) ?_) ?_) ?_) ?_) ?_) ?_) ?_) ?_) ?_) ?_) ?_
  · intro ρ' τ Fv rs hl hd hout hk
    refine st_flat (gs := [[(b1, .cells [.int .u32 a0.1, .int .u64 a0.2].toArray 55 (0, 0))]]) (fun pool hp => ?_)
    refine o_move rfl rfl rfl ((hout 3 rfl).trans rfl) ?_
    exact st_unflat (gs := [[(b1, .cells [.int .u32 a0.1, .int .u64 a0.2].toArray 55 (0, 0))]]) hp (hk _ _ (Sto.Le.refl _) rfl)
  · intro ρ' τ Fv rs hl hd hout hk
    refine st_flat (gs := [[(b1, .cells [.int .u32 a0.1, .int .u64 a0.2].toArray 55 (0, 0))]]) (fun pool hp => ?_)
    refine o_fieldAddr rfl rfl rfl z_field55_1 ((hout 1 rfl).trans rfl) ?_
    exact st_unflat (gs := [[(b1, .cells [.int .u32 a0.1, .int .u64 a0.2].toArray 55 (0, 0))]]) hp (hk _ _ (Sto.Le.refl _) rfl)
  · intro ρ' τ Fv rs hl hd hout hk
    obtain ⟨_, e1, rfl⟩ := hd 1 rfl
    refine st_flat (gs := [[(b1, .cells [.int .u32 a0.1, .int .u64 a0.2].toArray 55 (0, 0))]]) (fun pool hp => ?_)
    refine o_load (j := 0) (v := .int .u64 a0.2) rfl rfl rfl z_sc48 e1 rfl rfl ?_
    exact st_unflat (gs := [[(b1, .cells [.int .u32 a0.1, .int .u64 a0.2].toArray 55 (0, 0))]]) hp (hk _ _ (Sto.Le.refl _) rfl)
  · intro ρ' τ Fv rs hl hd hout hk
    obtain ⟨_, e2, rfl⟩ := hd 2 rfl
    refine st_flat (gs := [[(b1, .cells [.int .u32 a0.1, .int .u64 a0.2].toArray 55 (0, 0))]]) (fun pool hp => ?_)
    refine o_rem rfl rfl rfl e2 rfl (by decide) ?_
    exact st_unflat (gs := [[(b1, .cells [.int .u32 a0.1, .int .u64 a0.2].toArray 55 (0, 0))]]) hp (hk _ _ (Sto.Le.refl _) rfl)
  · intro ρ' τ Fv rs hl hd hout hk
    obtain ⟨_, e3, rfl⟩ := hd 3 rfl
    refine st_flat (gs := [[(b1, .cells [.int .u32 a0.1, .int .u64 a0.2].toArray 55 (0, 0))]]) (fun pool hp => ?_)
    refine o_conv rfl rfl rfl Tryd.underlying48 Tryd.underlying22 e3 ?_
    exact st_unflat (gs := [[(b1, .cells [.int .u32 a0.1, .int .u64 a0.2].toArray 55 (0, 0))]]) hp (hk _ _ (Sto.Le.refl _) rfl)
  · intro ρ' τ Fv rs hl hd hout hk
    obtain ⟨_, e4, rfl⟩ := hd 4 rfl
    refine st_flat (gs := [[(b1, .cells [.int .u32 a0.1, .int .u64 a0.2].toArray 55 (0, 0))]]) (fun pool hp => ?_)
    refine st_call (foot := []) rfl rfl rfl rfl (evs_cons e4 (evs_cons rfl rfl)) rfl (callV_fn z_en46 (ref02_Word_ok hr10 τ)) ?_
    rintro vτ11 τ11 gsτ11 hl12 ⟨v13, rfl, rfl, hs14⟩
    exact st_unflat (gs := [[(b1, .cells [.int .u32 a0.1, .int .u64 a0.2].toArray 55 (0, 0))]]) hp (hk _ _ hl12 ⟨v13, rfl, hs14⟩)
  · intro ρ' τ u Fv rs hl hI hu hd hout hk
    obtain ⟨_, e0, rfl⟩ := hd 0 rfl
    obtain ⟨_, e5, v13, rfl, hs14⟩ := hd 5 rfl
    have hI0 := hI
    obtain rfl := hI
    refine st_gs [[(b1, .cells [.int .u32 a0.1, .int .u64 a0.2].toArray 55 (0, 0))], g7] rfl ?_
    refine st_ord [1, 0] [g7, [(b1, .cells [.int .u32 a0.1, .int .u64 a0.2].toArray 55 (0, 0))]] rfl ?_
    refine o_append (dk := (kI .u8)) (xs := r2) (ys := r9) rfl rfl rfl rfl z_slT31 e0 (ho8.up hl) e5 (Sl.src hs14) hf18 hf19 (fun v15 g16 ho17 => ?_)
    refine st_ord [1, 0] [[(b1, .cells [.int .u32 a0.1, .int .u64 a0.2].toArray 55 (0, 0))], g16] rfl ?_
    exact hk _ _ [g16] (Sto.Le.refl _) trivial ⟨v15, g16, rfl, rfl, ho17⟩
  · intro ρ' τ Fv rs hl hd hout hk
    refine st_flat (gs := [[(b1, .cells [.int .u32 a0.1, .int .u64 a0.2].toArray 55 (0, 0))]]) (fun pool hp => ?_)
    refine o_fieldAddr rfl rfl rfl z_field55_1 ((hout 1 rfl).trans rfl) ?_
    exact st_unflat (gs := [[(b1, .cells [.int .u32 a0.1, .int .u64 a0.2].toArray 55 (0, 0))]]) hp (hk _ _ (Sto.Le.refl _) rfl)
  · intro ρ' τ Fv rs hl hd hout hk
    obtain ⟨_, e7, rfl⟩ := hd 7 rfl
    refine st_flat (gs := [[(b1, .cells [.int .u32 a0.1, .int .u64 a0.2].toArray 55 (0, 0))]]) (fun pool hp => ?_)
    refine o_load (j := 0) (v := .int .u64 a0.2) rfl rfl rfl z_sc48 e7 rfl rfl ?_
    exact st_unflat (gs := [[(b1, .cells [.int .u32 a0.1, .int .u64 a0.2].toArray 55 (0, 0))]]) hp (hk _ _ (Sto.Le.refl _) rfl)
  · intro ρ' τ Fv rs hl hd hout hk
    obtain ⟨_, e8, rfl⟩ := hd 8 rfl
    refine st_flat (gs := [[(b1, .cells [.int .u32 a0.1, .int .u64 a0.2].toArray 55 (0, 0))]]) (fun pool hp => ?_)
    refine o_quo rfl rfl rfl e8 rfl (by decide) ?_
    exact st_unflat (gs := [[(b1, .cells [.int .u32 a0.1, .int .u64 a0.2].toArray 55 (0, 0))]]) hp (hk _ _ (Sto.Le.refl _) rfl)
  · intro ρ' τ Fv rs hl hd hout hk
    obtain ⟨_, e9, rfl⟩ := hd 9 rfl
    refine st_flat (gs := [[(b1, .cells [.int .u32 a0.1, .int .u64 a0.2].toArray 55 (0, 0))]]) (fun pool hp => ?_)
    refine o_conv rfl rfl rfl Tryd.underlying48 Tryd.underlying22 e9 ?_
    exact st_unflat (gs := [[(b1, .cells [.int .u32 a0.1, .int .u64 a0.2].toArray 55 (0, 0))]]) hp (hk _ _ (Sto.Le.refl _) rfl)
  · intro ρ' τ Fv rs hl hd hout hk
    obtain ⟨_, e10, rfl⟩ := hd 10 rfl
    refine st_flat (gs := [[(b1, .cells [.int .u32 a0.1, .int .u64 a0.2].toArray 55 (0, 0))]]) (fun pool hp => ?_)
    refine st_call (foot := []) rfl rfl rfl rfl (evs_cons e10 (evs_cons rfl rfl)) rfl (callV_fn z_en46 (ref02_Word_ok hr24 τ)) ?_
    rintro vτ25 τ25 gsτ25 hl26 ⟨v27, rfl, rfl, hs28⟩
    exact st_unflat (gs := [[(b1, .cells [.int .u32 a0.1, .int .u64 a0.2].toArray 55 (0, 0))]]) hp (hk _ _ hl26 ⟨v27, rfl, hs28⟩)
  · intro ρ' τ u Fv rs hl hI hu hd hout hk
    obtain ⟨_, e11, v27, rfl, hs28⟩ := hd 11 rfl
    obtain ⟨v20, g21, rfl, rfl, ho22⟩ := hI
    refine st_gs [[(b1, .cells [.int .u32 a0.1, .int .u64 a0.2].toArray 55 (0, 0))], g21] rfl ?_
    refine st_ord [1, 0] [g21, [(b1, .cells [.int .u32 a0.1, .int .u64 a0.2].toArray 55 (0, 0))]] rfl ?_
    refine o_append (dk := (kI .u8)) (xs := (r2 ++ r9)) (ys := r23) rfl rfl rfl rfl z_slT31 (hu (by decide)) ho22 e11 (Sl.src hs28) hf32 hf33 (fun v29 g30 ho31 => ?_)
    refine st_ord [1, 0] [[(b1, .cells [.int .u32 a0.1, .int .u64 a0.2].toArray 55 (0, 0))], g30] rfl ?_
    exact hk _ _ [g30] (Sto.Le.refl _) trivial ⟨v29, g30, rfl, rfl, ho31⟩
  intro ρ' τ37 vals u Fv hl37 hI hu hv hout
  obtain ⟨v34, g35, rfl, rfl, ho36⟩ := hI
  refine st_gs [[(b1, .cells [.int .u32 a0.1, .int .u64 a0.2].toArray 55 (0, 0))], g35] rfl ?_
  refine st_env (ρ' := [(2, .slice none 0 0), (19, v34)]) ⟨(hout 2 rfl).trans rfl, (by exact hu), trivial⟩ ?_
  refine o_assign rfl rfl rfl rfl ?_
  refine st_end ?_
  refine st_seq ?_
  refine st_region ?_
  refine o_lit (dk := (kI .u8)) (xs := ([] : List Int)) (ps := []) (cs := []) rfl rfl rfl z_slT31 z_zero5 trivial rfl rfl rfl rfl Kd.Many.nil (fun v38 g39 ho40 => ?_)
  refine o_move rfl rfl rfl rfl ?_
  obtain ⟨hf44, h⟩ := h
  obtain ⟨hf45, h⟩ := h
  refine o_append (dk := (kI .u8)) (xs := ([] : List Int)) (ys := ((r2 ++ r9) ++ r23)) rfl rfl rfl rfl z_slT31 rfl ho40 rfl (Ow.src (j := 2) ho36 rfl) hf44 hf45 (fun v41 g42 ho43 => ?_)
  refine o_move rfl rfl rfl rfl ?_
  obtain ⟨r53, hr54, h⟩ := h
  refine st_ord [2, 0, 0] [g35, g42, [(b1, .cells [.int .u32 a0.1, .int .u64 a0.2].toArray 55 (0, 0))]] rfl ?_
  refine st_freeze (fun τ46 hl47 hg48 => ?_)
  have hs49 := ho36.freeze hl47 hg48
  refine st_call (foot := []) rfl rfl rfl rfl rfl rfl (callV_fn z_en62 (ref04_Sum_ok hr54 τ46 hs49)) ?_
  rintro vτ55 τ55 gsτ55 hl56 ⟨rfl, rfl⟩
  obtain ⟨r57, hr58, h⟩ := h
  refine st_call (foot := []) rfl rfl rfl rfl rfl rfl (callV_fn z_en61 (ref04_Bytes_ok hr58 τ55)) ?_
  rintro vτ59 τ59 gsτ59 hl60 ⟨v61, rfl, rfl, hs62⟩
  obtain ⟨hf66, h⟩ := h
  obtain ⟨hf67, h⟩ := h
  refine o_append (dk := (kI .u8)) (xs := (([] : List Int) ++ ((r2 ++ r9) ++ r23))) (ys := r57) rfl rfl rfl rfl z_slT31 rfl (ho43.up ((hl47.trans hl56).trans hl60)) rfl (Sl.src hs62) hf66 hf67 (fun v63 g64 ho65 => ?_)
  refine o_assign rfl rfl rfl rfl ?_
  refine st_end ?_
  refine st_freeze (fun τ68 hl69 hg70 => ?_)
  have hs71 := ho65.freeze hl69 hg70
  refine st_ord [] [] rfl ?_
  obtain rfl := Eq.symm h
  exact st_ret (gs' := []) Tryd.func30 rfl (List.Sublist.refl _) (((((hl5.trans hl37).trans hl47).trans hl56).trans hl60).trans hl69) ⟨_, rfl, rfl, hs71⟩
theorem ack_Line_ok {a0 : Int × Int} {r : ByteArray} (h : ack_Line a0 r) (σ : Sto) (hT : Tab Tryd.prog σ) :
    Does Tryd.prog 31 [.agg [.int .u32 a0.1, .int .u64 a0.2].toArray] σ [] (fun v τ gs => gs = [] ∧ .string r = v) := by
  refine call_of Tryd.func31 Tryd.ntmps31 rfl rfl (fun cs fs => ?_)
  refine st_seq ?_
  refine st_region ?_
  refine o_box (cs := [.int .u32 a0.1, .int .u64 a0.2]) rfl rfl rfl rfl rfl (fun b1 => ?_)
  refine o_assign rfl rfl rfl (ev_str z_str0) ?_
  refine st_end ?_
  refine st_seq ?_
  refine st_region ?_
  refine o_make (dk := (kI .u8)) (zs := [.int .u8 0]) (q := 0) rfl rfl rfl z_slT31 rfl z_zero5 rfl rfl rfl rfl (by decide) (Int.le_refl _) (by decide) (by decide) (fun v2 g3 ho4 => ?_)
  refine o_assign rfl rfl rfl rfl ?_
  refine st_end ?_
  refine st_seq ?_
  refine st_cut (fun ρ τ5 gs => ∃ (s5 : List Int) (v6 : Value) (g7 : Grp), ack_Line_j1 a0 s5 r ∧ σ.Le τ5 ∧ ρ = [(1, .pointer (some ⟨b1, 0, none⟩)), (2, .string (bstr [])), (3, v6)] ∧ gs = [[(b1, .cells [.int .u32 a0.1, .int .u64 a0.2].toArray 50 (0, 0))], g7] ∧ Ow (kI .u8) 5 τ5 v6 s5 g7) ?_ (fun hk5 => ?_)
  · rintro ρ5 τ5 gs5 ⟨s5, v6, g7, h, hl5, rfl, rfl, ho8⟩
    refine st_seq ?_
    obtain ⟨r13, hr14, h⟩ := h
    obtain ⟨hf17, h⟩ := h
    obtain ⟨hf18, h⟩ := h
    obtain ⟨hf19, h⟩ := h
    refine st_ord [1, 0] [g7, [(b1, .cells [.int .u32 a0.1, .int .u64 a0.2].toArray 50 (0, 0))]] rfl ?_
    refine st_freeze (fun τ9 hl10 hg11 => ?_)
    have hs12 := ho8.freeze hl10 hg11
    refine st_draw 9 (tl [fun τ v => (.pointer (some ⟨b1, 0, none⟩) : Value) = v,
    fun τ v => (.int .u32 a0.1 : Value) = v,
    fun τ v => (.int .i64 (IntKind.i64.wrap a0.1) : Value) = v,
    fun τ v => (.string r13 : Value) = v,
    fun τ v => (.string ((bstr [97, 99, 107, 32]) ++ r13) : Value) = v,
    fun τ v => (.string (((bstr [97, 99, 107, 32]) ++ r13) ++ (bstr [32])) : Value) = v,
    fun τ v => (v6 : Value) = v,
    fun τ v => (.string (bstr s5) : Value) = v,
    fun τ v => (.string ((((bstr [97, 99, 107, 32]) ++ r13) ++ (bstr [32])) ++ (bstr s5)) : Value) = v]) (fun _ _ => []) z_mix rfl (tl_mono ⟨fun _ _ _ _ h => h, ⟨fun _ _ _ _ h => h, ⟨fun _ _ _ _ h => h, ⟨fun _ _ _ _ h => h, ⟨fun _ _ _ _ h => h, ⟨fun _ _ _ _ h => h, ⟨fun _ _ _ _ h => h, ⟨fun _ _ _ _ h => h, ⟨fun _ _ _ _ h => h, trivial⟩⟩⟩⟩⟩⟩⟩⟩⟩) (allB_cons (allB_cons (allB_cons (allB_cons (allB_cons (allB_cons (allB_cons (allB_cons (allB_cons allB_nil ?_) ?_) ?_) ?_) ?_) ?_) ?_) ?_) ?_) ?_
    · intro ρ' τ pool rs hl hd hout hk
      refine o_fieldAddr rfl rfl rfl z_field50_0 ((hout 1 rfl).trans rfl) ?_
      exact st_addNil (hk _ _ (Sto.Le.refl _) rfl)
    · intro ρ' τ pool rs hl hd hout hk
      obtain ⟨_, e0, rfl⟩ := hd 0 rfl
      refine o_load (j := 0) (v := .int .u32 a0.1) rfl rfl rfl z_sc22 e0 rfl rfl ?_
      exact st_addNil (hk _ _ (Sto.Le.refl _) rfl)
    · intro ρ' τ pool rs hl hd hout hk
      obtain ⟨_, e1, rfl⟩ := hd 1 rfl
      refine o_conv rfl rfl rfl Tryd.underlying22 Tryd.underlying3 e1 ?_
      exact st_addNil (hk _ _ (Sto.Le.refl _) rfl)
    · intro ρ' τ pool rs hl hd hout hk
      obtain ⟨_, e2, rfl⟩ := hd 2 rfl
      refine st_call (foot := []) rfl rfl rfl rfl (evs_cons e2 rfl) rfl (callV_fn z_en63 (say_Number_ok hr14 τ (hT.up ((hl5.trans hl10).trans hl)))) ?_
      rintro vτ15 τ15 gsτ15 hl16 ⟨rfl, rfl⟩
      exact st_addNil (hk _ _ hl16 rfl)
    · intro ρ' τ pool rs hl hd hout hk
      obtain ⟨_, e3, rfl⟩ := hd 3 rfl
      refine o_sadd rfl rfl rfl (ev_str z_str10) e3 hf17 ?_
      exact st_addNil (hk _ _ (Sto.Le.refl _) rfl)
    · intro ρ' τ pool rs hl hd hout hk
      obtain ⟨_, e4, rfl⟩ := hd 4 rfl
      refine o_sadd rfl rfl rfl e4 (ev_str z_str3) hf18 ?_
      exact st_addNil (hk _ _ (Sto.Le.refl _) rfl)
    · intro ρ' τ pool rs hl hd hout hk
      refine o_move rfl rfl rfl ((hout 3 rfl).trans rfl) ?_
      exact st_addNil (hk _ _ (Sto.Le.refl _) rfl)
    · intro ρ' τ pool rs hl hd hout hk
      obtain ⟨_, e6, rfl⟩ := hd 6 rfl
      refine o_bstr (xs := s5) rfl rfl rfl Tryd.underlying31 Tryd.underlying5 Tryd.underlying9 e6 (hs12.up hl) ?_
      exact st_addNil (hk _ _ (Sto.Le.refl _) rfl)
    · intro ρ' τ pool rs hl hd hout hk
      obtain ⟨_, e5, rfl⟩ := hd 5 rfl
      obtain ⟨_, e7, rfl⟩ := hd 7 rfl
      refine o_sadd rfl rfl rfl e5 e7 hf19 ?_
      exact st_addNil (hk _ _ (Sto.Le.refl _) rfl)
    intro ρ' τ20 vals hl20 hv hout
    have l8 : Eng.look ρ' 31 = some (.string ((((bstr [97, 99, 107, 32]) ++ r13) ++ (bstr [32])) ++ (bstr s5))) := (hv 8 (by decide)).1.trans (congrArg some (show vals 8 = .string ((((bstr [97, 99, 107, 32]) ++ r13) ++ (bstr [32])) ++ (bstr s5)) from Eq.symm (hv 8 (by decide)).2))
    refine st_ord [0] [[(b1, .cells [.int .u32 a0.1, .int .u64 a0.2].toArray 50 (0, 0))]] rfl ?_
    refine st_env (ρ' := [(31, .string ((((bstr [97, 99, 107, 32]) ++ r13) ++ (bstr [32])) ++ (bstr s5))), (2, .string (bstr []))]) ⟨l8, (hout 2 rfl).trans rfl, trivial⟩ ?_
    refine o_assign rfl rfl rfl rfl ?_
    refine st_end ?_
    refine st_ord [] [] rfl ?_
    obtain rfl := Eq.symm h
    exact st_ret (gs' := []) Tryd.func31 rfl (List.Sublist.refl _) ((hl5.trans hl10).trans hl20) ⟨rfl, rfl⟩
  refine st_seq ?_
  refine st_region ?_
  refine o_move rfl rfl rfl rfl ?_
  refine o_lenO rfl rfl rfl z_slT31 rfl ho4 ?_
  refine o_move rfl rfl rfl rfl ?_
  refine st_end ?_
  obtain ⟨e21, hL21, hA21⟩ := h
  refine st_env (ρ' := [(1, .pointer (some ⟨b1, 0, none⟩)), (2, .string (bstr [])), (3, v2), (7, .int .i64 ((List.replicate (16 : Int).toNat 0).length : Int)), (8, .int .i64 0)]) ⟨rfl, rfl, rfl, rfl, rfl, trivial⟩ ?_
  refine st_ord [1, 0] [[(b1, .cells [.int .u32 a0.1, .int .u64 a0.2].toArray 50 (0, 0))], g3] rfl ?_
  refine st_loop hL21 (fun (s21 : List Int × Int) ρ τ21 gs => σ.Le τ21 ∧ ∃ (v22 : Value) (g23 : Grp), ρ = [(1, .pointer (some ⟨b1, 0, none⟩)), (2, .string (bstr [])), (3, v22), (7, .int .i64 ((List.replicate (16 : Int).toNat 0).length : Int)), (8, .int .i64 s21.2)] ∧ gs = [[(b1, .cells [.int .u32 a0.1, .int .u64 a0.2].toArray 50 (0, 0))], g23] ∧ Ow (kI .u8) 5 τ21 v22 s21.1 g23) ⟨Sto.Le.refl _, _, _, rfl, rfl, ho4⟩ ?_
  rintro s21 o21 h he21 ρ21 τ21 gs21 ⟨hl21, v22, g23, rfl, rfl, ho24⟩ hn21
  refine st_seq ?_
  refine st_region ?_
  refine o_ibin (v := .bool (decide (s21.2 < ((List.replicate (16 : Int).toNat 0).length : Int)))) rfl rfl rfl rfl rfl rfl ?_
  refine st_end ?_
  refine st_seq ?_
  refine st_cond rfl (fun hc => ?_) (fun hc => ?_)
  · replace h := (if_pos hc).mp h
    refine st_skip ?_
    refine st_seq ?_
    refine st_block ?_
    refine st_seq ?_
    refine st_region ?_
    refine o_move rfl rfl rfl rfl ?_
    refine o_assign rfl rfl rfl rfl ?_
    refine st_end ?_
    refine st_region ?_
    refine o_move rfl rfl rfl rfl ?_
    refine o_move rfl rfl rfl rfl ?_
    refine o_fieldAddr rfl rfl rfl z_field50_1 rfl ?_
    refine o_load (j := 0) (v := .int .u64 a0.2) rfl rfl rfl z_sc48 rfl rfl rfl ?_
    refine o_move rfl rfl rfl rfl ?_
    refine o_ibin (v := .int .i64 (IntKind.i64.wrap (15 - s21.2))) rfl rfl rfl rfl rfl rfl ?_
    refine o_ibin (v := .int .i64 (IntKind.i64.wrap (4 * (IntKind.i64.wrap (15 - s21.2))))) rfl rfl rfl rfl rfl rfl ?_
    obtain ⟨hf25, h⟩ := h
    refine o_shr rfl rfl rfl rfl rfl hf25 ?_
    refine o_ibin (v := .int .u64 (iand .u64 (ishr .u64 a0.2 (IntKind.i64.wrap (4 * (IntKind.i64.wrap (15 - s21.2))))) 15)) rfl rfl rfl rfl rfl rfl ?_
    obtain ⟨q26, hf27, h⟩ := h
    refine o_indexS rfl rfl rfl Tryd.underlying9 (ev_str z_str9) rfl hf27 ?_
    obtain ⟨q28, hf29, h⟩ := h
    refine o_indexOw rfl rfl rfl z_slT31 rfl rfl ho24 rfl hf29 (fun b30 hb31 => ?_)
    refine o_storeOw (dk := (kI .u8)) (off := 0) (j := 1) (q' := q26) (us := [.int .u8 q26]) rfl rfl rfl z_size5 rfl rfl rfl (ones_cons rfl ones_nil) ho24 hb31 hf29 rfl (fun vs hv => by obtain rfl := hv; exact rfl) (Nat.le_of_ble_eq_true rfl) (fun g32 ho33 => ?_)
    refine st_gs [[(b1, .cells [.int .u32 a0.1, .int .u64 a0.2].toArray 50 (0, 0))], g32] rfl ?_
    refine st_end ?_
    refine st_inBlock ?_
    refine st_region ?_
    refine o_ibin (v := .int .i64 (IntKind.i64.wrap (s21.2 + 1))) rfl rfl rfl rfl rfl rfl ?_
    refine o_move rfl rfl rfl rfl ?_
    refine st_end ?_
    refine st_env (ρ' := [(1, .pointer (some ⟨b1, 0, none⟩)), (2, .string (bstr [])), (3, v22), (7, .int .i64 ((List.replicate (16 : Int).toNat 0).length : Int)), (8, .int .i64 (IntKind.i64.wrap (s21.2 + 1)))]) ⟨rfl, rfl, rfl, rfl, rfl, trivial⟩ ?_
    exact hn21 _ _ _ _ h ⟨hl21, _, _, rfl, rfl, ho33⟩
  · replace h := (if_neg (ne_t hc)).mp h
    refine st_exit rfl ?_
    obtain rfl := he21 _ h
    replace h := hA21
    refine st_env (ρ' := [(1, .pointer (some ⟨b1, 0, none⟩)), (2, .string (bstr [])), (3, v22)]) ⟨rfl, rfl, rfl, trivial⟩ ?_
    exact hk5 _ _ _ ⟨s21.1, _, _, h, hl21, rfl, rfl, ho24⟩
theorem ref32_Line_ok {a0 : Int × Int} {r : ByteArray} (h : ref32_Line a0 r) (σ : Sto)  :
    Does Tryd.prog 32 [.agg [.int .u32 a0.1, .int .u64 a0.2].toArray] σ [] (fun v τ gs => gs = [] ∧ .string r = v) := by
  refine call_of Tryd.func32 Tryd.ntmps32 rfl rfl (fun cs fs => ?_)
  refine st_seq ?_
  refine st_region ?_
  refine o_box (cs := [.int .u32 a0.1, .int .u64 a0.2]) rfl rfl rfl rfl rfl (fun b1 => ?_)
  refine o_assign rfl rfl rfl (ev_str z_str0) ?_
  refine st_end ?_
  refine st_seq ?_
  refine st_region ?_
  refine o_assign rfl rfl rfl (ev_str z_str0) ?_
  refine st_end ?_
  refine st_seq ?_
  refine st_region ?_
  refine o_fieldAddr rfl rfl rfl z_field55_1 rfl ?_
  refine o_load (j := 0) (v := .int .u64 a0.2) rfl rfl rfl z_sc48 rfl rfl rfl ?_
  refine o_assign rfl rfl rfl rfl ?_
  refine st_end ?_
  refine st_seq ?_
  refine st_cut (fun ρ τ2 gs => ∃ (s2 : ByteArray), ref32_Line_j1 a0 s2 r ∧ σ.Le τ2 ∧ ρ = [(1, .pointer (some ⟨b1, 0, none⟩)), (2, .string (bstr [])), (3, .string s2)] ∧ gs = [[(b1, .cells [.int .u32 a0.1, .int .u64 a0.2].toArray 55 (0, 0))]]) ?_ (fun hk2 => ?_)
  · rintro ρ2 τ2 gs2 ⟨s2, h, hl2, rfl, rfl⟩
    refine st_seq ?_
    refine st_region ?_
    refine o_fieldAddr rfl rfl rfl z_field55_0 rfl ?_
    refine o_load (j := 0) (v := .int .u32 a0.1) rfl rfl rfl z_sc22 rfl rfl rfl ?_
    refine o_conv rfl rfl rfl Tryd.underlying22 Tryd.underlying3 rfl ?_
    obtain ⟨r3, hr4, h⟩ := h
    refine st_call (foot := []) rfl rfl rfl rfl rfl rfl (callV_fn z_en45 (ref07_Digits_ok hr4 τ2)) ?_
    rintro vτ5 τ5 gsτ5 hl6 ⟨rfl, rfl⟩
    obtain ⟨hf7, h⟩ := h
    refine o_sadd rfl rfl rfl (ev_str z_str10) rfl hf7 ?_
    obtain ⟨hf8, h⟩ := h
    refine o_sadd rfl rfl rfl rfl (ev_str z_str3) hf8 ?_
    refine o_move rfl rfl rfl rfl ?_
    obtain ⟨hf9, h⟩ := h
    refine o_sadd rfl rfl rfl rfl rfl hf9 ?_
    refine o_assign rfl rfl rfl rfl ?_
    refine st_end ?_
    refine st_ord [] [] rfl ?_
    obtain rfl := Eq.symm h
    exact st_ret (gs' := []) Tryd.func32 rfl (List.Sublist.refl _) (hl2.trans hl6) ⟨rfl, rfl⟩
  refine st_seq ?_
  refine st_region ?_
  refine o_assign rfl rfl rfl rfl ?_
  refine st_end ?_
  obtain ⟨e10, hL10, hA10⟩ := h
  refine st_env (ρ' := [(1, .pointer (some ⟨b1, 0, none⟩)), (2, .string (bstr [])), (3, .string (bstr [])), (4, .int .u64 a0.2), (5, .int .i64 0)]) ⟨rfl, rfl, rfl, rfl, rfl, trivial⟩ ?_
  refine st_loop hL10 (fun (s10 : ByteArray × Int × Int) ρ τ10 gs => σ.Le τ10 ∧ ρ = [(1, .pointer (some ⟨b1, 0, none⟩)), (2, .string (bstr [])), (3, .string s10.1), (4, .int .u64 s10.2.1), (5, .int .i64 s10.2.2)] ∧ gs = [[(b1, .cells [.int .u32 a0.1, .int .u64 a0.2].toArray 55 (0, 0))]]) ⟨Sto.Le.refl _, rfl, rfl⟩ ?_
  rintro s10 o10 h he10 ρ10 τ10 gs10 ⟨hl10, rfl, rfl⟩ hn10
  refine st_seq ?_
  refine st_seq ?_
  refine st_region ?_
  refine o_move rfl rfl rfl rfl ?_
  refine o_ibin (v := .bool (decide (s10.2.2 < 16))) rfl rfl rfl rfl rfl rfl ?_
  refine st_end ?_
  refine st_cond rfl (fun hc => ?_) (fun hc => ?_)
  · replace h := (if_pos hc).mp h
    refine st_skip ?_
    refine st_seq ?_
    refine st_block ?_
    refine st_seq ?_
    refine st_region ?_
    refine o_move rfl rfl rfl rfl ?_
    refine o_rem rfl rfl rfl rfl rfl (by decide) ?_
    refine o_conv rfl rfl rfl Tryd.underlying48 Tryd.underlying5 rfl ?_
    refine o_assign rfl rfl rfl rfl ?_
    refine st_end ?_
    refine st_seq ?_
    refine st_cut (fun ρ τ11 gs => ∃ (s11 : ByteArray), ref32_Line_j3 s10 s11 o10 ∧ τ10.Le τ11 ∧ ρ = [(1, .pointer (some ⟨b1, 0, none⟩)), (2, .string (bstr [])), (3, .string s11), (4, .int .u64 s10.2.1), (5, .int .i64 s10.2.2)] ∧ gs = [[(b1, .cells [.int .u32 a0.1, .int .u64 a0.2].toArray 55 (0, 0))]]) ?_ (fun hk11 => ?_)
    · rintro ρ11 τ11 gs11 ⟨s11, h, hl11, rfl, rfl⟩
      refine st_region ?_
      refine o_move rfl rfl rfl rfl ?_
      refine o_quo rfl rfl rfl rfl rfl (by decide) ?_
      refine o_assign rfl rfl rfl rfl ?_
      refine st_end ?_
      refine st_inBlock ?_
      refine st_region ?_
      refine o_move rfl rfl rfl rfl ?_
      refine o_ibin (v := .int .i64 (IntKind.i64.wrap (s10.2.2 + 1))) rfl rfl rfl rfl rfl rfl ?_
      refine o_assign rfl rfl rfl rfl ?_
      refine st_end ?_
      refine st_env (ρ' := [(1, .pointer (some ⟨b1, 0, none⟩)), (2, .string (bstr [])), (3, .string s11), (4, .int .u64 (IntKind.u64.wrap (s10.2.1.tdiv 16))), (5, .int .i64 (IntKind.i64.wrap (s10.2.2 + 1)))]) ⟨rfl, rfl, rfl, rfl, rfl, trivial⟩ ?_
      exact hn10 _ _ _ _ h ⟨(hl10.trans hl11), rfl, rfl⟩
    refine st_seq ?_
    refine st_region ?_
    refine o_move rfl rfl rfl rfl ?_
    refine o_ibin (v := .bool (decide ((IntKind.u8.wrap (s10.2.1.tmod 16)) < 10))) rfl rfl rfl rfl rfl rfl ?_
    refine st_end ?_
    refine st_cond rfl (fun hc => ?_) (fun hc => ?_)
    · replace h := (if_pos hc).mp h
      refine st_region ?_
      refine o_move rfl rfl rfl rfl ?_
      refine o_ibin (v := .int .u8 (IntKind.u8.wrap (48 + (IntKind.u8.wrap (s10.2.1.tmod 16))))) rfl rfl rfl rfl rfl rfl ?_
      refine o_lit (dk := (kI .u8)) (xs := [(IntKind.u8.wrap (48 + (IntKind.u8.wrap (s10.2.1.tmod 16))))]) (ps := [(0, [.int .u8 (IntKind.u8.wrap (48 + (IntKind.u8.wrap (s10.2.1.tmod 16))))])]) (cs := [.int .u8 (IntKind.u8.wrap (48 + (IntKind.u8.wrap (s10.2.1.tmod 16))))]) rfl rfl rfl z_slT31 z_zero5 ⟨rfl, ⟨_, rfl, rfl⟩, trivial⟩ rfl rfl rfl rfl (Kd.Many.cons (a := [.int .u8 (IntKind.u8.wrap (48 + (IntKind.u8.wrap (s10.2.1.tmod 16))))]) rfl Kd.Many.nil) (fun v12 g13 ho14 => ?_)
      refine st_freeze (fun τ15 hl16 hg17 => ?_)
      have hs18 := ho14.freeze hl16 hg17
      refine o_bstr (xs := [(IntKind.u8.wrap (48 + (IntKind.u8.wrap (s10.2.1.tmod 16))))]) rfl rfl rfl Tryd.underlying31 Tryd.underlying5 Tryd.underlying9 rfl hs18 ?_
      refine o_move rfl rfl rfl rfl ?_
      obtain ⟨hf19, h⟩ := h
      refine o_sadd rfl rfl rfl rfl rfl hf19 ?_
      refine o_assign rfl rfl rfl rfl ?_
      refine st_end ?_
      refine st_env (ρ' := [(1, .pointer (some ⟨b1, 0, none⟩)), (2, .string (bstr [])), (3, .string ((bstr [(IntKind.u8.wrap (48 + (IntKind.u8.wrap (s10.2.1.tmod 16))))]) ++ s10.1)), (4, .int .u64 s10.2.1), (5, .int .i64 s10.2.2)]) ⟨rfl, rfl, rfl, rfl, rfl, trivial⟩ ?_
      exact hk11 _ _ _ ⟨((bstr [(IntKind.u8.wrap (48 + (IntKind.u8.wrap (s10.2.1.tmod 16))))]) ++ s10.1), h, hl16, rfl, rfl⟩
    · replace h := (if_neg (ne_t hc)).mp h
      refine st_region ?_
      refine o_move rfl rfl rfl rfl ?_
      refine o_ibin (v := .int .u8 (IntKind.u8.wrap (87 + (IntKind.u8.wrap (s10.2.1.tmod 16))))) rfl rfl rfl rfl rfl rfl ?_
      refine o_lit (dk := (kI .u8)) (xs := [(IntKind.u8.wrap (87 + (IntKind.u8.wrap (s10.2.1.tmod 16))))]) (ps := [(0, [.int .u8 (IntKind.u8.wrap (87 + (IntKind.u8.wrap (s10.2.1.tmod 16))))])]) (cs := [.int .u8 (IntKind.u8.wrap (87 + (IntKind.u8.wrap (s10.2.1.tmod 16))))]) rfl rfl rfl z_slT31 z_zero5 ⟨rfl, ⟨_, rfl, rfl⟩, trivial⟩ rfl rfl rfl rfl (Kd.Many.cons (a := [.int .u8 (IntKind.u8.wrap (87 + (IntKind.u8.wrap (s10.2.1.tmod 16))))]) rfl Kd.Many.nil) (fun v20 g21 ho22 => ?_)
      refine st_freeze (fun τ23 hl24 hg25 => ?_)
      have hs26 := ho22.freeze hl24 hg25
      refine o_bstr (xs := [(IntKind.u8.wrap (87 + (IntKind.u8.wrap (s10.2.1.tmod 16))))]) rfl rfl rfl Tryd.underlying31 Tryd.underlying5 Tryd.underlying9 rfl hs26 ?_
      refine o_move rfl rfl rfl rfl ?_
      obtain ⟨hf27, h⟩ := h
      refine o_sadd rfl rfl rfl rfl rfl hf27 ?_
      refine o_assign rfl rfl rfl rfl ?_
      refine st_end ?_
      refine st_env (ρ' := [(1, .pointer (some ⟨b1, 0, none⟩)), (2, .string (bstr [])), (3, .string ((bstr [(IntKind.u8.wrap (87 + (IntKind.u8.wrap (s10.2.1.tmod 16))))]) ++ s10.1)), (4, .int .u64 s10.2.1), (5, .int .i64 s10.2.2)]) ⟨rfl, rfl, rfl, rfl, rfl, trivial⟩ ?_
      exact hk11 _ _ _ ⟨((bstr [(IntKind.u8.wrap (87 + (IntKind.u8.wrap (s10.2.1.tmod 16))))]) ++ s10.1), h, hl24, rfl, rfl⟩
  · replace h := (if_neg (ne_t hc)).mp h
    refine st_exit rfl ?_
    obtain rfl := he10 _ h
    replace h := hA10
    refine st_env (ρ' := [(1, .pointer (some ⟨b1, 0, none⟩)), (2, .string (bstr [])), (3, .string s10.1)]) ⟨rfl, rfl, rfl, trivial⟩ ?_
    exact hk2 _ _ _ ⟨s10.1, h, hl10, rfl, rfl⟩
theorem law32_AckTells_ok {a0 : Int × Int} {a1 : Int × Int} {a2 : Int} {r : Bool} (h : law32_AckTells a0 a1 a2 r) (σ : Sto) (hT : Tab Tryd.prog σ) :
    Does Tryd.prog 7 [.agg [.int .u32 a0.1, .int .u64 a0.2].toArray, .agg [.int .u32 a1.1, .int .u64 a1.2].toArray, .int .u32 a2] σ [] (fun v τ gs => gs = [] ∧ .bool r = v) := by
  refine call_of Tryd.func7 Tryd.ntmps7 rfl rfl (fun cs fs => ?_)
  refine st_seq ?_
  refine st_region ?_
  refine o_box (cs := [.int .u32 a0.1, .int .u64 a0.2]) rfl rfl rfl rfl rfl (fun b1 => ?_)
  refine o_box (cs := [.int .u32 a1.1, .int .u64 a1.2]) rfl rfl rfl rfl rfl (fun b2 => ?_)
  refine o_assign rfl rfl rfl rfl ?_
  refine st_end ?_
  refine st_seq ?_
  refine st_region ?_
  refine o_loadN (j := 1) (vs := [.int .u32 a0.1, .int .u64 a0.2]) rfl rfl rfl z_agg50 rfl rfl rfl ?_
  obtain ⟨r3, hr4, h⟩ := h
  refine st_call (foot := []) rfl rfl rfl rfl rfl rfl (callV_fn z_en22 (ack_Bytes_ok hr4 σ)) ?_
  rintro vτ5 τ5 gsτ5 hl6 ⟨v7, rfl, rfl, hs8⟩
  refine o_assign rfl rfl rfl rfl ?_
  refine st_end ?_
  refine st_seq ?_
  refine st_region ?_
  refine o_move rfl rfl rfl rfl ?_
  obtain ⟨r9, hr10, h⟩ := h
  refine st_call (foot := []) rfl rfl rfl rfl rfl rfl (callV_fn z_en23 (ack_Parse_ok hr10 τ5 hs8)) ?_
  rintro vτ11 τ11 gsτ11 hl12 ⟨rfl, rfl⟩
  refine o_move rfl rfl rfl rfl ?_
  refine o_extract rfl rfl rfl rfl rfl ?_
  refine o_extract rfl rfl rfl rfl rfl ?_
  refine o_alloc rfl rfl rfl z_zero50 (fun b13 => ?_)
  refine o_store (j := 0) (vs := [.int .u32 r9.1.1, .int .u64 r9.1.2]) (cs' := [.int .u32 r9.1.1, .int .u64 r9.1.2]) rfl rfl rfl z_size50 rfl rfl rfl (ones_cons rfl (ones_cons rfl ones_nil)) rfl rfl rfl ?_
  refine st_gs [[(b13, .cells [.int .u32 r9.1.1, .int .u64 r9.1.2].toArray 50 (0, 0))], [(b2, .cells [.int .u32 a1.1, .int .u64 a1.2].toArray 50 (0, 0))], [(b1, .cells [.int .u32 a0.1, .int .u64 a0.2].toArray 50 (0, 0))]] rfl ?_
  refine o_assign rfl rfl rfl rfl ?_
  refine st_end ?_
  refine st_seq ?_
  refine st_region ?_
  refine o_loadN (j := 2) (vs := [.int .u32 a0.1, .int .u64 a0.2]) rfl rfl rfl z_agg50 rfl rfl rfl ?_
  refine o_move rfl rfl rfl rfl ?_
  obtain ⟨r14, hr15, h⟩ := h
  refine st_call (foot := []) rfl rfl rfl rfl rfl rfl (callV_fn z_en24 (ref32_Has_ok hr15 τ11)) ?_
  rintro vτ16 τ16 gsτ16 hl17 ⟨rfl, rfl⟩
  refine o_assign rfl rfl rfl rfl ?_
  refine st_end ?_
  refine st_seq ?_
  obtain ⟨r18, hr19, h⟩ := h
  obtain ⟨r22, hr23, h⟩ := h
  obtain ⟨r26, hr27, h⟩ := h
  obtain ⟨r30, hr31, h⟩ := h
  obtain ⟨r34, hr35, h⟩ := h
  obtain ⟨r38, hr39, h⟩ := h
  obtain ⟨r42, hr43, h⟩ := h
  obtain ⟨r48, hr49, h⟩ := h
  obtain ⟨r52, hr53, h⟩ := h
  obtain ⟨r56, hr57, h⟩ := h
  refine st_draw 52 (tl [fun τ v => (.bool r18 : Value) = v,
    fun τ v => (.bool r18 : Value) = v,
    fun τ v => ((r18 = true) → (.agg [.int .u32 a0.1, .int .u64 a0.2].toArray : Value) = v) ∧ (¬ (r18 = true) → v = undef),
    fun τ v => ((r18 = true) → (.int .u32 a2 : Value) = v) ∧ (¬ (r18 = true) → v = undef),
    fun τ v => ((r18 = true) → (.bool r22 : Value) = v) ∧ (¬ (r18 = true) → v = undef),
    fun τ v => ((r18 = true) → (.bool r14 : Value) = v) ∧ (¬ (r18 = true) → v = undef),
    fun τ v => ((r18 = true) → (.bool (decide (r22 = r14)) : Value) = v) ∧ (¬ (r18 = true) → v = undef),
    fun τ v => (.bool (r18 && (decide (r22 = r14))) : Value) = v,
    fun τ v => (.bool (r18 && (decide (r22 = r14))) : Value) = v,
    fun τ v => (((r18 && (decide (r22 = r14))) = true) → (.agg [.int .u32 a0.1, .int .u64 a0.2].toArray : Value) = v) ∧ (¬ ((r18 && (decide (r22 = r14))) = true) → v = undef),
    fun τ v => (((r18 && (decide (r22 = r14))) = true) → (.int .u32 a2 : Value) = v) ∧ (¬ ((r18 && (decide (r22 = r14))) = true) → v = undef),
    fun τ v => (((r18 && (decide (r22 = r14))) = true) → (.bool r26 : Value) = v) ∧ (¬ ((r18 && (decide (r22 = r14))) = true) → v = undef),
    fun τ v => (((r18 && (decide (r22 = r14))) = true) → (.bool r14 : Value) = v) ∧ (¬ ((r18 && (decide (r22 = r14))) = true) → v = undef),
    fun τ v => (((r18 && (decide (r22 = r14))) = true) → (.bool (!(decide (r26 = r14))) : Value) = v) ∧ (¬ ((r18 && (decide (r22 = r14))) = true) → v = undef),
    fun τ v => (.bool ((r18 && (decide (r22 = r14))) && (!(decide (r26 = r14)))) : Value) = v,
    fun τ v => (.bool ((r18 && (decide (r22 = r14))) && (!(decide (r26 = r14)))) : Value) = v,
    fun τ v => ((((r18 && (decide (r22 = r14))) && (!(decide (r26 = r14)))) = true) → (.agg [.int .u32 a0.1, .int .u64 a0.2].toArray : Value) = v) ∧ (¬ (((r18 && (decide (r22 = r14))) && (!(decide (r26 = r14)))) = true) → v = undef),
    fun τ v => ((((r18 && (decide (r22 = r14))) && (!(decide (r26 = r14)))) = true) → (.agg [.int .u32 a1.1, .int .u64 a1.2].toArray : Value) = v) ∧ (¬ (((r18 && (decide (r22 = r14))) && (!(decide (r26 = r14)))) = true) → v = undef),
    fun τ v => ((((r18 && (decide (r22 = r14))) && (!(decide (r26 = r14)))) = true) → (.bool r30 : Value) = v) ∧ (¬ (((r18 && (decide (r22 = r14))) && (!(decide (r26 = r14)))) = true) → v = undef),
    fun τ v => ((((r18 && (decide (r22 = r14))) && (!(decide (r26 = r14)))) = true) → (.agg [.int .u32 a0.1, .int .u64 a0.2].toArray : Value) = v) ∧ (¬ (((r18 && (decide (r22 = r14))) && (!(decide (r26 = r14)))) = true) → v = undef),
    fun τ v => ((((r18 && (decide (r22 = r14))) && (!(decide (r26 = r14)))) = true) → (.agg [.int .u32 a1.1, .int .u64 a1.2].toArray : Value) = v) ∧ (¬ (((r18 && (decide (r22 = r14))) && (!(decide (r26 = r14)))) = true) → v = undef),
    fun τ v => ((((r18 && (decide (r22 = r14))) && (!(decide (r26 = r14)))) = true) → (.bool r34 : Value) = v) ∧ (¬ (((r18 && (decide (r22 = r14))) && (!(decide (r26 = r14)))) = true) → v = undef),
    fun τ v => ((((r18 && (decide (r22 = r14))) && (!(decide (r26 = r14)))) = true) → (.bool (decide (r30 = r34)) : Value) = v) ∧ (¬ (((r18 && (decide (r22 = r14))) && (!(decide (r26 = r14)))) = true) → v = undef),
    fun τ v => (.bool (((r18 && (decide (r22 = r14))) && (!(decide (r26 = r14)))) && (decide (r30 = r34))) : Value) = v,
    fun τ v => (.bool (((r18 && (decide (r22 = r14))) && (!(decide (r26 = r14)))) && (decide (r30 = r34))) : Value) = v,
    fun τ v => (((((r18 && (decide (r22 = r14))) && (!(decide (r26 = r14)))) && (decide (r30 = r34))) = true) → (.agg [.int .u32 a0.1, .int .u64 a0.2].toArray : Value) = v) ∧ (¬ ((((r18 && (decide (r22 = r14))) && (!(decide (r26 = r14)))) && (decide (r30 = r34))) = true) → v = undef),
    fun τ v => (((((r18 && (decide (r22 = r14))) && (!(decide (r26 = r14)))) && (decide (r30 = r34))) = true) → (.agg [.int .u32 a0.1, .int .u64 a0.2].toArray : Value) = v) ∧ (¬ ((((r18 && (decide (r22 = r14))) && (!(decide (r26 = r14)))) && (decide (r30 = r34))) = true) → v = undef),
    fun τ v => (((((r18 && (decide (r22 = r14))) && (!(decide (r26 = r14)))) && (decide (r30 = r34))) = true) → (.bool r38 : Value) = v) ∧ (¬ ((((r18 && (decide (r22 = r14))) && (!(decide (r26 = r14)))) && (decide (r30 = r34))) = true) → v = undef),
    fun τ v => (((((r18 && (decide (r22 = r14))) && (!(decide (r26 = r14)))) && (decide (r30 = r34))) = true) → (.bool (!r38) : Value) = v) ∧ (¬ ((((r18 && (decide (r22 = r14))) && (!(decide (r26 = r14)))) && (decide (r30 = r34))) = true) → v = undef),
    fun τ v => (.bool ((((r18 && (decide (r22 = r14))) && (!(decide (r26 = r14)))) && (decide (r30 = r34))) && (!r38)) : Value) = v,
    fun τ v => (.bool ((((r18 && (decide (r22 = r14))) && (!(decide (r26 = r14)))) && (decide (r30 = r34))) && (!r38)) : Value) = v,
    fun τ v => ((((((r18 && (decide (r22 = r14))) && (!(decide (r26 = r14)))) && (decide (r30 = r34))) && (!r38)) = true) → (v7 : Value) = v) ∧ (¬ (((((r18 && (decide (r22 = r14))) && (!(decide (r26 = r14)))) && (decide (r30 = r34))) && (!r38)) = true) → v = undef),
    fun τ v => ((((((r18 && (decide (r22 = r14))) && (!(decide (r26 = r14)))) && (decide (r30 = r34))) && (!r38)) = true) → (.agg [.int .u32 a0.1, .int .u64 a0.2].toArray : Value) = v) ∧ (¬ (((((r18 && (decide (r22 = r14))) && (!(decide (r26 = r14)))) && (decide (r30 = r34))) && (!r38)) = true) → v = undef),
    fun τ v => ((((((r18 && (decide (r22 = r14))) && (!(decide (r26 = r14)))) && (decide (r30 = r34))) && (!r38)) = true) → ∃ (v46 : Value), (v46 : Value) = v ∧ Sl (kI .u8) τ v46 r42) ∧ (¬ (((((r18 && (decide (r22 = r14))) && (!(decide (r26 = r14)))) && (decide (r30 = r34))) && (!r38)) = true) → v = undef),
    fun τ v => ((((((r18 && (decide (r22 = r14))) && (!(decide (r26 = r14)))) && (decide (r30 = r34))) && (!r38)) = true) → (.bool r48 : Value) = v) ∧ (¬ (((((r18 && (decide (r22 = r14))) && (!(decide (r26 = r14)))) && (decide (r30 = r34))) && (!r38)) = true) → v = undef),
    fun τ v => (.bool (((((r18 && (decide (r22 = r14))) && (!(decide (r26 = r14)))) && (decide (r30 = r34))) && (!r38)) && r48) : Value) = v,
    fun τ v => (.bool (((((r18 && (decide (r22 = r14))) && (!(decide (r26 = r14)))) && (decide (r30 = r34))) && (!r38)) && r48) : Value) = v,
    fun τ v => (((((((r18 && (decide (r22 = r14))) && (!(decide (r26 = r14)))) && (decide (r30 = r34))) && (!r38)) && r48) = true) → (.agg [.int .u32 r9.1.1, .int .u64 r9.1.2].toArray : Value) = v) ∧ (¬ ((((((r18 && (decide (r22 = r14))) && (!(decide (r26 = r14)))) && (decide (r30 = r34))) && (!r38)) && r48) = true) → v = undef),
    fun τ v => (((((((r18 && (decide (r22 = r14))) && (!(decide (r26 = r14)))) && (decide (r30 = r34))) && (!r38)) && r48) = true) → (.agg [.int .u32 a0.1, .int .u64 a0.2].toArray : Value) = v) ∧ (¬ ((((((r18 && (decide (r22 = r14))) && (!(decide (r26 = r14)))) && (decide (r30 = r34))) && (!r38)) && r48) = true) → v = undef),
    fun τ v => (((((((r18 && (decide (r22 = r14))) && (!(decide (r26 = r14)))) && (decide (r30 = r34))) && (!r38)) && r48) = true) → (.bool ((decide (r9.1.1 = a0.1)) && ((decide (r9.1.2 = a0.2)) && true)) : Value) = v) ∧ (¬ ((((((r18 && (decide (r22 = r14))) && (!(decide (r26 = r14)))) && (decide (r30 = r34))) && (!r38)) && r48) = true) → v = undef),
    fun τ v => (.bool ((((((r18 && (decide (r22 = r14))) && (!(decide (r26 = r14)))) && (decide (r30 = r34))) && (!r38)) && r48) && ((decide (r9.1.1 = a0.1)) && ((decide (r9.1.2 = a0.2)) && true))) : Value) = v,
    fun τ v => (.bool ((((((r18 && (decide (r22 = r14))) && (!(decide (r26 = r14)))) && (decide (r30 = r34))) && (!r38)) && r48) && ((decide (r9.1.1 = a0.1)) && ((decide (r9.1.2 = a0.2)) && true))) : Value) = v,
    fun τ v => ((((((((r18 && (decide (r22 = r14))) && (!(decide (r26 = r14)))) && (decide (r30 = r34))) && (!r38)) && r48) && ((decide (r9.1.1 = a0.1)) && ((decide (r9.1.2 = a0.2)) && true))) = true) → (.int .i64 r9.2 : Value) = v) ∧ (¬ (((((((r18 && (decide (r22 = r14))) && (!(decide (r26 = r14)))) && (decide (r30 = r34))) && (!r38)) && r48) && ((decide (r9.1.1 = a0.1)) && ((decide (r9.1.2 = a0.2)) && true))) = true) → v = undef),
    fun τ v => ((((((((r18 && (decide (r22 = r14))) && (!(decide (r26 = r14)))) && (decide (r30 = r34))) && (!r38)) && r48) && ((decide (r9.1.1 = a0.1)) && ((decide (r9.1.2 = a0.2)) && true))) = true) → (.bool (decide (r9.2 = 0)) : Value) = v) ∧ (¬ (((((((r18 && (decide (r22 = r14))) && (!(decide (r26 = r14)))) && (decide (r30 = r34))) && (!r38)) && r48) && ((decide (r9.1.1 = a0.1)) && ((decide (r9.1.2 = a0.2)) && true))) = true) → v = undef),
    fun τ v => (.bool (((((((r18 && (decide (r22 = r14))) && (!(decide (r26 = r14)))) && (decide (r30 = r34))) && (!r38)) && r48) && ((decide (r9.1.1 = a0.1)) && ((decide (r9.1.2 = a0.2)) && true))) && (decide (r9.2 = 0))) : Value) = v,
    fun τ v => (.bool (((((((r18 && (decide (r22 = r14))) && (!(decide (r26 = r14)))) && (decide (r30 = r34))) && (!r38)) && r48) && ((decide (r9.1.1 = a0.1)) && ((decide (r9.1.2 = a0.2)) && true))) && (decide (r9.2 = 0))) : Value) = v,
    fun τ v => (((((((((r18 && (decide (r22 = r14))) && (!(decide (r26 = r14)))) && (decide (r30 = r34))) && (!r38)) && r48) && ((decide (r9.1.1 = a0.1)) && ((decide (r9.1.2 = a0.2)) && true))) && (decide (r9.2 = 0))) = true) → (.agg [.int .u32 a0.1, .int .u64 a0.2].toArray : Value) = v) ∧ (¬ ((((((((r18 && (decide (r22 = r14))) && (!(decide (r26 = r14)))) && (decide (r30 = r34))) && (!r38)) && r48) && ((decide (r9.1.1 = a0.1)) && ((decide (r9.1.2 = a0.2)) && true))) && (decide (r9.2 = 0))) = true) → v = undef),
    fun τ v => (((((((((r18 && (decide (r22 = r14))) && (!(decide (r26 = r14)))) && (decide (r30 = r34))) && (!r38)) && r48) && ((decide (r9.1.1 = a0.1)) && ((decide (r9.1.2 = a0.2)) && true))) && (decide (r9.2 = 0))) = true) → (.string r52 : Value) = v) ∧ (¬ ((((((((r18 && (decide (r22 = r14))) && (!(decide (r26 = r14)))) && (decide (r30 = r34))) && (!r38)) && r48) && ((decide (r9.1.1 = a0.1)) && ((decide (r9.1.2 = a0.2)) && true))) && (decide (r9.2 = 0))) = true) → v = undef),
    fun τ v => (((((((((r18 && (decide (r22 = r14))) && (!(decide (r26 = r14)))) && (decide (r30 = r34))) && (!r38)) && r48) && ((decide (r9.1.1 = a0.1)) && ((decide (r9.1.2 = a0.2)) && true))) && (decide (r9.2 = 0))) = true) → (.agg [.int .u32 a0.1, .int .u64 a0.2].toArray : Value) = v) ∧ (¬ ((((((((r18 && (decide (r22 = r14))) && (!(decide (r26 = r14)))) && (decide (r30 = r34))) && (!r38)) && r48) && ((decide (r9.1.1 = a0.1)) && ((decide (r9.1.2 = a0.2)) && true))) && (decide (r9.2 = 0))) = true) → v = undef),
    fun τ v => (((((((((r18 && (decide (r22 = r14))) && (!(decide (r26 = r14)))) && (decide (r30 = r34))) && (!r38)) && r48) && ((decide (r9.1.1 = a0.1)) && ((decide (r9.1.2 = a0.2)) && true))) && (decide (r9.2 = 0))) = true) → (.string r56 : Value) = v) ∧ (¬ ((((((((r18 && (decide (r22 = r14))) && (!(decide (r26 = r14)))) && (decide (r30 = r34))) && (!r38)) && r48) && ((decide (r9.1.1 = a0.1)) && ((decide (r9.1.2 = a0.2)) && true))) && (decide (r9.2 = 0))) = true) → v = undef),
    fun τ v => (((((((((r18 && (decide (r22 = r14))) && (!(decide (r26 = r14)))) && (decide (r30 = r34))) && (!r38)) && r48) && ((decide (r9.1.1 = a0.1)) && ((decide (r9.1.2 = a0.2)) && true))) && (decide (r9.2 = 0))) = true) → (.bool (decide (r52 = r56)) : Value) = v) ∧ (¬ ((((((((r18 && (decide (r22 = r14))) && (!(decide (r26 = r14)))) && (decide (r30 = r34))) && (!r38)) && r48) && ((decide (r9.1.1 = a0.1)) && ((decide (r9.1.2 = a0.2)) && true))) && (decide (r9.2 = 0))) = true) → v = undef),
    fun τ v => (.bool ((((((((r18 && (decide (r22 = r14))) && (!(decide (r26 = r14)))) && (decide (r30 = r34))) && (!r38)) && r48) && ((decide (r9.1.1 = a0.1)) && ((decide (r9.1.2 = a0.2)) && true))) && (decide (r9.2 = 0))) && (decide (r52 = r56))) : Value) = v]) (fun _ _ => []) z_mix rfl (tl_mono ⟨fun _ _ _ _ h => h, ⟨fun _ _ _ _ h => h, ⟨fun _ _ _ _ h => h, ⟨fun _ _ _ _ h => h, ⟨fun _ _ _ _ h => h, ⟨fun _ _ _ _ h => h, ⟨fun _ _ _ _ h => h, ⟨fun _ _ _ _ h => h, ⟨fun _ _ _ _ h => h, ⟨fun _ _ _ _ h => h, ⟨fun _ _ _ _ h => h, ⟨fun _ _ _ _ h => h, ⟨fun _ _ _ _ h => h, ⟨fun _ _ _ _ h => h, ⟨fun _ _ _ _ h => h, ⟨fun _ _ _ _ h => h, ⟨fun _ _ _ _ h => h, ⟨fun _ _ _ _ h => h, ⟨fun _ _ _ _ h => h, ⟨fun _ _ _ _ h => h, ⟨fun _ _ _ _ h => h, ⟨fun _ _ _ _ h => h, ⟨fun _ _ _ _ h => h, ⟨fun _ _ _ _ h => h, ⟨fun _ _ _ _ h => h, ⟨fun _ _ _ _ h => h, ⟨fun _ _ _ _ h => h, ⟨fun _ _ _ _ h => h, ⟨fun _ _ _ _ h => h, ⟨fun _ _ _ _ h => h, ⟨fun _ _ _ _ h => h, ⟨fun _ _ _ _ h => h, ⟨fun _ _ _ _ h => h, ⟨fun _ _ _ hl ⟨h1, h2⟩ => ⟨fun hC => let ⟨v46, hv, hs47⟩ := h1 hC; ⟨v46, hv, hs47.up hl⟩, h2⟩, ⟨fun _ _ _ _ h => h, ⟨fun _ _ _ _ h => h, ⟨fun _ _ _ _ h => h, ⟨fun _ _ _ _ h => h, ⟨fun _ _ _ _ h => h, ⟨fun _ _ _ _ h => h, ⟨fun _ _ _ _ h => h, ⟨fun _ _ _ _ h => h, ⟨fun _ _ _ _ h => h, ⟨fun _ _ _ _ h => h, ⟨fun _ _ _ _ h => h, ⟨fun _ _ _ _ h => h, ⟨fun _ _ _ _ h => h, ⟨fun _ _ _ _ h => h, ⟨fun _ _ _ _ h => h, ⟨fun _ _ _ _ h => h, ⟨fun _ _ _ _ h => h, ⟨fun _ _ _ _ h => h, trivial⟩⟩⟩⟩⟩⟩⟩⟩⟩⟩⟩⟩⟩⟩⟩⟩⟩⟩⟩⟩⟩⟩⟩⟩⟩⟩⟩⟩⟩⟩⟩⟩⟩⟩⟩⟩⟩⟩⟩⟩⟩⟩⟩⟩⟩⟩⟩⟩⟩⟩⟩⟩) (allB_cons (allB_cons (allB_cons (allB_cons (allB_cons (allB_cons (allB_cons (allB_cons (allB_cons (allB_cons (allB_cons (allB_cons (allB_cons (allB_cons (allB_cons (allB_cons (allB_cons (allB_cons (allB_cons (allB_cons (allB_cons (allB_cons (allB_cons (allB_cons (allB_cons (allB_cons (allB_cons (allB_cons (allB_cons (allB_cons (allB_cons (allB_cons (allB_cons (allB_cons (allB_cons (allB_cons (allB_cons (allB_cons (allB_cons (allB_cons (allB_cons (allB_cons (allB_cons (allB_cons (allB_cons (allB_cons (allB_cons (allB_cons (allB_cons (allB_cons (allB_cons (allB_cons allB_nil ?_) ?_) ?_) ?_) ?_) ?_) ?_) ?_) ?_) ?_) ?_) ?_) ?_) ?_) ?_) ?_) ?_) ?_) ?_) ?_) ?_) ?_) ?_) ?_) ?_) ?_) ?_) ?_) ?_) ?_) ?_) ?_) ?_) ?_) ?_) ?_) ?_) ?_) ?_) ?_) ?_) ?_) ?_) ?_) ?_) ?_) ?_) ?_) ?_) ?_) ?_) ?_) ?_
  · intro ρ' τ pool rs hl hd hout hk
    refine st_call (foot := []) rfl rfl rfl rfl rfl rfl (callV_fn z_en25 (law32_known_ok hr19 τ)) ?_
    rintro vτ20 τ20 gsτ20 hl21 ⟨rfl, rfl⟩
    exact st_addNil (hk _ _ hl21 rfl)
  · intro ρ' τ pool rs hl hd hout hk
    obtain ⟨_, e0, rfl⟩ := hd 0 rfl
    refine o_move rfl rfl rfl e0 ?_
    exact st_addNil (hk _ _ (Sto.Le.refl _) rfl)
  · intro ρ' τ pool rs hl hd hout hk
    obtain ⟨_, e1, rfl⟩ := hd 1 rfl
    by_cases hG : r18 = true
    · have hC := hG
      refine o_loadN (j := 2) (vs := [.int .u32 a0.1, .int .u64 a0.2]) rfl (wants_of rfl e1 hG) rfl z_agg50 ((hout 3 rfl).trans rfl) rfl rfl ?_
      exact st_addNil (hk _ _ (Sto.Le.refl _) ⟨fun _ => rfl, fun hn => absurd hC hn⟩)
    · refine st_pass rfl rfl rfl e1 (beq_off hG) rfl ?_
      exact st_addNil (hk _ _ (Sto.Le.refl _) ⟨fun h => absurd h hG, fun _ => rfl⟩)
  · intro ρ' τ pool rs hl hd hout hk
    obtain ⟨_, e1, rfl⟩ := hd 1 rfl
    by_cases hG : r18 = true
    · have hC := hG
      refine o_move rfl (wants_of rfl e1 hG) rfl ((hout 2 rfl).trans rfl) ?_
      exact st_addNil (hk _ _ (Sto.Le.refl _) ⟨fun _ => rfl, fun hn => absurd hC hn⟩)
    · refine st_pass rfl rfl rfl e1 (beq_off hG) rfl ?_
      exact st_addNil (hk _ _ (Sto.Le.refl _) ⟨fun h => absurd h hG, fun _ => rfl⟩)
  · intro ρ' τ pool rs hl hd hout hk
    obtain ⟨_, e1, rfl⟩ := hd 1 rfl
    obtain ⟨w2, e2, t2⟩ := hd 2 rfl
    obtain ⟨w3, e3, t3⟩ := hd 3 rfl
    by_cases hG : r18 = true
    · have hC := hG
      replace hr23 := hr23 hC
      obtain ⟨rfl⟩ := t3.1 hC
      obtain ⟨rfl⟩ := t2.1 hC
      refine st_call (foot := []) rfl (wants_of rfl e1 hG) rfl rfl (evs_cons e2 (evs_cons e3 rfl)) rfl (callV_fn z_en26 (ack_Has_ok hr23 τ)) ?_
      rintro vτ24 τ24 gsτ24 hl25 ⟨rfl, rfl⟩
      exact st_addNil (hk _ _ hl25 ⟨fun _ => rfl, fun hn => absurd hC hn⟩)
    · refine st_pass rfl rfl rfl e1 (beq_off hG) rfl ?_
      exact st_addNil (hk _ _ (Sto.Le.refl _) ⟨fun h => absurd h hG, fun _ => rfl⟩)
  · intro ρ' τ pool rs hl hd hout hk
    obtain ⟨_, e1, rfl⟩ := hd 1 rfl
    by_cases hG : r18 = true
    · have hC := hG
      refine o_move rfl (wants_of rfl e1 hG) rfl ((hout 10 rfl).trans rfl) ?_
      exact st_addNil (hk _ _ (Sto.Le.refl _) ⟨fun _ => rfl, fun hn => absurd hC hn⟩)
    · refine st_pass rfl rfl rfl e1 (beq_off hG) rfl ?_
      exact st_addNil (hk _ _ (Sto.Le.refl _) ⟨fun h => absurd h hG, fun _ => rfl⟩)
  · intro ρ' τ pool rs hl hd hout hk
    obtain ⟨_, e1, rfl⟩ := hd 1 rfl
    obtain ⟨w4, e4, t4⟩ := hd 4 rfl
    obtain ⟨w5, e5, t5⟩ := hd 5 rfl
    by_cases hG : r18 = true
    · have hC := hG
      obtain ⟨rfl⟩ := t4.1 hC
      obtain ⟨rfl⟩ := t5.1 hC
      refine o_beq (e := (decide (r22 = r14))) rfl (wants_of rfl e1 hG) rfl Tryd.underlying4 e4 e5 rfl ?_
      exact st_addNil (hk _ _ (Sto.Le.refl _) ⟨fun _ => rfl, fun hn => absurd hC hn⟩)
    · refine st_pass rfl rfl rfl e1 (beq_off hG) rfl ?_
      exact st_addNil (hk _ _ (Sto.Le.refl _) ⟨fun h => absurd h hG, fun _ => rfl⟩)
  · intro ρ' τ pool rs hl hd hout hk
    obtain ⟨_, e1, rfl⟩ := hd 1 rfl
    obtain ⟨w6, e6, t6⟩ := hd 6 rfl
    refine o_pickAnd rfl rfl rfl e1 (fun hp => e6.trans (congrArg some (Eq.symm (t6.1 hp)))) rfl ?_
    exact st_addNil (hk _ _ (Sto.Le.refl _) rfl)
  · intro ρ' τ pool rs hl hd hout hk
    obtain ⟨_, e7, rfl⟩ := hd 7 rfl
    refine o_move rfl rfl rfl e7 ?_
    exact st_addNil (hk _ _ (Sto.Le.refl _) rfl)
  · intro ρ' τ pool rs hl hd hout hk
    obtain ⟨_, e8, rfl⟩ := hd 8 rfl
    by_cases hG : (r18 && (decide (r22 = r14))) = true
    · have hC := hG
      refine o_loadN (j := 2) (vs := [.int .u32 a0.1, .int .u64 a0.2]) rfl (wants_of rfl e8 hG) rfl z_agg50 ((hout 3 rfl).trans rfl) rfl rfl ?_
      exact st_addNil (hk _ _ (Sto.Le.refl _) ⟨fun _ => rfl, fun hn => absurd hC hn⟩)
    · refine st_pass rfl rfl rfl e8 (beq_off hG) rfl ?_
      exact st_addNil (hk _ _ (Sto.Le.refl _) ⟨fun h => absurd h hG, fun _ => rfl⟩)
  · intro ρ' τ pool rs hl hd hout hk
    obtain ⟨_, e8, rfl⟩ := hd 8 rfl
    by_cases hG : (r18 && (decide (r22 = r14))) = true
    · have hC := hG
      refine o_move rfl (wants_of rfl e8 hG) rfl ((hout 2 rfl).trans rfl) ?_
      exact st_addNil (hk _ _ (Sto.Le.refl _) ⟨fun _ => rfl, fun hn => absurd hC hn⟩)
    · refine st_pass rfl rfl rfl e8 (beq_off hG) rfl ?_
      exact st_addNil (hk _ _ (Sto.Le.refl _) ⟨fun h => absurd h hG, fun _ => rfl⟩)
  · intro ρ' τ pool rs hl hd hout hk
    obtain ⟨_, e8, rfl⟩ := hd 8 rfl
    obtain ⟨w9, e9, t9⟩ := hd 9 rfl
    obtain ⟨w10, e10, t10⟩ := hd 10 rfl
    by_cases hG : (r18 && (decide (r22 = r14))) = true
    · have hC := hG
      replace hr27 := hr27 hC
      obtain ⟨rfl⟩ := t9.1 hC
      obtain ⟨rfl⟩ := t10.1 hC
      refine st_call (foot := []) rfl (wants_of rfl e8 hG) rfl rfl (evs_cons e9 (evs_cons e10 rfl)) rfl (callV_fn z_en27 (ack_Lacks_ok hr27 τ)) ?_
      rintro vτ28 τ28 gsτ28 hl29 ⟨rfl, rfl⟩
      exact st_addNil (hk _ _ hl29 ⟨fun _ => rfl, fun hn => absurd hC hn⟩)
    · refine st_pass rfl rfl rfl e8 (beq_off hG) rfl ?_
      exact st_addNil (hk _ _ (Sto.Le.refl _) ⟨fun h => absurd h hG, fun _ => rfl⟩)
  · intro ρ' τ pool rs hl hd hout hk
    obtain ⟨_, e8, rfl⟩ := hd 8 rfl
    by_cases hG : (r18 && (decide (r22 = r14))) = true
    · have hC := hG
      refine o_move rfl (wants_of rfl e8 hG) rfl ((hout 10 rfl).trans rfl) ?_
      exact st_addNil (hk _ _ (Sto.Le.refl _) ⟨fun _ => rfl, fun hn => absurd hC hn⟩)
    · refine st_pass rfl rfl rfl e8 (beq_off hG) rfl ?_
      exact st_addNil (hk _ _ (Sto.Le.refl _) ⟨fun h => absurd h hG, fun _ => rfl⟩)
  · intro ρ' τ pool rs hl hd hout hk
    obtain ⟨_, e8, rfl⟩ := hd 8 rfl
    obtain ⟨w11, e11, t11⟩ := hd 11 rfl
    obtain ⟨w12, e12, t12⟩ := hd 12 rfl
    by_cases hG : (r18 && (decide (r22 = r14))) = true
    · have hC := hG
      obtain ⟨rfl⟩ := t11.1 hC
      obtain ⟨rfl⟩ := t12.1 hC
      refine o_beq (e := (!(decide (r26 = r14)))) rfl (wants_of rfl e8 hG) rfl Tryd.underlying4 e11 e12 rfl ?_
      exact st_addNil (hk _ _ (Sto.Le.refl _) ⟨fun _ => rfl, fun hn => absurd hC hn⟩)
    · refine st_pass rfl rfl rfl e8 (beq_off hG) rfl ?_
      exact st_addNil (hk _ _ (Sto.Le.refl _) ⟨fun h => absurd h hG, fun _ => rfl⟩)
  · intro ρ' τ pool rs hl hd hout hk
    obtain ⟨_, e8, rfl⟩ := hd 8 rfl
    obtain ⟨w13, e13, t13⟩ := hd 13 rfl
    refine o_pickAnd rfl rfl rfl e8 (fun hp => e13.trans (congrArg some (Eq.symm (t13.1 hp)))) rfl ?_
    exact st_addNil (hk _ _ (Sto.Le.refl _) rfl)
  · intro ρ' τ pool rs hl hd hout hk
    obtain ⟨_, e14, rfl⟩ := hd 14 rfl
    refine o_move rfl rfl rfl e14 ?_
    exact st_addNil (hk _ _ (Sto.Le.refl _) rfl)
  · intro ρ' τ pool rs hl hd hout hk
    obtain ⟨_, e15, rfl⟩ := hd 15 rfl
    by_cases hG : ((r18 && (decide (r22 = r14))) && (!(decide (r26 = r14)))) = true
    · have hC := hG
      refine o_loadN (j := 2) (vs := [.int .u32 a0.1, .int .u64 a0.2]) rfl (wants_of rfl e15 hG) rfl z_agg50 ((hout 3 rfl).trans rfl) rfl rfl ?_
      exact st_addNil (hk _ _ (Sto.Le.refl _) ⟨fun _ => rfl, fun hn => absurd hC hn⟩)
    · refine st_pass rfl rfl rfl e15 (beq_off hG) rfl ?_
      exact st_addNil (hk _ _ (Sto.Le.refl _) ⟨fun h => absurd h hG, fun _ => rfl⟩)
  · intro ρ' τ pool rs hl hd hout hk
    obtain ⟨_, e15, rfl⟩ := hd 15 rfl
    by_cases hG : ((r18 && (decide (r22 = r14))) && (!(decide (r26 = r14)))) = true
    · have hC := hG
      refine o_loadN (j := 1) (vs := [.int .u32 a1.1, .int .u64 a1.2]) rfl (wants_of rfl e15 hG) rfl z_agg50 ((hout 4 rfl).trans rfl) rfl rfl ?_
      exact st_addNil (hk _ _ (Sto.Le.refl _) ⟨fun _ => rfl, fun hn => absurd hC hn⟩)
    · refine st_pass rfl rfl rfl e15 (beq_off hG) rfl ?_
      exact st_addNil (hk _ _ (Sto.Le.refl _) ⟨fun h => absurd h hG, fun _ => rfl⟩)
  · intro ρ' τ pool rs hl hd hout hk
    obtain ⟨_, e15, rfl⟩ := hd 15 rfl
    obtain ⟨w16, e16, t16⟩ := hd 16 rfl
    obtain ⟨w17, e17, t17⟩ := hd 17 rfl
    by_cases hG : ((r18 && (decide (r22 = r14))) && (!(decide (r26 = r14)))) = true
    · have hC := hG
      replace hr31 := hr31 hC
      obtain ⟨rfl⟩ := t16.1 hC
      obtain ⟨rfl⟩ := t17.1 hC
      refine st_call (foot := []) rfl (wants_of rfl e15 hG) rfl rfl (evs_cons e16 (evs_cons e17 rfl)) rfl (callV_fn z_en28 (ack_Newer_ok hr31 τ)) ?_
      rintro vτ32 τ32 gsτ32 hl33 ⟨rfl, rfl⟩
      exact st_addNil (hk _ _ hl33 ⟨fun _ => rfl, fun hn => absurd hC hn⟩)
    · refine st_pass rfl rfl rfl e15 (beq_off hG) rfl ?_
      exact st_addNil (hk _ _ (Sto.Le.refl _) ⟨fun h => absurd h hG, fun _ => rfl⟩)
  · intro ρ' τ pool rs hl hd hout hk
    obtain ⟨_, e15, rfl⟩ := hd 15 rfl
    by_cases hG : ((r18 && (decide (r22 = r14))) && (!(decide (r26 = r14)))) = true
    · have hC := hG
      refine o_loadN (j := 2) (vs := [.int .u32 a0.1, .int .u64 a0.2]) rfl (wants_of rfl e15 hG) rfl z_agg50 ((hout 3 rfl).trans rfl) rfl rfl ?_
      exact st_addNil (hk _ _ (Sto.Le.refl _) ⟨fun _ => rfl, fun hn => absurd hC hn⟩)
    · refine st_pass rfl rfl rfl e15 (beq_off hG) rfl ?_
      exact st_addNil (hk _ _ (Sto.Le.refl _) ⟨fun h => absurd h hG, fun _ => rfl⟩)
  · intro ρ' τ pool rs hl hd hout hk
    obtain ⟨_, e15, rfl⟩ := hd 15 rfl
    by_cases hG : ((r18 && (decide (r22 = r14))) && (!(decide (r26 = r14)))) = true
    · have hC := hG
      refine o_loadN (j := 1) (vs := [.int .u32 a1.1, .int .u64 a1.2]) rfl (wants_of rfl e15 hG) rfl z_agg50 ((hout 4 rfl).trans rfl) rfl rfl ?_
      exact st_addNil (hk _ _ (Sto.Le.refl _) ⟨fun _ => rfl, fun hn => absurd hC hn⟩)
    · refine st_pass rfl rfl rfl e15 (beq_off hG) rfl ?_
      exact st_addNil (hk _ _ (Sto.Le.refl _) ⟨fun h => absurd h hG, fun _ => rfl⟩)
  · intro ρ' τ pool rs hl hd hout hk
    obtain ⟨_, e15, rfl⟩ := hd 15 rfl
    obtain ⟨w19, e19, t19⟩ := hd 19 rfl
    obtain ⟨w20, e20, t20⟩ := hd 20 rfl
    by_cases hG : ((r18 && (decide (r22 = r14))) && (!(decide (r26 = r14)))) = true
    · have hC := hG
      replace hr35 := hr35 hC
      obtain ⟨rfl⟩ := t19.1 hC
      obtain ⟨rfl⟩ := t20.1 hC
      refine st_call (foot := []) rfl (wants_of rfl e15 hG) rfl rfl (evs_cons e19 (evs_cons e20 rfl)) rfl (callV_fn z_en29 (ref32_Newer_ok hr35 τ)) ?_
      rintro vτ36 τ36 gsτ36 hl37 ⟨rfl, rfl⟩
      exact st_addNil (hk _ _ hl37 ⟨fun _ => rfl, fun hn => absurd hC hn⟩)
    · refine st_pass rfl rfl rfl e15 (beq_off hG) rfl ?_
      exact st_addNil (hk _ _ (Sto.Le.refl _) ⟨fun h => absurd h hG, fun _ => rfl⟩)
  · intro ρ' τ pool rs hl hd hout hk
    obtain ⟨_, e15, rfl⟩ := hd 15 rfl
    obtain ⟨w18, e18, t18⟩ := hd 18 rfl
    obtain ⟨w21, e21, t21⟩ := hd 21 rfl
    by_cases hG : ((r18 && (decide (r22 = r14))) && (!(decide (r26 = r14)))) = true
    · have hC := hG
      obtain ⟨rfl⟩ := t21.1 hC
      obtain ⟨rfl⟩ := t18.1 hC
      refine o_beq (e := (decide (r30 = r34))) rfl (wants_of rfl e15 hG) rfl Tryd.underlying4 e18 e21 rfl ?_
      exact st_addNil (hk _ _ (Sto.Le.refl _) ⟨fun _ => rfl, fun hn => absurd hC hn⟩)
    · refine st_pass rfl rfl rfl e15 (beq_off hG) rfl ?_
      exact st_addNil (hk _ _ (Sto.Le.refl _) ⟨fun h => absurd h hG, fun _ => rfl⟩)
  · intro ρ' τ pool rs hl hd hout hk
    obtain ⟨_, e15, rfl⟩ := hd 15 rfl
    obtain ⟨w22, e22, t22⟩ := hd 22 rfl
    refine o_pickAnd rfl rfl rfl e15 (fun hp => e22.trans (congrArg some (Eq.symm (t22.1 hp)))) rfl ?_
    exact st_addNil (hk _ _ (Sto.Le.refl _) rfl)
  · intro ρ' τ pool rs hl hd hout hk
    obtain ⟨_, e23, rfl⟩ := hd 23 rfl
    refine o_move rfl rfl rfl e23 ?_
    exact st_addNil (hk _ _ (Sto.Le.refl _) rfl)
  · intro ρ' τ pool rs hl hd hout hk
    obtain ⟨_, e24, rfl⟩ := hd 24 rfl
    by_cases hG : (((r18 && (decide (r22 = r14))) && (!(decide (r26 = r14)))) && (decide (r30 = r34))) = true
    · have hC := hG
      refine o_loadN (j := 2) (vs := [.int .u32 a0.1, .int .u64 a0.2]) rfl (wants_of rfl e24 hG) rfl z_agg50 ((hout 3 rfl).trans rfl) rfl rfl ?_
      exact st_addNil (hk _ _ (Sto.Le.refl _) ⟨fun _ => rfl, fun hn => absurd hC hn⟩)
    · refine st_pass rfl rfl rfl e24 (beq_off hG) rfl ?_
      exact st_addNil (hk _ _ (Sto.Le.refl _) ⟨fun h => absurd h hG, fun _ => rfl⟩)
  · intro ρ' τ pool rs hl hd hout hk
    obtain ⟨_, e24, rfl⟩ := hd 24 rfl
    by_cases hG : (((r18 && (decide (r22 = r14))) && (!(decide (r26 = r14)))) && (decide (r30 = r34))) = true
    · have hC := hG
      refine o_loadN (j := 2) (vs := [.int .u32 a0.1, .int .u64 a0.2]) rfl (wants_of rfl e24 hG) rfl z_agg50 ((hout 3 rfl).trans rfl) rfl rfl ?_
      exact st_addNil (hk _ _ (Sto.Le.refl _) ⟨fun _ => rfl, fun hn => absurd hC hn⟩)
    · refine st_pass rfl rfl rfl e24 (beq_off hG) rfl ?_
      exact st_addNil (hk _ _ (Sto.Le.refl _) ⟨fun h => absurd h hG, fun _ => rfl⟩)
  · intro ρ' τ pool rs hl hd hout hk
    obtain ⟨_, e24, rfl⟩ := hd 24 rfl
    obtain ⟨w25, e25, t25⟩ := hd 25 rfl
    obtain ⟨w26, e26, t26⟩ := hd 26 rfl
    by_cases hG : (((r18 && (decide (r22 = r14))) && (!(decide (r26 = r14)))) && (decide (r30 = r34))) = true
    · have hC := hG
      replace hr39 := hr39 hC
      obtain ⟨rfl⟩ := t25.1 hC
      obtain ⟨rfl⟩ := t26.1 hC
      refine st_call (foot := []) rfl (wants_of rfl e24 hG) rfl rfl (evs_cons e25 (evs_cons e26 rfl)) rfl (callV_fn z_en28 (ack_Newer_ok hr39 τ)) ?_
      rintro vτ40 τ40 gsτ40 hl41 ⟨rfl, rfl⟩
      exact st_addNil (hk _ _ hl41 ⟨fun _ => rfl, fun hn => absurd hC hn⟩)
    · refine st_pass rfl rfl rfl e24 (beq_off hG) rfl ?_
      exact st_addNil (hk _ _ (Sto.Le.refl _) ⟨fun h => absurd h hG, fun _ => rfl⟩)
  · intro ρ' τ pool rs hl hd hout hk
    obtain ⟨_, e24, rfl⟩ := hd 24 rfl
    obtain ⟨w27, e27, t27⟩ := hd 27 rfl
    by_cases hG : (((r18 && (decide (r22 = r14))) && (!(decide (r26 = r14)))) && (decide (r30 = r34))) = true
    · have hC := hG
      obtain ⟨rfl⟩ := t27.1 hC
      refine o_not rfl (wants_of rfl e24 hG) rfl e27 ?_
      exact st_addNil (hk _ _ (Sto.Le.refl _) ⟨fun _ => rfl, fun hn => absurd hC hn⟩)
    · refine st_pass rfl rfl rfl e24 (beq_off hG) rfl ?_
      exact st_addNil (hk _ _ (Sto.Le.refl _) ⟨fun h => absurd h hG, fun _ => rfl⟩)
  · intro ρ' τ pool rs hl hd hout hk
    obtain ⟨_, e24, rfl⟩ := hd 24 rfl
    obtain ⟨w28, e28, t28⟩ := hd 28 rfl
    refine o_pickAnd rfl rfl rfl e24 (fun hp => e28.trans (congrArg some (Eq.symm (t28.1 hp)))) rfl ?_
    exact st_addNil (hk _ _ (Sto.Le.refl _) rfl)
  · intro ρ' τ pool rs hl hd hout hk
    obtain ⟨_, e29, rfl⟩ := hd 29 rfl
    refine o_move rfl rfl rfl e29 ?_
    exact st_addNil (hk _ _ (Sto.Le.refl _) rfl)
  · intro ρ' τ pool rs hl hd hout hk
    obtain ⟨_, e30, rfl⟩ := hd 30 rfl
    by_cases hG : ((((r18 && (decide (r22 = r14))) && (!(decide (r26 = r14)))) && (decide (r30 = r34))) && (!r38)) = true
    · have hC := hG
      refine o_move rfl (wants_of rfl e30 hG) rfl ((hout 7 rfl).trans rfl) ?_
      exact st_addNil (hk _ _ (Sto.Le.refl _) ⟨fun _ => rfl, fun hn => absurd hC hn⟩)
    · refine st_pass rfl rfl rfl e30 (beq_off hG) rfl ?_
      exact st_addNil (hk _ _ (Sto.Le.refl _) ⟨fun h => absurd h hG, fun _ => rfl⟩)
  · intro ρ' τ pool rs hl hd hout hk
    obtain ⟨_, e30, rfl⟩ := hd 30 rfl
    by_cases hG : ((((r18 && (decide (r22 = r14))) && (!(decide (r26 = r14)))) && (decide (r30 = r34))) && (!r38)) = true
    · have hC := hG
      refine o_loadN (j := 2) (vs := [.int .u32 a0.1, .int .u64 a0.2]) rfl (wants_of rfl e30 hG) rfl z_agg50 ((hout 3 rfl).trans rfl) rfl rfl ?_
      exact st_addNil (hk _ _ (Sto.Le.refl _) ⟨fun _ => rfl, fun hn => absurd hC hn⟩)
    · refine st_pass rfl rfl rfl e30 (beq_off hG) rfl ?_
      exact st_addNil (hk _ _ (Sto.Le.refl _) ⟨fun h => absurd h hG, fun _ => rfl⟩)
  · intro ρ' τ pool rs hl hd hout hk
    obtain ⟨_, e30, rfl⟩ := hd 30 rfl
    obtain ⟨w32, e32, t32⟩ := hd 32 rfl
    by_cases hG : ((((r18 && (decide (r22 = r14))) && (!(decide (r26 = r14)))) && (decide (r30 = r34))) && (!r38)) = true
    · have hC := hG
      replace hr43 := hr43 hC
      obtain ⟨rfl⟩ := t32.1 hC
      refine st_call (foot := []) rfl (wants_of rfl e30 hG) rfl rfl (evs_cons e32 rfl) rfl (callV_fn z_en30 (ref32_Bytes_ok hr43 τ)) ?_
      rintro vτ44 τ44 gsτ44 hl45 ⟨v46, rfl, rfl, hs47⟩
      exact st_addNil (hk _ _ hl45 ⟨fun _ => ⟨v46, rfl, hs47⟩, fun hn => absurd hC hn⟩)
    · refine st_pass rfl rfl rfl e30 (beq_off hG) rfl ?_
      exact st_addNil (hk _ _ (Sto.Le.refl _) ⟨fun h => absurd h hG, fun _ => rfl⟩)
  · intro ρ' τ pool rs hl hd hout hk
    obtain ⟨_, e30, rfl⟩ := hd 30 rfl
    obtain ⟨w31, e31, t31⟩ := hd 31 rfl
    obtain ⟨w33, e33, t33⟩ := hd 33 rfl
    by_cases hG : ((((r18 && (decide (r22 = r14))) && (!(decide (r26 = r14)))) && (decide (r30 = r34))) && (!r38)) = true
    · have hC := hG
      replace hr49 := hr49 hC
      obtain ⟨rfl⟩ := t31.1 hC
      obtain ⟨v46, rfl, hs47⟩ := t33.1 hC
      refine st_call (foot := []) rfl (wants_of rfl e30 hG) rfl rfl (evs_cons e31 (evs_cons e33 rfl)) rfl (callV_fn z_en15 (ref01_Same_ok hr49 τ (hs8.up ((hl12.trans hl17).trans hl)) hs47)) ?_
      rintro vτ50 τ50 gsτ50 hl51 ⟨rfl, rfl⟩
      exact st_addNil (hk _ _ hl51 ⟨fun _ => rfl, fun hn => absurd hC hn⟩)
    · refine st_pass rfl rfl rfl e30 (beq_off hG) rfl ?_
      exact st_addNil (hk _ _ (Sto.Le.refl _) ⟨fun h => absurd h hG, fun _ => rfl⟩)
  · intro ρ' τ pool rs hl hd hout hk
    obtain ⟨_, e30, rfl⟩ := hd 30 rfl
    obtain ⟨w34, e34, t34⟩ := hd 34 rfl
    refine o_pickAnd rfl rfl rfl e30 (fun hp => e34.trans (congrArg some (Eq.symm (t34.1 hp)))) rfl ?_
    exact st_addNil (hk _ _ (Sto.Le.refl _) rfl)
  · intro ρ' τ pool rs hl hd hout hk
    obtain ⟨_, e35, rfl⟩ := hd 35 rfl
    refine o_move rfl rfl rfl e35 ?_
    exact st_addNil (hk _ _ (Sto.Le.refl _) rfl)
  · intro ρ' τ pool rs hl hd hout hk
    obtain ⟨_, e36, rfl⟩ := hd 36 rfl
    by_cases hG : (((((r18 && (decide (r22 = r14))) && (!(decide (r26 = r14)))) && (decide (r30 = r34))) && (!r38)) && r48) = true
    · have hC := hG
      refine o_loadN (j := 0) (vs := [.int .u32 r9.1.1, .int .u64 r9.1.2]) rfl (wants_of rfl e36 hG) rfl z_agg50 ((hout 8 rfl).trans rfl) rfl rfl ?_
      exact st_addNil (hk _ _ (Sto.Le.refl _) ⟨fun _ => rfl, fun hn => absurd hC hn⟩)
    · refine st_pass rfl rfl rfl e36 (beq_off hG) rfl ?_
      exact st_addNil (hk _ _ (Sto.Le.refl _) ⟨fun h => absurd h hG, fun _ => rfl⟩)
  · intro ρ' τ pool rs hl hd hout hk
    obtain ⟨_, e36, rfl⟩ := hd 36 rfl
    by_cases hG : (((((r18 && (decide (r22 = r14))) && (!(decide (r26 = r14)))) && (decide (r30 = r34))) && (!r38)) && r48) = true
    · have hC := hG
      refine o_loadN (j := 2) (vs := [.int .u32 a0.1, .int .u64 a0.2]) rfl (wants_of rfl e36 hG) rfl z_agg50 ((hout 3 rfl).trans rfl) rfl rfl ?_
      exact st_addNil (hk _ _ (Sto.Le.refl _) ⟨fun _ => rfl, fun hn => absurd hC hn⟩)
    · refine st_pass rfl rfl rfl e36 (beq_off hG) rfl ?_
      exact st_addNil (hk _ _ (Sto.Le.refl _) ⟨fun h => absurd h hG, fun _ => rfl⟩)
  · intro ρ' τ pool rs hl hd hout hk
    obtain ⟨_, e36, rfl⟩ := hd 36 rfl
    obtain ⟨w37, e37, t37⟩ := hd 37 rfl
    obtain ⟨w38, e38, t38⟩ := hd 38 rfl
    by_cases hG : (((((r18 && (decide (r22 = r14))) && (!(decide (r26 = r14)))) && (decide (r30 = r34))) && (!r38)) && r48) = true
    · have hC := hG
      obtain ⟨rfl⟩ := t37.1 hC
      obtain ⟨rfl⟩ := t38.1 hC
      refine o_aggEq (b := ((decide (r9.1.1 = a0.1)) && ((decide (r9.1.2 = a0.2)) && true))) (e := ((decide (r9.1.1 = a0.1)) && ((decide (r9.1.2 = a0.2)) && true))) rfl (wants_of rfl e36 hG) rfl z_eqg50 e37 e38 (fun w => by refine eq_struct Tryd.underlying50 z_held50 ?_; refine eqf_cons (r := (decide (r9.1.1 = a0.1))) (r' := ((decide (r9.1.2 = a0.2)) && true)) rfl (part_one z_sc22 rfl) (part_one z_sc22 rfl) (by exact eq_int Tryd.underlying22 _ _) ?_; refine eqf_cons (r := (decide (r9.1.2 = a0.2))) (r' := true) rfl (part_one z_sc48 rfl) (part_one z_sc48 rfl) (by exact eq_int Tryd.underlying48 _ _) ?_; exact eqf_nil _ _ _ _) rfl ?_
      exact st_addNil (hk _ _ (Sto.Le.refl _) ⟨fun _ => rfl, fun hn => absurd hC hn⟩)
    · refine st_pass rfl rfl rfl e36 (beq_off hG) rfl ?_
      exact st_addNil (hk _ _ (Sto.Le.refl _) ⟨fun h => absurd h hG, fun _ => rfl⟩)
  · intro ρ' τ pool rs hl hd hout hk
    obtain ⟨_, e36, rfl⟩ := hd 36 rfl
    obtain ⟨w39, e39, t39⟩ := hd 39 rfl
    refine o_pickAnd rfl rfl rfl e36 (fun hp => e39.trans (congrArg some (Eq.symm (t39.1 hp)))) rfl ?_
    exact st_addNil (hk _ _ (Sto.Le.refl _) rfl)
  · intro ρ' τ pool rs hl hd hout hk
    obtain ⟨_, e40, rfl⟩ := hd 40 rfl
    refine o_move rfl rfl rfl e40 ?_
    exact st_addNil (hk _ _ (Sto.Le.refl _) rfl)
  · intro ρ' τ pool rs hl hd hout hk
    obtain ⟨_, e41, rfl⟩ := hd 41 rfl
    by_cases hG : ((((((r18 && (decide (r22 = r14))) && (!(decide (r26 = r14)))) && (decide (r30 = r34))) && (!r38)) && r48) && ((decide (r9.1.1 = a0.1)) && ((decide (r9.1.2 = a0.2)) && true))) = true
    · have hC := hG
      refine o_move rfl (wants_of rfl e41 hG) rfl ((hout 9 rfl).trans rfl) ?_
      exact st_addNil (hk _ _ (Sto.Le.refl _) ⟨fun _ => rfl, fun hn => absurd hC hn⟩)
    · refine st_pass rfl rfl rfl e41 (beq_off hG) rfl ?_
      exact st_addNil (hk _ _ (Sto.Le.refl _) ⟨fun h => absurd h hG, fun _ => rfl⟩)
  · intro ρ' τ pool rs hl hd hout hk
    obtain ⟨_, e41, rfl⟩ := hd 41 rfl
    obtain ⟨w42, e42, t42⟩ := hd 42 rfl
    by_cases hG : ((((((r18 && (decide (r22 = r14))) && (!(decide (r26 = r14)))) && (decide (r30 = r34))) && (!r38)) && r48) && ((decide (r9.1.1 = a0.1)) && ((decide (r9.1.2 = a0.2)) && true))) = true
    · have hC := hG
      obtain ⟨rfl⟩ := t42.1 hC
      refine o_ibin (v := .bool (decide (r9.2 = 0))) rfl (wants_of rfl e41 hG) rfl e42 rfl rfl ?_
      exact st_addNil (hk _ _ (Sto.Le.refl _) ⟨fun _ => rfl, fun hn => absurd hC hn⟩)
    · refine st_pass rfl rfl rfl e41 (beq_off hG) rfl ?_
      exact st_addNil (hk _ _ (Sto.Le.refl _) ⟨fun h => absurd h hG, fun _ => rfl⟩)
  · intro ρ' τ pool rs hl hd hout hk
    obtain ⟨_, e41, rfl⟩ := hd 41 rfl
    obtain ⟨w43, e43, t43⟩ := hd 43 rfl
    refine o_pickAnd rfl rfl rfl e41 (fun hp => e43.trans (congrArg some (Eq.symm (t43.1 hp)))) rfl ?_
    exact st_addNil (hk _ _ (Sto.Le.refl _) rfl)
  · intro ρ' τ pool rs hl hd hout hk
    obtain ⟨_, e44, rfl⟩ := hd 44 rfl
    refine o_move rfl rfl rfl e44 ?_
    exact st_addNil (hk _ _ (Sto.Le.refl _) rfl)
  · intro ρ' τ pool rs hl hd hout hk
    obtain ⟨_, e45, rfl⟩ := hd 45 rfl
    by_cases hG : (((((((r18 && (decide (r22 = r14))) && (!(decide (r26 = r14)))) && (decide (r30 = r34))) && (!r38)) && r48) && ((decide (r9.1.1 = a0.1)) && ((decide (r9.1.2 = a0.2)) && true))) && (decide (r9.2 = 0))) = true
    · have hC := hG
      refine o_loadN (j := 2) (vs := [.int .u32 a0.1, .int .u64 a0.2]) rfl (wants_of rfl e45 hG) rfl z_agg50 ((hout 3 rfl).trans rfl) rfl rfl ?_
      exact st_addNil (hk _ _ (Sto.Le.refl _) ⟨fun _ => rfl, fun hn => absurd hC hn⟩)
    · refine st_pass rfl rfl rfl e45 (beq_off hG) rfl ?_
      exact st_addNil (hk _ _ (Sto.Le.refl _) ⟨fun h => absurd h hG, fun _ => rfl⟩)
  · intro ρ' τ pool rs hl hd hout hk
    obtain ⟨_, e45, rfl⟩ := hd 45 rfl
    obtain ⟨w46, e46, t46⟩ := hd 46 rfl
    by_cases hG : (((((((r18 && (decide (r22 = r14))) && (!(decide (r26 = r14)))) && (decide (r30 = r34))) && (!r38)) && r48) && ((decide (r9.1.1 = a0.1)) && ((decide (r9.1.2 = a0.2)) && true))) && (decide (r9.2 = 0))) = true
    · have hC := hG
      replace hr53 := hr53 hC
      obtain ⟨rfl⟩ := t46.1 hC
      refine st_call (foot := []) rfl (wants_of rfl e45 hG) rfl rfl (evs_cons e46 rfl) rfl (callV_fn z_en31 (ack_Line_ok hr53 τ (hT.up (((hl6.trans hl12).trans hl17).trans hl)))) ?_
      rintro vτ54 τ54 gsτ54 hl55 ⟨rfl, rfl⟩
      exact st_addNil (hk _ _ hl55 ⟨fun _ => rfl, fun hn => absurd hC hn⟩)
    · refine st_pass rfl rfl rfl e45 (beq_off hG) rfl ?_
      exact st_addNil (hk _ _ (Sto.Le.refl _) ⟨fun h => absurd h hG, fun _ => rfl⟩)
  · intro ρ' τ pool rs hl hd hout hk
    obtain ⟨_, e45, rfl⟩ := hd 45 rfl
    by_cases hG : (((((((r18 && (decide (r22 = r14))) && (!(decide (r26 = r14)))) && (decide (r30 = r34))) && (!r38)) && r48) && ((decide (r9.1.1 = a0.1)) && ((decide (r9.1.2 = a0.2)) && true))) && (decide (r9.2 = 0))) = true
    · have hC := hG
      refine o_loadN (j := 2) (vs := [.int .u32 a0.1, .int .u64 a0.2]) rfl (wants_of rfl e45 hG) rfl z_agg50 ((hout 3 rfl).trans rfl) rfl rfl ?_
      exact st_addNil (hk _ _ (Sto.Le.refl _) ⟨fun _ => rfl, fun hn => absurd hC hn⟩)
    · refine st_pass rfl rfl rfl e45 (beq_off hG) rfl ?_
      exact st_addNil (hk _ _ (Sto.Le.refl _) ⟨fun h => absurd h hG, fun _ => rfl⟩)
  · intro ρ' τ pool rs hl hd hout hk
    obtain ⟨_, e45, rfl⟩ := hd 45 rfl
    obtain ⟨w48, e48, t48⟩ := hd 48 rfl
    by_cases hG : (((((((r18 && (decide (r22 = r14))) && (!(decide (r26 = r14)))) && (decide (r30 = r34))) && (!r38)) && r48) && ((decide (r9.1.1 = a0.1)) && ((decide (r9.1.2 = a0.2)) && true))) && (decide (r9.2 = 0))) = true
    · have hC := hG
      replace hr57 := hr57 hC
      obtain ⟨rfl⟩ := t48.1 hC
      refine st_call (foot := []) rfl (wants_of rfl e45 hG) rfl rfl (evs_cons e48 rfl) rfl (callV_fn z_en32 (ref32_Line_ok hr57 τ)) ?_
      rintro vτ58 τ58 gsτ58 hl59 ⟨rfl, rfl⟩
      exact st_addNil (hk _ _ hl59 ⟨fun _ => rfl, fun hn => absurd hC hn⟩)
    · refine st_pass rfl rfl rfl e45 (beq_off hG) rfl ?_
      exact st_addNil (hk _ _ (Sto.Le.refl _) ⟨fun h => absurd h hG, fun _ => rfl⟩)
  · intro ρ' τ pool rs hl hd hout hk
    obtain ⟨_, e45, rfl⟩ := hd 45 rfl
    obtain ⟨w47, e47, t47⟩ := hd 47 rfl
    obtain ⟨w49, e49, t49⟩ := hd 49 rfl
    by_cases hG : (((((((r18 && (decide (r22 = r14))) && (!(decide (r26 = r14)))) && (decide (r30 = r34))) && (!r38)) && r48) && ((decide (r9.1.1 = a0.1)) && ((decide (r9.1.2 = a0.2)) && true))) && (decide (r9.2 = 0))) = true
    · have hC := hG
      obtain ⟨rfl⟩ := t47.1 hC
      obtain ⟨rfl⟩ := t49.1 hC
      refine o_sbin (v := .bool (decide (r52 = r56))) rfl (wants_of rfl e45 hG) rfl e47 e49 rfl ?_
      exact st_addNil (hk _ _ (Sto.Le.refl _) ⟨fun _ => rfl, fun hn => absurd hC hn⟩)
    · refine st_pass rfl rfl rfl e45 (beq_off hG) rfl ?_
      exact st_addNil (hk _ _ (Sto.Le.refl _) ⟨fun h => absurd h hG, fun _ => rfl⟩)
  · intro ρ' τ pool rs hl hd hout hk
    obtain ⟨_, e45, rfl⟩ := hd 45 rfl
    obtain ⟨w50, e50, t50⟩ := hd 50 rfl
    refine o_pickAnd rfl rfl rfl e45 (fun hp => e50.trans (congrArg some (Eq.symm (t50.1 hp)))) rfl ?_
    exact st_addNil (hk _ _ (Sto.Le.refl _) rfl)
  intro ρ' τ60 vals hl60 hv hout
  have l51 : Eng.look ρ' 72 = some (.bool ((((((((r18 && (decide (r22 = r14))) && (!(decide (r26 = r14)))) && (decide (r30 = r34))) && (!r38)) && r48) && ((decide (r9.1.1 = a0.1)) && ((decide (r9.1.2 = a0.2)) && true))) && (decide (r9.2 = 0))) && (decide (r52 = r56)))) := (hv 51 (by decide)).1.trans (congrArg some (show vals 51 = .bool ((((((((r18 && (decide (r22 = r14))) && (!(decide (r26 = r14)))) && (decide (r30 = r34))) && (!r38)) && r48) && ((decide (r9.1.1 = a0.1)) && ((decide (r9.1.2 = a0.2)) && true))) && (decide (r9.2 = 0))) && (decide (r52 = r56))) from Eq.symm (hv 51 (by decide)).2))
  refine st_ord [0, 0, 0] [[(b13, .cells [.int .u32 r9.1.1, .int .u64 r9.1.2].toArray 50 (0, 0))], [(b2, .cells [.int .u32 a1.1, .int .u64 a1.2].toArray 50 (0, 0))], [(b1, .cells [.int .u32 a0.1, .int .u64 a0.2].toArray 50 (0, 0))]] rfl ?_
  refine st_env (ρ' := [(72, .bool ((((((((r18 && (decide (r22 = r14))) && (!(decide (r26 = r14)))) && (decide (r30 = r34))) && (!r38)) && r48) && ((decide (r9.1.1 = a0.1)) && ((decide (r9.1.2 = a0.2)) && true))) && (decide (r9.2 = 0))) && (decide (r52 = r56)))), (6, .bool false)]) ⟨l51, (hout 6 rfl).trans rfl, trivial⟩ ?_
  refine o_assign rfl rfl rfl rfl ?_
  refine st_end ?_
  refine st_ord [] [] rfl ?_
  obtain rfl := Eq.symm h
  exact st_ret (gs' := []) Tryd.func7 rfl (List.Sublist.refl _) (((hl6.trans hl12).trans hl17).trans hl60) ⟨rfl, rfl⟩
end Go.Rel
