import Derived.Test.YtlamkclnkbnedaaTRel
import Derived.Test.YtlamkclnkbnedaaTFacts
/-! The walks. -/
set_option linter.unusedVariables false
set_option linter.unusedSimpArgs false
set_option maxRecDepth 4000
namespace Go.Rel
open Go Go.Eng Go.Proofs
theorem serial_Add_ok {a0 : Int} {a1 : Int} {r : Int} (h : serial_Add a0 a1 r) (σ : Sto)  :
    Does Try.prog 43 [.int .u32 a0, .int .i64 a1] σ [] (fun v τ gs => gs = [] ∧ v = .int .u32 r) := by
  refine call_of Try.func43 Try.ntmps43 rfl rfl (fun cs fs => ?_)
  refine st_seq ?_
  refine st_region ?_
  refine o_assign rfl rfl rfl rfl ?_
  refine st_end ?_
  refine st_seq ?_
  refine st_region ?_
  refine o_move rfl rfl rfl rfl ?_
  refine o_move rfl rfl rfl rfl ?_
  refine o_conv rfl rfl rfl Try.underlying3 Try.underlying22 rfl ?_
  refine o_ibin (v := .int .u32 (IntKind.u32.wrap (a0 + (IntKind.u32.wrap a1)))) rfl rfl rfl rfl rfl rfl ?_
  refine o_assign rfl rfl rfl rfl ?_
  refine st_end ?_
  obtain rfl := h
  exact st_ret (gs' := []) Try.func43 rfl (List.Sublist.refl _) (Sto.Le.refl _) ⟨rfl, rfl⟩
theorem serial_Way_ok {a0 : Int} {a1 : Int} {r : Int} (h : serial_Way a0 a1 r) (σ : Sto)  :
    Does Try.prog 46 [.int .u32 a0, .int .u32 a1] σ [] (fun v τ gs => gs = [] ∧ v = .int .u32 r) := by
  refine call_of Try.func46 Try.ntmps46 rfl rfl (fun cs fs => ?_)
  refine st_seq ?_
  refine st_region ?_
  refine o_assign rfl rfl rfl rfl ?_
  refine st_end ?_
  refine st_seq ?_
  refine st_region ?_
  refine o_move rfl rfl rfl rfl ?_
  refine o_move rfl rfl rfl rfl ?_
  refine o_ibin (v := .int .u32 (IntKind.u32.wrap (a1 - a0))) rfl rfl rfl rfl rfl rfl ?_
  refine o_assign rfl rfl rfl rfl ?_
  refine st_end ?_
  obtain rfl := h
  exact st_ret (gs' := []) Try.func46 rfl (List.Sublist.refl _) (Sto.Le.refl _) ⟨rfl, rfl⟩
theorem serial_Diff_ok {a0 : Int} {a1 : Int} {r : Int} (h : serial_Diff a0 a1 r) (σ : Sto)  :
    Does Try.prog 73 [.int .u32 a0, .int .u32 a1] σ [] (fun v τ gs => gs = [] ∧ v = .int .i64 r) := by
  refine call_of Try.func73 Try.ntmps73 rfl rfl (fun cs fs => ?_)
  refine st_seq ?_
  refine st_region ?_
  refine o_assign rfl rfl rfl rfl ?_
  refine st_end ?_
  refine st_seq ?_
  refine st_region ?_
  refine o_move rfl rfl rfl rfl ?_
  refine o_move rfl rfl rfl rfl ?_
  refine o_ibin (v := .int .u32 (IntKind.u32.wrap (a0 - a1))) rfl rfl rfl rfl rfl rfl ?_
  refine o_conv rfl rfl rfl Try.underlying22 Try.underlying21 rfl ?_
  refine o_conv rfl rfl rfl Try.underlying21 Try.underlying3 rfl ?_
  refine o_assign rfl rfl rfl rfl ?_
  refine st_end ?_
  obtain rfl := h
  exact st_ret (gs' := []) Try.func73 rfl (List.Sublist.refl _) (Sto.Le.refl _) ⟨rfl, rfl⟩
theorem serial_After_ok {a0 : Int} {a1 : Int} {r : Bool} (h : serial_After a0 a1 r) (σ : Sto)  :
    Does Try.prog 47 [.int .u32 a0, .int .u32 a1] σ [] (fun v τ gs => gs = [] ∧ v = .bool r) := by
  refine call_of Try.func47 Try.ntmps47 rfl rfl (fun cs fs => ?_)
  refine st_seq ?_
  refine st_region ?_
  refine o_assign rfl rfl rfl rfl ?_
  refine st_end ?_
  refine st_seq ?_
  refine st_region ?_
  refine o_move rfl rfl rfl rfl ?_
  refine o_move rfl rfl rfl rfl ?_
  obtain ⟨r1, hr2, h⟩ := h
  refine st_call (foot := []) rfl rfl rfl rfl rfl rfl (callV_fn z_en73 (serial_Diff_ok hr2 σ)) ?_
  rintro vτ3 τ3 gsτ3 hl4 ⟨rfl, rfl⟩
  refine o_ibin (v := .bool (decide (0 < r1))) rfl rfl rfl rfl rfl rfl ?_
  refine o_assign rfl rfl rfl rfl ?_
  refine st_end ?_
  obtain rfl := h
  exact st_ret (gs' := []) Try.func47 rfl (List.Sublist.refl _) hl4 ⟨rfl, rfl⟩
theorem ack_Lacks_ok {a0 : Int × Int} {a1 : Int} {r : Bool} (h : ack_Lacks a0 a1 r) (σ : Sto)  :
    Does Try.prog 16 [.agg [.int .u32 a0.1, .int .u64 a0.2].toArray, .int .u32 a1] σ [] (fun v τ gs => gs = [] ∧ v = .bool r) := by
  refine call_of Try.func16 Try.ntmps16 rfl rfl (fun cs fs => ?_)
  refine st_seq ?_
  refine st_region ?_
  refine o_box (cs := [.int .u32 a0.1, .int .u64 a0.2]) rfl rfl rfl rfl rfl (fun b1 => ?_)
  refine o_assign rfl rfl rfl rfl ?_
  refine st_end ?_
  refine st_seq ?_
  refine st_seq ?_
  refine st_region ?_
  refine o_move rfl rfl rfl rfl ?_
  refine o_fieldAddr rfl rfl rfl z_field25_0 rfl ?_
  refine o_load (j := 0) (v := .int .u32 a0.1) rfl rfl rfl z_sc22 rfl rfl rfl ?_
  obtain ⟨r2, hr3, h⟩ := h
  refine st_call (foot := []) rfl rfl rfl rfl rfl rfl (callV_fn z_en46 (serial_Way_ok hr3 σ)) ?_
  rintro vτ4 τ4 gsτ4 hl5 ⟨rfl, rfl⟩
  refine o_assign rfl rfl rfl rfl ?_
  refine st_end ?_
  refine st_seq ?_
  refine st_region ?_
  refine o_move rfl rfl rfl rfl ?_
  refine o_ibin (v := .bool (decide (r2 < 64))) rfl rfl rfl rfl rfl rfl ?_
  refine st_end ?_
  refine st_cond rfl (fun hc => ?_) (fun hc => ?_)
  · replace h := (if_pos hc).mp h
    refine st_seq ?_
    refine st_region ?_
    refine o_fieldAddr rfl rfl rfl z_field25_1 rfl ?_
    refine o_load (j := 0) (v := .int .u64 a0.2) rfl rfl rfl z_sc23 rfl rfl rfl ?_
    refine o_move rfl rfl rfl rfl ?_
    obtain ⟨hf6, h⟩ := h
    refine o_shr rfl rfl rfl rfl rfl hf6 ?_
    refine o_ibin (v := .int .u64 (iand .u64 (ishr .u64 a0.2 r2) 1)) rfl rfl rfl rfl rfl rfl ?_
    refine o_ibin (v := .bool (decide ((iand .u64 (ishr .u64 a0.2 r2) 1) = 0))) rfl rfl rfl rfl rfl rfl ?_
    refine o_assign rfl rfl rfl rfl ?_
    refine st_end ?_
    refine st_ord [] [] rfl ?_
    obtain rfl := h
    exact st_ret (gs' := []) Try.func16 rfl (List.Sublist.refl _) hl5 ⟨rfl, rfl⟩
  · replace h := (if_neg (ne_t hc)).mp h
    refine st_skip ?_
    refine st_seq ?_
    refine st_region ?_
    refine o_move rfl rfl rfl rfl ?_
    refine o_fieldAddr rfl rfl rfl z_field25_0 rfl ?_
    refine o_load (j := 0) (v := .int .u32 a0.1) rfl rfl rfl z_sc22 rfl rfl rfl ?_
    obtain ⟨r7, hr8, h⟩ := h
    refine st_call (foot := []) rfl rfl rfl rfl rfl rfl (callV_fn z_en47 (serial_After_ok hr8 τ4)) ?_
    rintro vτ9 τ9 gsτ9 hl10 ⟨rfl, rfl⟩
    refine o_assign rfl rfl rfl rfl ?_
    refine st_end ?_
    refine st_ord [] [] rfl ?_
    obtain rfl := h
    exact st_ret (gs' := []) Try.func16 rfl (List.Sublist.refl _) (hl5.trans hl10) ⟨rfl, rfl⟩
theorem ack_Has_ok {a0 : Int × Int} {a1 : Int} {r : Bool} (h : ack_Has a0 a1 r) (σ : Sto)  :
    Does Try.prog 40 [.agg [.int .u32 a0.1, .int .u64 a0.2].toArray, .int .u32 a1] σ [] (fun v τ gs => gs = [] ∧ v = .bool r) := by
  refine call_of Try.func40 Try.ntmps40 rfl rfl (fun cs fs => ?_)
  refine st_seq ?_
  refine st_region ?_
  refine o_box (cs := [.int .u32 a0.1, .int .u64 a0.2]) rfl rfl rfl rfl rfl (fun b1 => ?_)
  refine o_assign rfl rfl rfl rfl ?_
  refine st_end ?_
  refine st_seq ?_
  refine st_region ?_
  refine o_loadN (j := 0) (vs := [.int .u32 a0.1, .int .u64 a0.2]) rfl rfl rfl z_agg25 rfl rfl rfl ?_
  refine o_move rfl rfl rfl rfl ?_
  obtain ⟨r2, hr3, h⟩ := h
  refine st_call (foot := []) rfl rfl rfl rfl rfl rfl (callV_fn z_en16 (ack_Lacks_ok hr3 σ)) ?_
  rintro vτ4 τ4 gsτ4 hl5 ⟨rfl, rfl⟩
  refine o_not rfl rfl rfl rfl ?_
  refine o_assign rfl rfl rfl rfl ?_
  refine st_end ?_
  refine st_ord [] [] rfl ?_
  obtain rfl := h
  exact st_ret (gs' := []) Try.func40 rfl (List.Sublist.refl _) hl5 ⟨rfl, rfl⟩
theorem window_Window_Top_ok {a0 : (Int × Int)} {ba0 : Nat} {r : Int} (h : window_Window_Top a0 r) (σ : Sto)  :
    Does Try.prog 44 [.pointer (some ⟨ba0, 0, none⟩)] σ [[(ba0, .cells [.int .u32 a0.1, .int .u64 a0.2].toArray 89 (0, 0))]] (fun v τ gs => gs = [[(ba0, .cells [.int .u32 a0.1, .int .u64 a0.2].toArray 89 (0, 0))]] ∧ v = .int .u32 r) := by
  refine call_of Try.func44 Try.ntmps44 rfl rfl (fun cs fs => ?_)
  refine st_seq ?_
  refine st_region ?_
  refine o_assign rfl rfl rfl rfl ?_
  refine st_end ?_
  refine st_seq ?_
  refine st_seq ?_
  refine st_region ?_
  refine o_move rfl rfl rfl rfl ?_
  refine o_ptrNil (b := false) rfl rfl rfl Try.underlying35 rfl rfl rfl ?_
  refine st_end ?_
  refine st_condF rfl ?_
  refine st_skip ?_
  refine st_seq ?_
  refine st_region ?_
  refine o_move rfl rfl rfl rfl ?_
  refine o_nilCheck rfl rfl rfl rfl ?_
  refine o_fieldAddr rfl rfl rfl z_field89_0 rfl ?_
  refine o_fieldAddr rfl rfl rfl z_field87_0 rfl ?_
  refine o_load (j := 0) (v := .int .u32 a0.1) rfl rfl rfl z_sc22 rfl rfl rfl ?_
  refine o_assign rfl rfl rfl rfl ?_
  refine st_end ?_
  obtain rfl := h
  exact st_ret (gs' := [[(ba0, .cells [.int .u32 a0.1, .int .u64 a0.2].toArray 89 (0, 0))]]) Try.func44 rfl (List.Sublist.refl _) (Sto.Le.refl _) ⟨rfl, rfl⟩
theorem ref10_Add_ok {a0 : Int} {a1 : Int} {r : Int} (h : ref10_Add a0 a1 r) (σ : Sto)  :
    Does Try.prog 12 [.int .u32 a0, .int .i64 a1] σ [] (fun v τ gs => gs = [] ∧ v = .int .u32 r) := by
  refine call_of Try.func12 Try.ntmps12 rfl rfl (fun cs fs => ?_)
  refine st_seq ?_
  refine st_region ?_
  refine o_assign rfl rfl rfl rfl ?_
  refine st_end ?_
  refine st_seq ?_
  refine st_region ?_
  refine o_move rfl rfl rfl rfl ?_
  refine o_rem rfl rfl rfl rfl rfl (by decide) ?_
  refine o_assign rfl rfl rfl rfl ?_
  refine st_end ?_
  refine st_seq ?_
  refine st_cut (fun ρ τ1 gs => ∃ (s1 : Int), ref10_Add_j1 a0 s1 r ∧ σ.Le τ1 ∧ ρ = [(0, .int .u32 a0), (4, .int .u32 0), (5, .int .i64 s1)] ∧ gs = []) ?_ (fun hk1 => ?_)
  · rintro ρ1 τ1 gs1 ⟨s1, h, hl1, rfl, rfl⟩
    refine st_seq ?_
    refine st_region ?_
    refine o_move rfl rfl rfl rfl ?_
    refine o_conv rfl rfl rfl Try.underlying22 Try.underlying23 rfl ?_
    refine o_move rfl rfl rfl rfl ?_
    refine o_conv rfl rfl rfl Try.underlying3 Try.underlying23 rfl ?_
    refine o_ibin (v := .int .u64 (IntKind.u64.wrap ((IntKind.u64.wrap a0) + (IntKind.u64.wrap s1)))) rfl rfl rfl rfl rfl rfl ?_
    refine o_rem rfl rfl rfl rfl rfl (by decide) ?_
    refine o_conv rfl rfl rfl Try.underlying23 Try.underlying22 rfl ?_
    refine o_assign rfl rfl rfl rfl ?_
    refine st_end ?_
    obtain rfl := h
    exact st_ret (gs' := []) Try.func12 rfl (List.Sublist.refl _) hl1 ⟨rfl, rfl⟩
  refine st_seq ?_
  refine st_region ?_
  refine o_move rfl rfl rfl rfl ?_
  refine o_ibin (v := .bool (decide ((a1.tmod 4294967296) < 0))) rfl rfl rfl rfl rfl rfl ?_
  refine st_end ?_
  refine st_cond rfl (fun hc => ?_) (fun hc => ?_)
  · replace h := (if_pos hc).mp h
    refine st_region ?_
    refine o_move rfl rfl rfl rfl ?_
    refine o_ibin (v := .int .i64 (IntKind.i64.wrap ((a1.tmod 4294967296) + 4294967296))) rfl rfl rfl rfl rfl rfl ?_
    refine o_assign rfl rfl rfl rfl ?_
    refine st_end ?_
    refine st_env (ρ' := [(0, .int .u32 a0), (4, .int .u32 0), (5, .int .i64 (IntKind.i64.wrap ((a1.tmod 4294967296) + 4294967296)))]) ⟨rfl, rfl, rfl, trivial⟩ ?_
    exact hk1 _ _ _ ⟨(IntKind.i64.wrap ((a1.tmod 4294967296) + 4294967296)), h, (Sto.Le.refl _), rfl, rfl⟩
  · replace h := (if_neg (ne_t hc)).mp h
    refine st_skip ?_
    refine st_env (ρ' := [(0, .int .u32 a0), (4, .int .u32 0), (5, .int .i64 (a1.tmod 4294967296))]) ⟨rfl, rfl, rfl, trivial⟩ ?_
    exact hk1 _ _ _ ⟨(a1.tmod 4294967296), h, (Sto.Le.refl _), rfl, rfl⟩
theorem ref10_Way_ok {a0 : Int} {a1 : Int} {r : Int} (h : ref10_Way a0 a1 r) (σ : Sto)  :
    Does Try.prog 72 [.int .u32 a0, .int .u32 a1] σ [] (fun v τ gs => gs = [] ∧ v = .int .u32 r) := by
  refine call_of Try.func72 Try.ntmps72 rfl rfl (fun cs fs => ?_)
  refine st_seq ?_
  refine st_region ?_
  refine o_assign rfl rfl rfl rfl ?_
  refine st_end ?_
  refine st_seq ?_
  refine st_region ?_
  refine o_move rfl rfl rfl rfl ?_
  refine o_conv rfl rfl rfl Try.underlying22 Try.underlying23 rfl ?_
  refine o_ibin (v := .int .u64 (IntKind.u64.wrap ((IntKind.u64.wrap a1) + 4294967296))) rfl rfl rfl rfl rfl rfl ?_
  refine o_move rfl rfl rfl rfl ?_
  refine o_conv rfl rfl rfl Try.underlying22 Try.underlying23 rfl ?_
  refine o_ibin (v := .int .u64 (IntKind.u64.wrap ((IntKind.u64.wrap ((IntKind.u64.wrap a1) + 4294967296)) - (IntKind.u64.wrap a0)))) rfl rfl rfl rfl rfl rfl ?_
  refine o_rem rfl rfl rfl rfl rfl (by decide) ?_
  refine o_conv rfl rfl rfl Try.underlying23 Try.underlying22 rfl ?_
  refine o_assign rfl rfl rfl rfl ?_
  refine st_end ?_
  obtain rfl := h
  exact st_ret (gs' := []) Try.func72 rfl (List.Sublist.refl _) (Sto.Le.refl _) ⟨rfl, rfl⟩
theorem ref10_After_ok {a0 : Int} {a1 : Int} {r : Bool} (h : ref10_After a0 a1 r) (σ : Sto)  :
    Does Try.prog 42 [.int .u32 a0, .int .u32 a1] σ [] (fun v τ gs => gs = [] ∧ v = .bool r) := by
  refine call_of Try.func42 Try.ntmps42 rfl rfl (fun cs fs => ?_)
  refine st_seq ?_
  refine st_region ?_
  refine o_assign rfl rfl rfl rfl ?_
  refine st_end ?_
  refine st_seq ?_
  refine st_cut (fun ρ τ1 gs => ∃ (s1 : Bool), ref10_After_j1 s1 r ∧ σ.Le τ1 ∧ ρ = [(4, .bool s1)] ∧ gs = []) ?_ (fun hk1 => ?_)
  · rintro ρ1 τ1 gs1 ⟨s1, h, hl1, rfl, rfl⟩
    obtain rfl := h
    exact st_ret (gs' := []) Try.func42 rfl (List.Sublist.refl _) hl1 ⟨rfl, rfl⟩
  refine st_region ?_
  refine o_move rfl rfl rfl rfl ?_
  refine o_move rfl rfl rfl rfl ?_
  obtain ⟨r2, hr3, h⟩ := h
  refine st_call (foot := []) rfl rfl rfl rfl rfl rfl (callV_fn z_en72 (ref10_Way_ok hr3 σ)) ?_
  rintro vτ4 τ4 gsτ4 hl5 ⟨rfl, rfl⟩
  refine o_ibin (v := .bool (decide (1 ≤ r2))) rfl rfl rfl rfl rfl rfl ?_
  refine o_moveB rfl rfl rfl rfl (fun hc => ?_) (fun hc => ?_)
  · replace h := (if_pos hc).mp h
    refine o_move rfl rfl rfl rfl ?_
    refine o_move rfl rfl rfl rfl ?_
    obtain ⟨r6, hr7, h⟩ := h
    refine st_call (foot := []) rfl rfl rfl rfl rfl rfl (callV_fn z_en72 (ref10_Way_ok hr7 τ4)) ?_
    rintro vτ8 τ8 gsτ8 hl9 ⟨rfl, rfl⟩
    refine o_ibin (v := .bool (decide (r6 < 2147483648))) rfl rfl rfl rfl rfl rfl ?_
    refine o_pick rfl rfl rfl rfl rfl ?_
    refine o_assign rfl rfl rfl rfl ?_
    refine st_end ?_
    refine st_env (ρ' := [(4, .bool (decide (r6 < 2147483648)))]) ⟨rfl, trivial⟩ ?_
    exact hk1 _ _ _ ⟨(decide (r6 < 2147483648)), h, (hl5.trans hl9), rfl, rfl⟩
  · replace h := (if_neg (ne_t hc)).mp h
    refine st_pass rfl rfl rfl rfl rfl rfl ?_
    refine st_pass rfl rfl rfl rfl rfl rfl ?_
    refine st_pass rfl rfl rfl rfl rfl rfl ?_
    refine st_pass rfl rfl rfl rfl rfl rfl ?_
    refine o_pick rfl rfl rfl rfl rfl ?_
    refine o_assign rfl rfl rfl rfl ?_
    refine st_end ?_
    refine st_env (ρ' := [(4, .bool false)]) ⟨rfl, trivial⟩ ?_
    exact hk1 _ _ _ ⟨false, h, hl5, rfl, rfl⟩
theorem ref32_bit_ok {a0 : Int} {a1 : Int} {r : Bool} (h : ref32_bit a0 a1 r) (σ : Sto)  :
    Does Try.prog 41 [.int .u64 a0, .int .i64 a1] σ [] (fun v τ gs => gs = [] ∧ v = .bool r) := by
  refine call_of Try.func41 Try.ntmps41 rfl rfl (fun cs fs => ?_)
  refine st_seq ?_
  refine st_region ?_
  refine o_assign rfl rfl rfl rfl ?_
  refine st_end ?_
  refine st_seq ?_
  refine st_cut (fun ρ τ1 gs => ∃ (s1 : Int), ref32_bit_j1 s1 r ∧ σ.Le τ1 ∧ ρ = [(0, .int .u64 s1), (4, .bool false)] ∧ gs = []) ?_ (fun hk1 => ?_)
  · rintro ρ1 τ1 gs1 ⟨s1, h, hl1, rfl, rfl⟩
    refine st_seq ?_
    refine st_region ?_
    refine o_move rfl rfl rfl rfl ?_
    refine o_rem rfl rfl rfl rfl rfl (by decide) ?_
    refine o_ibin (v := .bool (decide ((s1.tmod 2) = 1))) rfl rfl rfl rfl rfl rfl ?_
    refine o_assign rfl rfl rfl rfl ?_
    refine st_end ?_
    obtain rfl := h
    exact st_ret (gs' := []) Try.func41 rfl (List.Sublist.refl _) hl1 ⟨rfl, rfl⟩
  refine st_seq ?_
  refine st_region ?_
  refine o_assign rfl rfl rfl rfl ?_
  refine st_end ?_
  obtain ⟨e2, hL2, hA2⟩ := h
  refine st_env (ρ' := [(0, .int .u64 a0), (1, .int .i64 a1), (4, .bool false), (5, .int .i64 0)]) ⟨rfl, rfl, rfl, rfl, trivial⟩ ?_
  refine st_loop hL2 (fun (s2 : Int × Int) ρ τ2 gs => σ.Le τ2 ∧ ρ = [(0, .int .u64 s2.1), (1, .int .i64 a1), (4, .bool false), (5, .int .i64 s2.2)] ∧ gs = []) ⟨Sto.Le.refl _, rfl, rfl⟩ ?_
  rintro s2 o2 h he2 ρ2 τ2 gs2 ⟨hl2, rfl, rfl⟩ hn2
  refine st_seq ?_
  refine st_seq ?_
  refine st_region ?_
  refine o_move rfl rfl rfl rfl ?_
  refine o_move rfl rfl rfl rfl ?_
  refine o_ibin (v := .bool (decide (s2.2 < a1))) rfl rfl rfl rfl rfl rfl ?_
  refine st_end ?_
  refine st_cond rfl (fun hc => ?_) (fun hc => ?_)
  · replace h := (if_pos hc).mp h
    refine st_skip ?_
    refine st_seq ?_
    refine st_block ?_
    refine st_region ?_
    refine o_move rfl rfl rfl rfl ?_
    refine o_quo rfl rfl rfl rfl rfl (by decide) ?_
    refine o_assign rfl rfl rfl rfl ?_
    refine st_end ?_
    refine st_inBlock ?_
    refine st_region ?_
    refine o_move rfl rfl rfl rfl ?_
    refine o_ibin (v := .int .i64 (IntKind.i64.wrap (s2.2 + 1))) rfl rfl rfl rfl rfl rfl ?_
    refine o_assign rfl rfl rfl rfl ?_
    refine st_end ?_
    refine st_env (ρ' := [(0, .int .u64 (IntKind.u64.wrap (s2.1.tdiv 2))), (1, .int .i64 a1), (4, .bool false), (5, .int .i64 (IntKind.i64.wrap (s2.2 + 1)))]) ⟨rfl, rfl, rfl, rfl, trivial⟩ ?_
    exact hn2 _ _ _ _ h ⟨hl2, rfl, rfl⟩
  · replace h := (if_neg (ne_t hc)).mp h
    refine st_exit rfl ?_
    obtain rfl := he2 _ h
    replace h := hA2
    refine st_env (ρ' := [(0, .int .u64 s2.1), (4, .bool false)]) ⟨rfl, rfl, trivial⟩ ?_
    exact hk1 _ _ _ ⟨s2.1, h, hl2, rfl, rfl⟩
theorem ref32_Has_ok {a0 : Int × Int} {a1 : Int} {r : Bool} (h : ref32_Has a0 a1 r) (σ : Sto)  :
    Does Try.prog 11 [.agg [.int .u32 a0.1, .int .u64 a0.2].toArray, .int .u32 a1] σ [] (fun v τ gs => gs = [] ∧ v = .bool r) := by
  refine call_of Try.func11 Try.ntmps11 rfl rfl (fun cs fs => ?_)
  refine st_seq ?_
  refine st_region ?_
  refine o_box (cs := [.int .u32 a0.1, .int .u64 a0.2]) rfl rfl rfl rfl rfl (fun b1 => ?_)
  refine o_assign rfl rfl rfl rfl ?_
  refine st_end ?_
  refine st_seq ?_
  refine st_cut (fun ρ τ2 gs => ∃ (s2 : Unit), ref32_Has_j1 a0 a1 s2 r ∧ σ.Le τ2 ∧ ρ = [(1, .int .u32 a1), (2, .pointer (some ⟨b1, 0, none⟩)), (4, .bool false)] ∧ gs = [[(b1, .cells [.int .u32 a0.1, .int .u64 a0.2].toArray 30 (0, 0))]]) ?_ (fun hk2 => ?_)
  · rintro ρ2 τ2 gs2 ⟨s2, h, hl2, rfl, rfl⟩
    refine st_seq ?_
    refine st_region ?_
    refine o_move rfl rfl rfl rfl ?_
    refine o_fieldAddr rfl rfl rfl z_field30_0 rfl ?_
    refine o_load (j := 0) (v := .int .u32 a0.1) rfl rfl rfl z_sc22 rfl rfl rfl ?_
    obtain ⟨r3, hr4, h⟩ := h
    refine st_call (foot := []) rfl rfl rfl rfl rfl rfl (callV_fn z_en42 (ref10_After_ok hr4 τ2)) ?_
    rintro vτ5 τ5 gsτ5 hl6 ⟨rfl, rfl⟩
    refine o_not rfl rfl rfl rfl ?_
    refine o_assign rfl rfl rfl rfl ?_
    refine st_end ?_
    refine st_ord [] [] rfl ?_
    obtain rfl := h
    exact st_ret (gs' := []) Try.func11 rfl (List.Sublist.refl _) (hl2.trans hl6) ⟨rfl, rfl⟩
  refine st_seq ?_
  refine st_region ?_
  refine o_assign rfl rfl rfl rfl ?_
  refine st_end ?_
  obtain ⟨e7, hL7, hA7⟩ := h
  refine st_env (ρ' := [(1, .int .u32 a1), (2, .pointer (some ⟨b1, 0, none⟩)), (4, .bool false), (5, .int .i64 0)]) ⟨rfl, rfl, rfl, rfl, trivial⟩ ?_
  refine st_loop hL7 (fun (s7 : Int) ρ τ7 gs => σ.Le τ7 ∧ ρ = [(1, .int .u32 a1), (2, .pointer (some ⟨b1, 0, none⟩)), (4, .bool false), (5, .int .i64 s7)] ∧ gs = [[(b1, .cells [.int .u32 a0.1, .int .u64 a0.2].toArray 30 (0, 0))]]) ⟨Sto.Le.refl _, rfl, rfl⟩ ?_
  rintro s7 o7 h he7 ρ7 τ7 gs7 ⟨hl7, rfl, rfl⟩ hn7
  refine st_seq ?_
  refine st_seq ?_
  refine st_region ?_
  refine o_move rfl rfl rfl rfl ?_
  refine o_ibin (v := .bool (decide (s7 < 64))) rfl rfl rfl rfl rfl rfl ?_
  refine st_end ?_
  refine st_cond rfl (fun hc => ?_) (fun hc => ?_)
  · replace h := (if_pos hc).mp h
    refine st_skip ?_
    refine st_seq ?_
    refine st_block ?_
    refine st_seq ?_
    refine st_region ?_
    refine o_fieldAddr rfl rfl rfl z_field30_0 rfl ?_
    refine o_load (j := 0) (v := .int .u32 a0.1) rfl rfl rfl z_sc22 rfl rfl rfl ?_
    refine o_move rfl rfl rfl rfl ?_
    refine o_neg rfl rfl rfl rfl ?_
    obtain ⟨r8, hr9, h⟩ := h
    refine st_call (foot := []) rfl rfl rfl rfl rfl rfl (callV_fn z_en12 (ref10_Add_ok hr9 τ7)) ?_
    rintro vτ10 τ10 gsτ10 hl11 ⟨rfl, rfl⟩
    refine o_move rfl rfl rfl rfl ?_
    refine o_ibin (v := .bool (decide (r8 = a1))) rfl rfl rfl rfl rfl rfl ?_
    refine st_end ?_
    refine st_cond rfl (fun hc => ?_) (fun hc => ?_)
    · replace h := (if_pos hc).mp h
      refine st_seq ?_
      refine st_region ?_
      refine o_fieldAddr rfl rfl rfl z_field30_1 rfl ?_
      refine o_load (j := 0) (v := .int .u64 a0.2) rfl rfl rfl z_sc23 rfl rfl rfl ?_
      refine o_move rfl rfl rfl rfl ?_
      obtain ⟨r12, hr13, h⟩ := h
      refine st_call (foot := []) rfl rfl rfl rfl rfl rfl (callV_fn z_en41 (ref32_bit_ok hr13 τ10)) ?_
      rintro vτ14 τ14 gsτ14 hl15 ⟨rfl, rfl⟩
      refine o_assign rfl rfl rfl rfl ?_
      refine st_end ?_
      refine st_ord [] [] rfl ?_
      obtain rfl := he7 _ h
      replace h := hA7
      obtain rfl := h
      exact st_ret (gs' := []) Try.func11 rfl (List.Sublist.refl _) ((hl7.trans hl11).trans hl15) ⟨rfl, rfl⟩
    · replace h := (if_neg (ne_t hc)).mp h
      refine st_skip ?_
      refine st_inBlock ?_
      refine st_region ?_
      refine o_move rfl rfl rfl rfl ?_
      refine o_ibin (v := .int .i64 (IntKind.i64.wrap (s7 + 1))) rfl rfl rfl rfl rfl rfl ?_
      refine o_assign rfl rfl rfl rfl ?_
      refine st_end ?_
      refine st_env (ρ' := [(1, .int .u32 a1), (2, .pointer (some ⟨b1, 0, none⟩)), (4, .bool false), (5, .int .i64 (IntKind.i64.wrap (s7 + 1)))]) ⟨rfl, rfl, rfl, rfl, trivial⟩ ?_
      exact hn7 _ _ _ _ h ⟨(hl7.trans hl11), rfl, rfl⟩
  · replace h := (if_neg (ne_t hc)).mp h
    refine st_exit rfl ?_
    obtain rfl := he7 _ h
    replace h := hA7
    refine st_env (ρ' := [(1, .int .u32 a1), (2, .pointer (some ⟨b1, 0, none⟩)), (4, .bool false)]) ⟨rfl, rfl, rfl, trivial⟩ ?_
    exact hk2 _ _ _ ⟨(), h, hl7, rfl, rfl⟩
theorem window_state_bit_ok {a0 : Int × Int} {a1 : Int} {r : Int} (h : window_state_bit a0 a1 r) (σ : Sto)  :
    Does Try.prog 48 [.agg [.int .u32 a0.1, .int .u64 a0.2].toArray, .int .u32 a1] σ [] (fun v τ gs => gs = [] ∧ v = .int .u64 r) := by
  refine call_of Try.func48 Try.ntmps48 rfl rfl (fun cs fs => ?_)
  refine st_seq ?_
  refine st_region ?_
  refine o_box (cs := [.int .u32 a0.1, .int .u64 a0.2]) rfl rfl rfl rfl rfl (fun b1 => ?_)
  refine o_assign rfl rfl rfl rfl ?_
  refine st_end ?_
  refine st_seq ?_
  refine st_seq ?_
  refine st_region ?_
  refine o_move rfl rfl rfl rfl ?_
  refine o_fieldAddr rfl rfl rfl z_field87_0 rfl ?_
  refine o_load (j := 0) (v := .int .u32 a0.1) rfl rfl rfl z_sc22 rfl rfl rfl ?_
  obtain ⟨r2, hr3, h⟩ := h
  refine st_call (foot := []) rfl rfl rfl rfl rfl rfl (callV_fn z_en46 (serial_Way_ok hr3 σ)) ?_
  rintro vτ4 τ4 gsτ4 hl5 ⟨rfl, rfl⟩
  refine o_assign rfl rfl rfl rfl ?_
  refine st_end ?_
  refine st_seq ?_
  refine st_region ?_
  refine o_move rfl rfl rfl rfl ?_
  refine o_ibin (v := .bool (decide (r2 < 64))) rfl rfl rfl rfl rfl rfl ?_
  refine st_end ?_
  refine st_cond rfl (fun hc => ?_) (fun hc => ?_)
  · replace h := (if_pos hc).mp h
    refine st_seq ?_
    refine st_region ?_
    refine o_move rfl rfl rfl rfl ?_
    obtain ⟨hf6, h⟩ := h
    refine o_shl rfl rfl rfl rfl rfl hf6 ?_
    refine o_assign rfl rfl rfl rfl ?_
    refine st_end ?_
    refine st_ord [] [] rfl ?_
    obtain rfl := h
    exact st_ret (gs' := []) Try.func48 rfl (List.Sublist.refl _) hl5 ⟨rfl, rfl⟩
  · replace h := (if_neg (ne_t hc)).mp h
    refine st_skip ?_
    refine st_seq ?_
    refine st_region ?_
    refine o_assign rfl rfl rfl rfl ?_
    refine st_end ?_
    refine st_ord [] [] rfl ?_
    obtain rfl := h
    exact st_ret (gs' := []) Try.func48 rfl (List.Sublist.refl _) hl5 ⟨rfl, rfl⟩
theorem window_New_ok {a0 : Int} {r : ((Int × Int))} (h : window_New a0 r) (σ : Sto)  :
    Does Try.prog 14 [.int .u32 a0] σ [] (fun v τ gs => ∃ (b6 : Nat), gs = [[(b6, .cells [.int .u32 r.1, .int .u64 r.2].toArray 89 (0, 0))]] ∧ v = .pointer (some ⟨b6, 0, none⟩)) := by
  refine call_of Try.func14 Try.ntmps14 rfl rfl (fun cs fs => ?_)
  refine st_seq ?_
  refine st_region ?_
  refine o_assign rfl rfl rfl rfl ?_
  refine st_end ?_
  refine st_seq ?_
  refine st_region ?_
  refine o_move rfl rfl rfl rfl ?_
  obtain ⟨r1, hr2, h⟩ := h
  refine st_call (foot := []) rfl rfl rfl rfl rfl rfl (callV_fn z_en43 (serial_Add_ok hr2 σ)) ?_
  rintro vτ3 τ3 gsτ3 hl4 ⟨rfl, rfl⟩
  refine o_build (ps := [(0, [.int .u32 r1]), (1, [.int .u64 18446744073709551615])]) (cs := [.int .u32 r1, .int .u64 18446744073709551615]) rfl rfl rfl z_struct87 ⟨rfl, ⟨_, rfl, rfl⟩, ⟨rfl, ⟨_, rfl, rfl⟩, trivial⟩⟩ rfl ?_
  refine o_build (ps := [(0, [.int .u32 r1, .int .u64 18446744073709551615])]) (cs := [.int .u32 r1, .int .u64 18446744073709551615]) rfl rfl rfl z_struct89 ⟨rfl, ⟨_, rfl, rfl⟩, trivial⟩ rfl ?_
  refine o_box (cs := [.int .u32 r1, .int .u64 18446744073709551615]) rfl rfl rfl rfl rfl (fun b5 => ?_)
  refine o_assign rfl rfl rfl rfl ?_
  refine st_end ?_
  obtain rfl := h
  exact st_ret (gs' := [[(b5, .cells [.int .u32 r1, .int .u64 18446744073709551615].toArray 89 (0, 0))]]) Try.func14 rfl (List.Sublist.refl _) hl4 ⟨_, rfl, rfl⟩
theorem window_Window_Bits_ok {a0 : (Int × Int)} {ba0 : Nat} {r : Int} (h : window_Window_Bits a0 r) (σ : Sto)  :
    Does Try.prog 45 [.pointer (some ⟨ba0, 0, none⟩)] σ [[(ba0, .cells [.int .u32 a0.1, .int .u64 a0.2].toArray 89 (0, 0))]] (fun v τ gs => gs = [[(ba0, .cells [.int .u32 a0.1, .int .u64 a0.2].toArray 89 (0, 0))]] ∧ v = .int .u64 r) := by
  refine call_of Try.func45 Try.ntmps45 rfl rfl (fun cs fs => ?_)
  refine st_seq ?_
  refine st_region ?_
  refine o_assign rfl rfl rfl rfl ?_
  refine st_end ?_
  refine st_seq ?_
  refine st_seq ?_
  refine st_region ?_
  refine o_move rfl rfl rfl rfl ?_
  refine o_ptrNil (b := false) rfl rfl rfl Try.underlying35 rfl rfl rfl ?_
  refine st_end ?_
  refine st_condF rfl ?_
  refine st_skip ?_
  refine st_seq ?_
  refine st_region ?_
  refine o_move rfl rfl rfl rfl ?_
  refine o_nilCheck rfl rfl rfl rfl ?_
  refine o_fieldAddr rfl rfl rfl z_field89_0 rfl ?_
  refine o_fieldAddr rfl rfl rfl z_field87_1 rfl ?_
  refine o_load (j := 0) (v := .int .u64 a0.2) rfl rfl rfl z_sc23 rfl rfl rfl ?_
  refine o_assign rfl rfl rfl rfl ?_
  refine st_end ?_
  obtain rfl := h
  exact st_ret (gs' := [[(ba0, .cells [.int .u32 a0.1, .int .u64 a0.2].toArray 89 (0, 0))]]) Try.func45 rfl (List.Sublist.refl _) (Sto.Le.refl _) ⟨rfl, rfl⟩
theorem ack_Of_ok {a0 : (Int × Int)} {ba0 : Nat} {r : (Int × Int)} (h : ack_Of a0 r) (σ : Sto)  :
    Does Try.prog 15 [.pointer (some ⟨ba0, 0, none⟩)] σ [[(ba0, .cells [.int .u32 a0.1, .int .u64 a0.2].toArray 89 (0, 0))]] (fun v τ gs => gs = [[(ba0, .cells [.int .u32 a0.1, .int .u64 a0.2].toArray 89 (0, 0))]] ∧ v = .agg [.int .u32 r.1, .int .u64 r.2].toArray) := by
  refine call_of Try.func15 Try.ntmps15 rfl rfl (fun cs fs => ?_)
  refine st_seq ?_
  refine st_region ?_
  refine o_alloc rfl rfl rfl z_zero25 (fun b1 => ?_)
  refine st_end ?_
  refine st_seq ?_
  refine st_region ?_
  refine o_move rfl rfl rfl rfl ?_
  obtain ⟨r2, hr3, h⟩ := h
  refine st_ord [1, 0] [[(ba0, .cells [.int .u32 a0.1, .int .u64 a0.2].toArray 89 (0, 0))], [(b1, .cells [.int .u32 0, .int .u64 0].toArray 25 (0, 0))]] rfl ?_
  refine st_call (foot := [[(ba0, .cells [.int .u32 a0.1, .int .u64 a0.2].toArray 89 (0, 0))]]) rfl rfl rfl rfl rfl rfl (callV_fn z_en44 (window_Window_Top_ok hr3 σ)) ?_
  rintro vτ4 τ4 gsτ4 hl5 ⟨rfl, rfl⟩
  refine o_move rfl rfl rfl rfl ?_
  obtain ⟨r6, hr7, h⟩ := h
  refine st_call (foot := [[(ba0, .cells [.int .u32 a0.1, .int .u64 a0.2].toArray 89 (0, 0))]]) rfl rfl rfl rfl rfl rfl (callV_fn z_en45 (window_Window_Bits_ok hr7 τ4)) ?_
  rintro vτ8 τ8 gsτ8 hl9 ⟨rfl, rfl⟩
  refine o_build (ps := [(0, [.int .u32 r2]), (1, [.int .u64 r6])]) (cs := [.int .u32 r2, .int .u64 r6]) rfl rfl rfl z_struct25 ⟨rfl, ⟨_, rfl, rfl⟩, ⟨rfl, ⟨_, rfl, rfl⟩, trivial⟩⟩ rfl ?_
  refine o_store (j := 1) (vs := [.int .u32 r2, .int .u64 r6]) (cs' := [.int .u32 r2, .int .u64 r6]) rfl rfl rfl z_size25 rfl rfl rfl (ones_cons rfl (ones_cons rfl ones_nil)) rfl rfl rfl ?_
  refine st_gs [[(ba0, .cells [.int .u32 a0.1, .int .u64 a0.2].toArray 89 (0, 0))], [(b1, .cells [.int .u32 r2, .int .u64 r6].toArray 25 (0, 0))]] rfl ?_
  refine st_end ?_
  obtain rfl := h
  exact st_retC (gs' := [[(ba0, .cells [.int .u32 a0.1, .int .u64 a0.2].toArray 89 (0, 0))]]) [.agg [.int .u32 r2, .int .u64 r6].toArray] Try.func15 ⟨⟨_, _, _, _, rfl, mem_flat 1 rfl, fun w hw => cellOfN (vs := [.int .u32 r2, .int .u64 r6]) z_agg25 rfl w hw⟩, trivial⟩ (by simp) (hl5.trans hl9) ⟨rfl, rfl⟩
theorem window_Window_Look_ok {a0 : (Int × Int)} {a1 : Int} {ba0 : Nat} {r : Int} (h : window_Window_Look a0 a1 r) (σ : Sto)  :
    Does Try.prog 17 [.pointer (some ⟨ba0, 0, none⟩), .int .u32 a1] σ [[(ba0, .cells [.int .u32 a0.1, .int .u64 a0.2].toArray 89 (0, 0))]] (fun v τ gs => gs = [[(ba0, .cells [.int .u32 a0.1, .int .u64 a0.2].toArray 89 (0, 0))]] ∧ v = .int .i64 r) := by
  refine call_of Try.func17 Try.ntmps17 rfl rfl (fun cs fs => ?_)
  refine st_seq ?_
  refine st_region ?_
  refine o_assign rfl rfl rfl rfl ?_
  refine st_end ?_
  refine st_seq ?_
  refine st_block ?_
  refine st_seq ?_
  refine st_region ?_
  refine o_move rfl rfl rfl rfl ?_
  refine o_ptrNil (b := false) rfl rfl rfl Try.underlying35 rfl rfl rfl ?_
  refine o_assign rfl rfl rfl rfl ?_
  refine st_end ?_
  refine st_condF rfl ?_
  refine st_seq ?_
  refine st_region ?_
  refine o_move rfl rfl rfl rfl ?_
  refine o_move rfl rfl rfl rfl ?_
  refine o_nilCheck rfl rfl rfl rfl ?_
  refine o_fieldAddr rfl rfl rfl z_field89_0 rfl ?_
  refine o_fieldAddr rfl rfl rfl z_field87_0 rfl ?_
  refine o_load (j := 0) (v := .int .u32 a0.1) rfl rfl rfl z_sc22 rfl rfl rfl ?_
  obtain ⟨r1, hr2, h⟩ := h
  refine st_call (foot := []) rfl rfl rfl rfl rfl rfl (callV_fn z_en47 (serial_After_ok hr2 σ)) ?_
  rintro vτ3 τ3 gsτ3 hl4 ⟨rfl, rfl⟩
  refine o_assign rfl rfl rfl rfl ?_
  refine st_end ?_
  refine st_cond rfl (fun hc => ?_) (fun hc => ?_)
  · replace h := (if_pos hc).mp h
    refine st_seq ?_
    refine st_region ?_
    refine o_assign rfl rfl rfl rfl ?_
    refine st_end ?_
    obtain rfl := h
    exact st_ret (gs' := [[(ba0, .cells [.int .u32 a0.1, .int .u64 a0.2].toArray 89 (0, 0))]]) Try.func17 rfl (List.Sublist.refl _) hl4 ⟨rfl, rfl⟩
  · replace h := (if_neg (ne_t hc)).mp h
    refine st_seq ?_
    refine st_region ?_
    refine o_move rfl rfl rfl rfl ?_
    refine o_nilCheck rfl rfl rfl rfl ?_
    refine o_fieldAddr rfl rfl rfl z_field89_0 rfl ?_
    refine o_loadN (j := 0) (vs := [.int .u32 a0.1, .int .u64 a0.2]) rfl rfl rfl z_agg87 rfl rfl rfl ?_
    refine o_move rfl rfl rfl rfl ?_
    obtain ⟨r5, hr6, h⟩ := h
    refine st_call (foot := []) rfl rfl rfl rfl rfl rfl (callV_fn z_en48 (window_state_bit_ok hr6 τ3)) ?_
    rintro vτ7 τ7 gsτ7 hl8 ⟨rfl, rfl⟩
    refine o_ibin (v := .bool (decide (r5 = 0))) rfl rfl rfl rfl rfl rfl ?_
    refine o_assign rfl rfl rfl rfl ?_
    refine st_end ?_
    refine st_cond rfl (fun hc => ?_) (fun hc => ?_)
    · replace h := (if_pos hc).mp h
      refine st_seq ?_
      refine st_region ?_
      refine o_assign rfl rfl rfl rfl ?_
      refine st_end ?_
      obtain rfl := h
      exact st_ret (gs' := [[(ba0, .cells [.int .u32 a0.1, .int .u64 a0.2].toArray 89 (0, 0))]]) Try.func17 rfl (List.Sublist.refl _) (hl4.trans hl8) ⟨rfl, rfl⟩
    · replace h := (if_neg (ne_t hc)).mp h
      refine st_seq ?_
      obtain ⟨r9, hr10, h⟩ := h
      refine st_draw 14 (tl [fun τ v => v = .pointer (some ⟨ba0, 0, none⟩),
    fun τ v => v = .pointer (some ⟨ba0, 0, none⟩),
    fun τ v => v = .pointer (some ⟨ba0, 0, none⟩),
    fun τ v => v = .pointer (some ⟨ba0, 1, none⟩),
    fun τ v => v = .int .u64 a0.2,
    fun τ v => v = .pointer (some ⟨ba0, 0, none⟩),
    fun τ v => v = .pointer (some ⟨ba0, 0, none⟩),
    fun τ v => v = .pointer (some ⟨ba0, 0, none⟩),
    fun τ v => v = .agg [.int .u32 a0.1, .int .u64 a0.2].toArray,
    fun τ v => v = .int .u32 a1,
    fun τ v => v = .int .u64 r9,
    fun τ v => v = .int .u64 (iand .u64 a0.2 r9),
    fun τ v => v = .bool (!(decide ((iand .u64 a0.2 r9) = 0))),
    fun τ v => v = .bool (!(decide ((iand .u64 a0.2 r9) = 0)))]) (fun _ _ => []) z_mix rfl (tl_mono ⟨fun _ _ _ _ h => h, ⟨fun _ _ _ _ h => h, ⟨fun _ _ _ _ h => h, ⟨fun _ _ _ _ h => h, ⟨fun _ _ _ _ h => h, ⟨fun _ _ _ _ h => h, ⟨fun _ _ _ _ h => h, ⟨fun _ _ _ _ h => h, ⟨fun _ _ _ _ h => h, ⟨fun _ _ _ _ h => h, ⟨fun _ _ _ _ h => h, ⟨fun _ _ _ _ h => h, ⟨fun _ _ _ _ h => h, ⟨fun _ _ _ _ h => h, trivial⟩⟩⟩⟩⟩⟩⟩⟩⟩⟩⟩⟩⟩⟩) (allB_cons (allB_cons (allB_cons (allB_cons (allB_cons (allB_cons (allB_cons (allB_cons (allB_cons (allB_cons (allB_cons (allB_cons (allB_cons (allB_cons allB_nil ?_) ?_) ?_) ?_) ?_) ?_) ?_) ?_) ?_) ?_) ?_) ?_) ?_) ?_) ?_
      · intro ρ' τ pool rs hl hd hout hk
        refine o_move rfl rfl rfl ((hout 0 rfl).trans rfl) ?_
        exact st_addNil (hk _ _ (Sto.Le.refl _) rfl)
      · intro ρ' τ pool rs hl hd hout hk
        obtain ⟨_, e0, rfl⟩ := hd 0 rfl
        refine o_nilCheck rfl rfl rfl e0 ?_
        exact st_addNil (hk _ _ (Sto.Le.refl _) rfl)
      · intro ρ' τ pool rs hl hd hout hk
        obtain ⟨_, e1, rfl⟩ := hd 1 rfl
        refine o_fieldAddr rfl rfl rfl z_field89_0 e1 ?_
        exact st_addNil (hk _ _ (Sto.Le.refl _) rfl)
      · intro ρ' τ pool rs hl hd hout hk
        obtain ⟨_, e2, rfl⟩ := hd 2 rfl
        refine o_fieldAddr rfl rfl rfl z_field87_1 e2 ?_
        exact st_addNil (hk _ _ (Sto.Le.refl _) rfl)
      · intro ρ' τ pool rs hl hd hout hk
        obtain ⟨_, e3, rfl⟩ := hd 3 rfl
        refine o_load (j := 0) (v := .int .u64 a0.2) rfl rfl rfl z_sc23 e3 rfl rfl ?_
        exact st_addNil (hk _ _ (Sto.Le.refl _) rfl)
      · intro ρ' τ pool rs hl hd hout hk
        refine o_move rfl rfl rfl ((hout 0 rfl).trans rfl) ?_
        exact st_addNil (hk _ _ (Sto.Le.refl _) rfl)
      · intro ρ' τ pool rs hl hd hout hk
        obtain ⟨_, e5, rfl⟩ := hd 5 rfl
        refine o_nilCheck rfl rfl rfl e5 ?_
        exact st_addNil (hk _ _ (Sto.Le.refl _) rfl)
      · intro ρ' τ pool rs hl hd hout hk
        obtain ⟨_, e6, rfl⟩ := hd 6 rfl
        refine o_fieldAddr rfl rfl rfl z_field89_0 e6 ?_
        exact st_addNil (hk _ _ (Sto.Le.refl _) rfl)
      · intro ρ' τ pool rs hl hd hout hk
        obtain ⟨_, e7, rfl⟩ := hd 7 rfl
        refine o_loadN (j := 0) (vs := [.int .u32 a0.1, .int .u64 a0.2]) rfl rfl rfl z_agg87 e7 rfl rfl ?_
        exact st_addNil (hk _ _ (Sto.Le.refl _) rfl)
      · intro ρ' τ pool rs hl hd hout hk
        refine o_move rfl rfl rfl ((hout 1 rfl).trans rfl) ?_
        exact st_addNil (hk _ _ (Sto.Le.refl _) rfl)
      · intro ρ' τ pool rs hl hd hout hk
        obtain ⟨_, e8, rfl⟩ := hd 8 rfl
        obtain ⟨_, e9, rfl⟩ := hd 9 rfl
        refine st_call (foot := []) rfl rfl rfl rfl (evs_cons e8 (evs_cons e9 rfl)) rfl (callV_fn z_en48 (window_state_bit_ok hr10 τ)) ?_
        rintro vτ11 τ11 gsτ11 hl12 ⟨rfl, rfl⟩
        exact st_addNil (hk _ _ hl12 rfl)
      · intro ρ' τ pool rs hl hd hout hk
        obtain ⟨_, e4, rfl⟩ := hd 4 rfl
        obtain ⟨_, e10, rfl⟩ := hd 10 rfl
        refine o_ibin (v := .int .u64 (iand .u64 a0.2 r9)) rfl rfl rfl e4 e10 rfl ?_
        exact st_addNil (hk _ _ (Sto.Le.refl _) rfl)
      · intro ρ' τ pool rs hl hd hout hk
        obtain ⟨_, e11, rfl⟩ := hd 11 rfl
        refine o_ibin (v := .bool (!(decide ((iand .u64 a0.2 r9) = 0)))) rfl rfl rfl e11 rfl rfl ?_
        exact st_addNil (hk _ _ (Sto.Le.refl _) rfl)
      · intro ρ' τ pool rs hl hd hout hk
        obtain ⟨_, e12, rfl⟩ := hd 12 rfl
        refine o_assign rfl rfl rfl e12 ?_
        exact st_addNil (hk _ _ (Sto.Le.refl _) rfl)
      intro ρ' τ13 vals hl13 hv hout
      have l13 : Eng.look ρ' 24 = some (.bool (!(decide ((iand .u64 a0.2 r9) = 0)))) := (hv 13 (by decide)).1.trans (congrArg some (show vals 13 = .bool (!(decide ((iand .u64 a0.2 r9) = 0))) from (hv 13 (by decide)).2))
      refine st_env (ρ' := [(24, .bool (!(decide ((iand .u64 a0.2 r9) = 0)))), (4, .int .i64 0)]) ⟨l13, (hout 4 rfl).trans rfl, trivial⟩ ?_
      refine st_ord [0] [[(ba0, .cells [.int .u32 a0.1, .int .u64 a0.2].toArray 89 (0, 0))]] rfl ?_
      refine st_end ?_
      refine st_cond rfl (fun hc => ?_) (fun hc => ?_)
      · replace h := (if_pos hc).mp h
        refine st_seq ?_
        refine st_region ?_
        refine o_assign rfl rfl rfl rfl ?_
        refine st_end ?_
        obtain rfl := h
        exact st_ret (gs' := [[(ba0, .cells [.int .u32 a0.1, .int .u64 a0.2].toArray 89 (0, 0))]]) Try.func17 rfl (List.Sublist.refl _) ((hl4.trans hl8).trans hl13) ⟨rfl, rfl⟩
      · replace h := (if_neg (ne_t hc)).mp h
        refine st_skip ?_
        refine st_inBlock ?_
        refine st_seq ?_
        refine st_region ?_
        refine o_assign rfl rfl rfl rfl ?_
        refine st_end ?_
        obtain rfl := h
        exact st_ret (gs' := [[(ba0, .cells [.int .u32 a0.1, .int .u64 a0.2].toArray 89 (0, 0))]]) Try.func17 rfl (List.Sublist.refl _) ((hl4.trans hl8).trans hl13) ⟨rfl, rfl⟩
theorem window_Window_Mark_ok {a0 : (Int × Int)} {a1 : Int} {ba0 : Nat} {r : Int × ((Int × Int))} (h : window_Window_Mark a0 a1 r) (σ : Sto)  :
    Does Try.prog 18 [.pointer (some ⟨ba0, 0, none⟩), .int .u32 a1] σ [[(ba0, .cells [.int .u32 a0.1, .int .u64 a0.2].toArray 89 (0, 0))]] (fun v τ gs => gs = [[(ba0, .cells [.int .u32 r.2.1, .int .u64 r.2.2].toArray 89 (0, 0))]] ∧ v = .int .i64 r.1) := by
  refine call_of Try.func18 Try.ntmps18 rfl rfl (fun cs fs => ?_)
  refine st_seq ?_
  refine st_region ?_
  refine o_assign rfl rfl rfl rfl ?_
  refine st_end ?_
  refine st_seq ?_
  refine st_seq ?_
  refine st_region ?_
  refine o_move rfl rfl rfl rfl ?_
  refine o_move rfl rfl rfl rfl ?_
  obtain ⟨r1, hr2, h⟩ := h
  refine st_call (foot := [[(ba0, .cells [.int .u32 a0.1, .int .u64 a0.2].toArray 89 (0, 0))]]) rfl rfl rfl rfl rfl rfl (callV_fn z_en17 (window_Window_Look_ok hr2 σ)) ?_
  rintro vτ3 τ3 gsτ3 hl4 ⟨rfl, rfl⟩
  refine o_assign rfl rfl rfl rfl ?_
  refine st_end ?_
  refine st_seq ?_
  refine st_region ?_
  refine o_move rfl rfl rfl rfl ?_
  refine o_ibin (v := .bool (!(decide (r1 = 0)))) rfl rfl rfl rfl rfl rfl ?_
  refine st_end ?_
  refine st_cond rfl (fun hc => ?_) (fun hc => ?_)
  · replace h := (if_pos hc).mp h
    refine st_seq ?_
    refine st_region ?_
    refine o_move rfl rfl rfl rfl ?_
    refine o_assign rfl rfl rfl rfl ?_
    refine st_end ?_
    obtain rfl := h
    exact st_ret (gs' := [[(ba0, .cells [.int .u32 a0.1, .int .u64 a0.2].toArray 89 (0, 0))]]) Try.func18 rfl (List.Sublist.refl _) hl4 ⟨rfl, rfl⟩
  · replace h := (if_neg (ne_t hc)).mp h
    refine st_skip ?_
    refine st_seq ?_
    refine st_region ?_
    refine o_move rfl rfl rfl rfl ?_
    refine o_nilCheck rfl rfl rfl rfl ?_
    refine o_fieldAddr rfl rfl rfl z_field89_0 rfl ?_
    refine o_loadN (j := 0) (vs := [.int .u32 a0.1, .int .u64 a0.2]) rfl rfl rfl z_agg87 rfl rfl rfl ?_
    refine o_alloc rfl rfl rfl z_zero87 (fun b5 => ?_)
    refine o_store (j := 0) (vs := [.int .u32 a0.1, .int .u64 a0.2]) (cs' := [.int .u32 a0.1, .int .u64 a0.2]) rfl rfl rfl z_size87 rfl rfl rfl (ones_cons rfl (ones_cons rfl ones_nil)) rfl rfl rfl ?_
    refine st_gs [[(b5, .cells [.int .u32 a0.1, .int .u64 a0.2].toArray 87 (0, 0))], [(ba0, .cells [.int .u32 a0.1, .int .u64 a0.2].toArray 89 (0, 0))]] rfl ?_
    refine st_end ?_
    refine st_seq ?_
    refine st_cut (fun ρ τ6 gs => ∃ (s6 : Int × Int), window_Window_Mark_j1 a0 a1 s6 r ∧ τ3.Le τ6 ∧ ρ = [(0, .pointer (some ⟨ba0, 0, none⟩)), (1, .int .u32 a1), (4, .int .i64 0), (6, .pointer (some ⟨b5, 0, none⟩))] ∧ gs = [[(ba0, .cells [.int .u32 a0.1, .int .u64 a0.2].toArray 89 (0, 0))], [(b5, .cells [.int .u32 s6.1, .int .u64 s6.2].toArray 87 (0, 0))]]) ?_ (fun hk6 => ?_)
    · rintro ρ6 τ6 gs6 ⟨s6, h, hl6, rfl, rfl⟩
      refine st_seq ?_
      obtain ⟨r7, hr8, h⟩ := h
      refine st_draw 7 (tl [fun τ v => v = .pointer (some ⟨b5, 1, none⟩),
    fun τ v => v = .int .u64 s6.2,
    fun τ v => v = .agg [.int .u32 s6.1, .int .u64 s6.2].toArray,
    fun τ v => v = .int .u32 a1,
    fun τ v => v = .int .u64 r7,
    fun τ v => v = .int .u64 (ior .u64 s6.2 r7),
    fun τ v => v = .pointer (some ⟨b5, 1, none⟩)]) (fun _ _ => []) z_mix rfl (tl_mono ⟨fun _ _ _ _ h => h, ⟨fun _ _ _ _ h => h, ⟨fun _ _ _ _ h => h, ⟨fun _ _ _ _ h => h, ⟨fun _ _ _ _ h => h, ⟨fun _ _ _ _ h => h, ⟨fun _ _ _ _ h => h, trivial⟩⟩⟩⟩⟩⟩⟩) (allB_cons (allB_cons (allB_cons (allB_cons (allB_cons (allB_cons (allB_cons allB_nil ?_) ?_) ?_) ?_) ?_) ?_) ?_) ?_
      · intro ρ' τ pool rs hl hd hout hk
        refine o_fieldAddr rfl rfl rfl z_field87_1 ((hout 6 rfl).trans rfl) ?_
        exact st_addNil (hk _ _ (Sto.Le.refl _) rfl)
      · intro ρ' τ pool rs hl hd hout hk
        obtain ⟨_, e0, rfl⟩ := hd 0 rfl
        refine o_load (j := 1) (v := .int .u64 s6.2) rfl rfl rfl z_sc23 e0 rfl rfl ?_
        exact st_addNil (hk _ _ (Sto.Le.refl _) rfl)
      · intro ρ' τ pool rs hl hd hout hk
        refine o_loadN (j := 1) (vs := [.int .u32 s6.1, .int .u64 s6.2]) rfl rfl rfl z_agg87 ((hout 6 rfl).trans rfl) rfl rfl ?_
        exact st_addNil (hk _ _ (Sto.Le.refl _) rfl)
      · intro ρ' τ pool rs hl hd hout hk
        refine o_move rfl rfl rfl ((hout 1 rfl).trans rfl) ?_
        exact st_addNil (hk _ _ (Sto.Le.refl _) rfl)
      · intro ρ' τ pool rs hl hd hout hk
        obtain ⟨_, e2, rfl⟩ := hd 2 rfl
        obtain ⟨_, e3, rfl⟩ := hd 3 rfl
        refine st_call (foot := []) rfl rfl rfl rfl (evs_cons e2 (evs_cons e3 rfl)) rfl (callV_fn z_en48 (window_state_bit_ok hr8 τ)) ?_
        rintro vτ9 τ9 gsτ9 hl10 ⟨rfl, rfl⟩
        exact st_addNil (hk _ _ hl10 rfl)
      · intro ρ' τ pool rs hl hd hout hk
        obtain ⟨_, e1, rfl⟩ := hd 1 rfl
        obtain ⟨_, e4, rfl⟩ := hd 4 rfl
        refine o_ibin (v := .int .u64 (ior .u64 s6.2 r7)) rfl rfl rfl e1 e4 rfl ?_
        exact st_addNil (hk _ _ (Sto.Le.refl _) rfl)
      · intro ρ' τ pool rs hl hd hout hk
        refine o_fieldAddr rfl rfl rfl z_field87_1 ((hout 6 rfl).trans rfl) ?_
        exact st_addNil (hk _ _ (Sto.Le.refl _) rfl)
      intro ρ' τ11 vals hl11 hv hout
      have l5 : Eng.look ρ' 35 = some (.int .u64 (ior .u64 s6.2 r7)) := (hv 5 (by decide)).1.trans (congrArg some (show vals 5 = .int .u64 (ior .u64 s6.2 r7) from (hv 5 (by decide)).2))
      have l6 : Eng.look ρ' 36 = some (.pointer (some ⟨b5, 1, none⟩)) := (hv 6 (by decide)).1.trans (congrArg some (show vals 6 = .pointer (some ⟨b5, 1, none⟩) from (hv 6 (by decide)).2))
      refine st_env (ρ' := [(35, .int .u64 (ior .u64 s6.2 r7)), (36, .pointer (some ⟨b5, 1, none⟩)), (0, .pointer (some ⟨ba0, 0, none⟩)), (4, .int .i64 0), (6, .pointer (some ⟨b5, 0, none⟩))]) ⟨l5, l6, (hout 0 rfl).trans rfl, (hout 4 rfl).trans rfl, (hout 6 rfl).trans rfl, trivial⟩ ?_
      refine st_ord [0, 0] [[(ba0, .cells [.int .u32 a0.1, .int .u64 a0.2].toArray 89 (0, 0))], [(b5, .cells [.int .u32 s6.1, .int .u64 s6.2].toArray 87 (0, 0))]] rfl ?_
      refine o_store (j := 1) (vs := [.int .u64 (ior .u64 s6.2 r7)]) (cs' := [.int .u32 s6.1, .int .u64 (ior .u64 s6.2 r7)]) rfl rfl rfl z_size23 rfl rfl rfl (ones_cons rfl ones_nil) rfl rfl rfl ?_
      refine st_gs [[(ba0, .cells [.int .u32 a0.1, .int .u64 a0.2].toArray 89 (0, 0))], [(b5, .cells [.int .u32 s6.1, .int .u64 (ior .u64 s6.2 r7)].toArray 87 (0, 0))]] rfl ?_
      refine st_end ?_
      refine st_seq ?_
      refine st_cut (fun ρ τ12 gs => ∃ (s12 : Int × Int), window_Window_Mark_j2 s12 r ∧ τ11.Le τ12 ∧ ρ = [(4, .int .i64 0)] ∧ gs = [[(ba0, .cells [.int .u32 s12.1, .int .u64 s12.2].toArray 89 (0, 0))]]) ?_ (fun hk12 => ?_)
      · rintro ρ12 τ12 gs12 ⟨s12, h, hl12, rfl, rfl⟩
        refine st_seq ?_
        refine st_region ?_
        refine o_assign rfl rfl rfl rfl ?_
        refine st_end ?_
        obtain rfl := h
        exact st_ret (gs' := [[(ba0, .cells [.int .u32 s12.1, .int .u64 s12.2].toArray 89 (0, 0))]]) Try.func18 rfl (List.Sublist.refl _) (((hl4.trans hl6).trans hl11).trans hl12) ⟨rfl, rfl⟩
      refine st_seq ?_
      refine st_draw 6 (tl [fun τ v => v = .agg [.int .u32 s6.1, .int .u64 (ior .u64 s6.2 r7)].toArray,
    fun τ v => v = .pointer (some ⟨ba0, 0, none⟩),
    fun τ v => v = .pointer (some ⟨ba0, 0, none⟩),
    fun τ v => v = .pointer (some ⟨ba0, 0, none⟩),
    fun τ v => v = .agg [.int .u32 a0.1, .int .u64 a0.2].toArray,
    fun τ v => v = .bool (!((decide (s6.1 = a0.1)) && ((decide ((ior .u64 s6.2 r7) = a0.2)) && true)))]) (fun _ _ => []) z_mix rfl (tl_mono ⟨fun _ _ _ _ h => h, ⟨fun _ _ _ _ h => h, ⟨fun _ _ _ _ h => h, ⟨fun _ _ _ _ h => h, ⟨fun _ _ _ _ h => h, ⟨fun _ _ _ _ h => h, trivial⟩⟩⟩⟩⟩⟩) (allB_cons (allB_cons (allB_cons (allB_cons (allB_cons (allB_cons allB_nil ?_) ?_) ?_) ?_) ?_) ?_) ?_
      · intro ρ' τ pool rs hl hd hout hk
        refine o_loadN (j := 1) (vs := [.int .u32 s6.1, .int .u64 (ior .u64 s6.2 r7)]) rfl rfl rfl z_agg87 ((hout 6 rfl).trans rfl) rfl rfl ?_
        exact st_addNil (hk _ _ (Sto.Le.refl _) rfl)
      · intro ρ' τ pool rs hl hd hout hk
        refine o_move rfl rfl rfl ((hout 0 rfl).trans rfl) ?_
        exact st_addNil (hk _ _ (Sto.Le.refl _) rfl)
      · intro ρ' τ pool rs hl hd hout hk
        obtain ⟨_, e1, rfl⟩ := hd 1 rfl
        refine o_nilCheck rfl rfl rfl e1 ?_
        exact st_addNil (hk _ _ (Sto.Le.refl _) rfl)
      · intro ρ' τ pool rs hl hd hout hk
        obtain ⟨_, e2, rfl⟩ := hd 2 rfl
        refine o_fieldAddr rfl rfl rfl z_field89_0 e2 ?_
        exact st_addNil (hk _ _ (Sto.Le.refl _) rfl)
      · intro ρ' τ pool rs hl hd hout hk
        obtain ⟨_, e3, rfl⟩ := hd 3 rfl
        refine o_loadN (j := 0) (vs := [.int .u32 a0.1, .int .u64 a0.2]) rfl rfl rfl z_agg87 e3 rfl rfl ?_
        exact st_addNil (hk _ _ (Sto.Le.refl _) rfl)
      · intro ρ' τ pool rs hl hd hout hk
        obtain ⟨_, e0, rfl⟩ := hd 0 rfl
        obtain ⟨_, e4, rfl⟩ := hd 4 rfl
        refine o_aggEq (b := ((decide (s6.1 = a0.1)) && ((decide ((ior .u64 s6.2 r7) = a0.2)) && true))) (e := (!((decide (s6.1 = a0.1)) && ((decide ((ior .u64 s6.2 r7) = a0.2)) && true)))) rfl rfl rfl z_eqg87 e0 e4 (fun w => by refine eq_struct Try.underlying87 z_held87 ?_; refine eqf_cons (r := (decide (s6.1 = a0.1))) (r' := ((decide ((ior .u64 s6.2 r7) = a0.2)) && true)) rfl (part_one z_sc22 rfl) (part_one z_sc22 rfl) (by exact eq_int Try.underlying22 _ _) ?_; refine eqf_cons (r := (decide ((ior .u64 s6.2 r7) = a0.2))) (r' := true) rfl (part_one z_sc23 rfl) (part_one z_sc23 rfl) (by exact eq_int Try.underlying23 _ _) ?_; exact eqf_nil _ _ _ _) rfl ?_
        exact st_addNil (hk _ _ (Sto.Le.refl _) rfl)
      intro ρ' τ13 vals hl13 hv hout
      have l5 : Eng.look ρ' 42 = some (.bool (!((decide (s6.1 = a0.1)) && ((decide ((ior .u64 s6.2 r7) = a0.2)) && true)))) := (hv 5 (by decide)).1.trans (congrArg some (show vals 5 = .bool (!((decide (s6.1 = a0.1)) && ((decide ((ior .u64 s6.2 r7) = a0.2)) && true))) from (hv 5 (by decide)).2))
      refine st_env (ρ' := [(42, .bool (!((decide (s6.1 = a0.1)) && ((decide ((ior .u64 s6.2 r7) = a0.2)) && true)))), (0, .pointer (some ⟨ba0, 0, none⟩)), (4, .int .i64 0), (6, .pointer (some ⟨b5, 0, none⟩))]) ⟨l5, (hout 0 rfl).trans rfl, (hout 4 rfl).trans rfl, (hout 6 rfl).trans rfl, trivial⟩ ?_
      refine st_ord [0, 0] [[(ba0, .cells [.int .u32 a0.1, .int .u64 a0.2].toArray 89 (0, 0))], [(b5, .cells [.int .u32 s6.1, .int .u64 (ior .u64 s6.2 r7)].toArray 87 (0, 0))]] rfl ?_
      refine st_end ?_
      refine st_cond rfl (fun hc => ?_) (fun hc => ?_)
      · replace h := (if_pos hc).mp h
        refine st_region ?_
        refine o_move rfl rfl rfl rfl ?_
        refine o_loadN (j := 1) (vs := [.int .u32 s6.1, .int .u64 (ior .u64 s6.2 r7)]) rfl rfl rfl z_agg87 rfl rfl rfl ?_
        refine o_nilCheck rfl rfl rfl rfl ?_
        refine o_fieldAddr rfl rfl rfl z_field89_0 rfl ?_
        refine o_store (j := 0) (vs := [.int .u32 s6.1, .int .u64 (ior .u64 s6.2 r7)]) (cs' := [.int .u32 s6.1, .int .u64 (ior .u64 s6.2 r7)]) rfl rfl rfl z_size87 rfl rfl rfl (ones_cons rfl (ones_cons rfl ones_nil)) rfl rfl rfl ?_
        refine st_gs [[(ba0, .cells [.int .u32 s6.1, .int .u64 (ior .u64 s6.2 r7)].toArray 89 (0, 0))], [(b5, .cells [.int .u32 s6.1, .int .u64 (ior .u64 s6.2 r7)].toArray 87 (0, 0))]] rfl ?_
        refine st_end ?_
        refine st_env (ρ' := [(4, .int .i64 0)]) ⟨rfl, trivial⟩ ?_
        refine st_ord [0] [[(ba0, .cells [.int .u32 s6.1, .int .u64 (ior .u64 s6.2 r7)].toArray 89 (0, 0))]] rfl ?_
        exact hk12 _ _ _ ⟨(s6.1, (ior .u64 s6.2 r7)), h, hl13, rfl, rfl⟩
      · replace h := (if_neg (ne_t hc)).mp h
        refine st_skip ?_
        refine st_env (ρ' := [(4, .int .i64 0)]) ⟨rfl, trivial⟩ ?_
        refine st_ord [0] [[(ba0, .cells [.int .u32 a0.1, .int .u64 a0.2].toArray 89 (0, 0))]] rfl ?_
        exact hk12 _ _ _ ⟨(a0.1, a0.2), h, hl13, rfl, rfl⟩
    refine st_seq ?_
    refine st_region ?_
    refine o_move rfl rfl rfl rfl ?_
    refine o_fieldAddr rfl rfl rfl z_field87_0 rfl ?_
    refine o_load (j := 0) (v := .int .u32 a0.1) rfl rfl rfl z_sc22 rfl rfl rfl ?_
    obtain ⟨r14, hr15, h⟩ := h
    refine st_call (foot := []) rfl rfl rfl rfl rfl rfl (callV_fn z_en47 (serial_After_ok hr15 τ3)) ?_
    rintro vτ16 τ16 gsτ16 hl17 ⟨rfl, rfl⟩
    refine st_end ?_
    refine st_cond rfl (fun hc => ?_) (fun hc => ?_)
    · replace h := (if_pos hc).mp h
      obtain ⟨r18, hr19, h⟩ := h
      obtain ⟨hf22, h⟩ := h
      refine st_draw 9 (tl [fun τ v => v = .int .u32 a1,
    fun τ v => v = .pointer (some ⟨b5, 1, none⟩),
    fun τ v => v = .int .u64 a0.2,
    fun τ v => v = .pointer (some ⟨b5, 0, none⟩),
    fun τ v => v = .int .u32 a0.1,
    fun τ v => v = .int .u32 a1,
    fun τ v => v = .int .u32 r18,
    fun τ v => v = .int .u64 (ishl .u64 a0.2 r18),
    fun τ v => v = .agg [.int .u32 a1, .int .u64 (ishl .u64 a0.2 r18)].toArray]) (fun _ _ => []) z_mix rfl (tl_mono ⟨fun _ _ _ _ h => h, ⟨fun _ _ _ _ h => h, ⟨fun _ _ _ _ h => h, ⟨fun _ _ _ _ h => h, ⟨fun _ _ _ _ h => h, ⟨fun _ _ _ _ h => h, ⟨fun _ _ _ _ h => h, ⟨fun _ _ _ _ h => h, ⟨fun _ _ _ _ h => h, trivial⟩⟩⟩⟩⟩⟩⟩⟩⟩) (allB_cons (allB_cons (allB_cons (allB_cons (allB_cons (allB_cons (allB_cons (allB_cons (allB_cons allB_nil ?_) ?_) ?_) ?_) ?_) ?_) ?_) ?_) ?_) ?_
      · intro ρ' τ pool rs hl hd hout hk
        refine o_move rfl rfl rfl ((hout 1 rfl).trans rfl) ?_
        exact st_addNil (hk _ _ (Sto.Le.refl _) rfl)
      · intro ρ' τ pool rs hl hd hout hk
        refine o_fieldAddr rfl rfl rfl z_field87_1 ((hout 6 rfl).trans rfl) ?_
        exact st_addNil (hk _ _ (Sto.Le.refl _) rfl)
      · intro ρ' τ pool rs hl hd hout hk
        obtain ⟨_, e1, rfl⟩ := hd 1 rfl
        refine o_load (j := 0) (v := .int .u64 a0.2) rfl rfl rfl z_sc23 e1 rfl rfl ?_
        exact st_addNil (hk _ _ (Sto.Le.refl _) rfl)
      · intro ρ' τ pool rs hl hd hout hk
        refine o_fieldAddr rfl rfl rfl z_field87_0 ((hout 6 rfl).trans rfl) ?_
        exact st_addNil (hk _ _ (Sto.Le.refl _) rfl)
      · intro ρ' τ pool rs hl hd hout hk
        obtain ⟨_, e3, rfl⟩ := hd 3 rfl
        refine o_load (j := 0) (v := .int .u32 a0.1) rfl rfl rfl z_sc22 e3 rfl rfl ?_
        exact st_addNil (hk _ _ (Sto.Le.refl _) rfl)
      · intro ρ' τ pool rs hl hd hout hk
        refine o_move rfl rfl rfl ((hout 1 rfl).trans rfl) ?_
        exact st_addNil (hk _ _ (Sto.Le.refl _) rfl)
      · intro ρ' τ pool rs hl hd hout hk
        obtain ⟨_, e4, rfl⟩ := hd 4 rfl
        obtain ⟨_, e5, rfl⟩ := hd 5 rfl
        refine st_call (foot := []) rfl rfl rfl rfl (evs_cons e4 (evs_cons e5 rfl)) rfl (callV_fn z_en46 (serial_Way_ok hr19 τ)) ?_
        rintro vτ20 τ20 gsτ20 hl21 ⟨rfl, rfl⟩
        exact st_addNil (hk _ _ hl21 rfl)
      · intro ρ' τ pool rs hl hd hout hk
        obtain ⟨_, e2, rfl⟩ := hd 2 rfl
        obtain ⟨_, e6, rfl⟩ := hd 6 rfl
        refine o_shl rfl rfl rfl e2 e6 hf22 ?_
        exact st_addNil (hk _ _ (Sto.Le.refl _) rfl)
      · intro ρ' τ pool rs hl hd hout hk
        obtain ⟨_, e0, rfl⟩ := hd 0 rfl
        obtain ⟨_, e7, rfl⟩ := hd 7 rfl
        refine o_build (ps := [(0, [.int .u32 a1]), (1, [.int .u64 (ishl .u64 a0.2 r18)])]) (cs := [.int .u32 a1, .int .u64 (ishl .u64 a0.2 r18)]) rfl rfl rfl z_struct87 ⟨rfl, ⟨_, e0, rfl⟩, ⟨rfl, ⟨_, e7, rfl⟩, trivial⟩⟩ rfl ?_
        exact st_addNil (hk _ _ (Sto.Le.refl _) rfl)
      intro ρ' τ23 vals hl23 hv hout
      have l8 : Eng.look ρ' 29 = some (.agg [.int .u32 a1, .int .u64 (ishl .u64 a0.2 r18)].toArray) := (hv 8 (by decide)).1.trans (congrArg some (show vals 8 = .agg [.int .u32 a1, .int .u64 (ishl .u64 a0.2 r18)].toArray from (hv 8 (by decide)).2))
      refine st_env (ρ' := [(29, .agg [.int .u32 a1, .int .u64 (ishl .u64 a0.2 r18)].toArray), (0, .pointer (some ⟨ba0, 0, none⟩)), (1, .int .u32 a1), (4, .int .i64 0), (6, .pointer (some ⟨b5, 0, none⟩))]) ⟨l8, (hout 0 rfl).trans rfl, (hout 1 rfl).trans rfl, (hout 4 rfl).trans rfl, (hout 6 rfl).trans rfl, trivial⟩ ?_
      refine st_ord [0, 0] [[(b5, .cells [.int .u32 a0.1, .int .u64 a0.2].toArray 87 (0, 0))], [(ba0, .cells [.int .u32 a0.1, .int .u64 a0.2].toArray 89 (0, 0))]] rfl ?_
      refine o_store (j := 0) (vs := [.int .u32 a1, .int .u64 (ishl .u64 a0.2 r18)]) (cs' := [.int .u32 a1, .int .u64 (ishl .u64 a0.2 r18)]) rfl rfl rfl z_size87 rfl rfl rfl (ones_cons rfl (ones_cons rfl ones_nil)) rfl rfl rfl ?_
      refine st_gs [[(b5, .cells [.int .u32 a1, .int .u64 (ishl .u64 a0.2 r18)].toArray 87 (0, 0))], [(ba0, .cells [.int .u32 a0.1, .int .u64 a0.2].toArray 89 (0, 0))]] rfl ?_
      refine st_end ?_
      refine st_env (ρ' := [(0, .pointer (some ⟨ba0, 0, none⟩)), (1, .int .u32 a1), (4, .int .i64 0), (6, .pointer (some ⟨b5, 0, none⟩))]) ⟨rfl, rfl, rfl, rfl, trivial⟩ ?_
      refine st_ord [1, 0] [[(ba0, .cells [.int .u32 a0.1, .int .u64 a0.2].toArray 89 (0, 0))], [(b5, .cells [.int .u32 a1, .int .u64 (ishl .u64 a0.2 r18)].toArray 87 (0, 0))]] rfl ?_
      exact hk6 _ _ _ ⟨(a1, (ishl .u64 a0.2 r18)), h, (hl17.trans hl23), rfl, rfl⟩
    · replace h := (if_neg (ne_t hc)).mp h
      refine st_skip ?_
      refine st_env (ρ' := [(0, .pointer (some ⟨ba0, 0, none⟩)), (1, .int .u32 a1), (4, .int .i64 0), (6, .pointer (some ⟨b5, 0, none⟩))]) ⟨rfl, rfl, rfl, rfl, trivial⟩ ?_
      refine st_ord [1, 0] [[(ba0, .cells [.int .u32 a0.1, .int .u64 a0.2].toArray 89 (0, 0))], [(b5, .cells [.int .u32 a0.1, .int .u64 a0.2].toArray 87 (0, 0))]] rfl ?_
      exact hk6 _ _ _ ⟨(a0.1, a0.2), h, hl17, rfl, rfl⟩
theorem ack_Newer_ok {a0 : Int × Int} {a1 : Int × Int} {r : Bool} (h : ack_Newer a0 a1 r) (σ : Sto)  :
    Does Try.prog 19 [.agg [.int .u32 a0.1, .int .u64 a0.2].toArray, .agg [.int .u32 a1.1, .int .u64 a1.2].toArray] σ [] (fun v τ gs => gs = [] ∧ v = .bool r) := by
  refine call_of Try.func19 Try.ntmps19 rfl rfl (fun cs fs => ?_)
  refine st_seq ?_
  refine st_region ?_
  refine o_box (cs := [.int .u32 a0.1, .int .u64 a0.2]) rfl rfl rfl rfl rfl (fun b1 => ?_)
  refine o_box (cs := [.int .u32 a1.1, .int .u64 a1.2]) rfl rfl rfl rfl rfl (fun b2 => ?_)
  refine o_assign rfl rfl rfl rfl ?_
  refine st_end ?_
  refine st_seq ?_
  refine st_seq ?_
  refine st_region ?_
  refine o_fieldAddr rfl rfl rfl z_field25_0 rfl ?_
  refine o_load (j := 1) (v := .int .u32 a0.1) rfl rfl rfl z_sc22 rfl rfl rfl ?_
  refine o_fieldAddr rfl rfl rfl z_field25_0 rfl ?_
  refine o_load (j := 0) (v := .int .u32 a1.1) rfl rfl rfl z_sc22 rfl rfl rfl ?_
  refine o_ibin (v := .bool (!(decide (a0.1 = a1.1)))) rfl rfl rfl rfl rfl rfl ?_
  refine st_end ?_
  refine st_cond rfl (fun hc => ?_) (fun hc => ?_)
  · replace h := (if_pos hc).mp h
    refine st_seq ?_
    refine st_region ?_
    refine o_fieldAddr rfl rfl rfl z_field25_0 rfl ?_
    refine o_load (j := 1) (v := .int .u32 a0.1) rfl rfl rfl z_sc22 rfl rfl rfl ?_
    refine o_fieldAddr rfl rfl rfl z_field25_0 rfl ?_
    refine o_load (j := 0) (v := .int .u32 a1.1) rfl rfl rfl z_sc22 rfl rfl rfl ?_
    obtain ⟨r3, hr4, h⟩ := h
    refine st_call (foot := []) rfl rfl rfl rfl rfl rfl (callV_fn z_en47 (serial_After_ok hr4 σ)) ?_
    rintro vτ5 τ5 gsτ5 hl6 ⟨rfl, rfl⟩
    refine o_assign rfl rfl rfl rfl ?_
    refine st_end ?_
    refine st_ord [] [] rfl ?_
    obtain rfl := h
    exact st_ret (gs' := []) Try.func19 rfl (List.Sublist.refl _) hl6 ⟨rfl, rfl⟩
  · replace h := (if_neg (ne_t hc)).mp h
    refine st_skip ?_
    refine st_seq ?_
    refine st_cut (fun ρ τ7 gs => ∃ (s7 : Bool), ack_Newer_j1 s7 r ∧ σ.Le τ7 ∧ ρ = [(4, .bool s7)] ∧ gs = []) ?_ (fun hk7 => ?_)
    · rintro ρ7 τ7 gs7 ⟨s7, h, hl7, rfl, rfl⟩
      obtain rfl := h
      exact st_ret (gs' := []) Try.func19 rfl (List.Sublist.refl _) hl7 ⟨rfl, rfl⟩
    refine st_region ?_
    refine o_fieldAddr rfl rfl rfl z_field25_1 rfl ?_
    refine o_load (j := 1) (v := .int .u64 a0.2) rfl rfl rfl z_sc23 rfl rfl rfl ?_
    refine o_fieldAddr rfl rfl rfl z_field25_1 rfl ?_
    refine o_load (j := 0) (v := .int .u64 a1.2) rfl rfl rfl z_sc23 rfl rfl rfl ?_
    refine o_ibin (v := .bool (!(decide (a0.2 = a1.2)))) rfl rfl rfl rfl rfl rfl ?_
    refine o_moveB rfl rfl rfl rfl (fun hc => ?_) (fun hc => ?_)
    · replace h := (if_pos hc).mp h
      refine o_fieldAddr rfl rfl rfl z_field25_1 rfl ?_
      refine o_load (j := 1) (v := .int .u64 a0.2) rfl rfl rfl z_sc23 rfl rfl rfl ?_
      refine o_fieldAddr rfl rfl rfl z_field25_1 rfl ?_
      refine o_load (j := 0) (v := .int .u64 a1.2) rfl rfl rfl z_sc23 rfl rfl rfl ?_
      refine o_ibin (v := .int .u64 (iand .u64 a0.2 a1.2)) rfl rfl rfl rfl rfl rfl ?_
      refine o_fieldAddr rfl rfl rfl z_field25_1 rfl ?_
      refine o_load (j := 0) (v := .int .u64 a1.2) rfl rfl rfl z_sc23 rfl rfl rfl ?_
      refine o_ibin (v := .bool (decide ((iand .u64 a0.2 a1.2) = a1.2))) rfl rfl rfl rfl rfl rfl ?_
      refine o_pick rfl rfl rfl rfl rfl ?_
      refine o_assign rfl rfl rfl rfl ?_
      refine st_end ?_
      refine st_env (ρ' := [(4, .bool (decide ((iand .u64 a0.2 a1.2) = a1.2)))]) ⟨rfl, trivial⟩ ?_
      refine st_ord [] [] rfl ?_
      exact hk7 _ _ _ ⟨(decide ((iand .u64 a0.2 a1.2) = a1.2)), h, (Sto.Le.refl _), rfl, rfl⟩
    · replace h := (if_neg (ne_t hc)).mp h
      refine st_pass rfl rfl rfl rfl rfl rfl ?_
      refine st_pass rfl rfl rfl rfl rfl rfl ?_
      refine st_pass rfl rfl rfl rfl rfl rfl ?_
      refine st_pass rfl rfl rfl rfl rfl rfl ?_
      refine st_pass rfl rfl rfl rfl rfl rfl ?_
      refine st_pass rfl rfl rfl rfl rfl rfl ?_
      refine st_pass rfl rfl rfl rfl rfl rfl ?_
      refine st_pass rfl rfl rfl rfl rfl rfl ?_
      refine o_pick rfl rfl rfl rfl rfl ?_
      refine o_assign rfl rfl rfl rfl ?_
      refine st_end ?_
      refine st_env (ρ' := [(4, .bool false)]) ⟨rfl, trivial⟩ ?_
      refine st_ord [] [] rfl ?_
      exact hk7 _ _ _ ⟨false, h, (Sto.Le.refl _), rfl, rfl⟩
theorem law32_known_ok  {r : Bool} (h : law32_known r) (σ : Sto)  :
    Does Try.prog 13 [] σ [] (fun v τ gs => gs = [] ∧ v = .bool r) := by
  refine call_of Try.func13 Try.ntmps13 rfl rfl (fun cs fs => ?_)
  refine st_seq ?_
  refine st_region ?_
  refine o_assign rfl rfl rfl rfl ?_
  refine st_end ?_
  refine st_seq ?_
  refine st_region ?_
  obtain ⟨r1, hr2, h⟩ := h
  refine st_call (foot := []) rfl rfl rfl rfl rfl rfl (callV_fn z_en14 (window_New_ok hr2 σ)) ?_
  rintro vτ3 τ3 gsτ3 hl4 ⟨b5, rfl, rfl⟩
  obtain ⟨r6, hr7, h⟩ := h
  refine st_call (foot := [[(b5, .cells [.int .u32 r1.1, .int .u64 r1.2].toArray 89 (0, 0))]]) rfl rfl rfl rfl rfl rfl (callV_fn z_en15 (ack_Of_ok hr7 τ3)) ?_
  rintro vτ8 τ8 gsτ8 hl9 ⟨rfl, rfl⟩
  refine o_alloc rfl rfl rfl z_zero25 (fun b10 => ?_)
  refine o_store (j := 0) (vs := [.int .u32 r6.1, .int .u64 r6.2]) (cs' := [.int .u32 r6.1, .int .u64 r6.2]) rfl rfl rfl z_size25 rfl rfl rfl (ones_cons rfl (ones_cons rfl ones_nil)) rfl rfl rfl ?_
  refine st_gs [[(b10, .cells [.int .u32 r6.1, .int .u64 r6.2].toArray 25 (0, 0))], [(b5, .cells [.int .u32 r1.1, .int .u64 r1.2].toArray 89 (0, 0))]] rfl ?_
  refine st_end ?_
  refine st_seq ?_
  refine st_cut (fun ρ τ11 gs => ∃ (s11 : Bool), law32_known_j1 s11 r ∧ τ8.Le τ11 ∧ ρ = [(0, .bool s11)] ∧ gs = []) ?_ (fun hk11 => ?_)
  · rintro ρ11 τ11 gs11 ⟨s11, h, hl11, rfl, rfl⟩
    obtain rfl := h
    exact st_ret (gs' := []) Try.func13 rfl (List.Sublist.refl _) ((hl4.trans hl9).trans hl11) ⟨rfl, rfl⟩
  refine st_region ?_
  refine o_fieldAddr rfl rfl rfl z_field25_0 rfl ?_
  refine o_load (j := 0) (v := .int .u32 r6.1) rfl rfl rfl z_sc22 rfl rfl rfl ?_
  refine o_ibin (v := .bool (decide (r6.1 = 4))) rfl rfl rfl rfl rfl rfl ?_
  refine o_moveB rfl rfl rfl rfl (fun hc => ?_) (fun hc => ?_)
  · replace h := (if_pos hc).mp h
    refine o_fieldAddr rfl rfl rfl z_field25_1 rfl ?_
    refine o_load (j := 0) (v := .int .u64 r6.2) rfl rfl rfl z_sc23 rfl rfl rfl ?_
    refine o_ibin (v := .bool (decide (r6.2 = 18446744073709551615))) rfl rfl rfl rfl rfl rfl ?_
    refine o_pick rfl rfl rfl rfl rfl ?_
    refine o_moveB rfl rfl rfl rfl (fun hc => ?_) (fun hc => ?_)
    · replace h := (if_pos hc).mp h
      refine o_loadN (j := 0) (vs := [.int .u32 r6.1, .int .u64 r6.2]) rfl rfl rfl z_agg25 rfl rfl rfl ?_
      obtain ⟨r12, hr13, h⟩ := h
      refine st_call (foot := []) rfl rfl rfl rfl rfl rfl (callV_fn z_en40 (ack_Has_ok hr13 τ8)) ?_
      rintro vτ14 τ14 gsτ14 hl15 ⟨rfl, rfl⟩
      refine o_pick rfl rfl rfl rfl rfl ?_
      refine o_moveB rfl rfl rfl rfl (fun hc => ?_) (fun hc => ?_)
      · replace h := (if_pos hc).mp h
        refine o_loadN (j := 0) (vs := [.int .u32 r6.1, .int .u64 r6.2]) rfl rfl rfl z_agg25 rfl rfl rfl ?_
        obtain ⟨r16, hr17, h⟩ := h
        refine st_call (foot := []) rfl rfl rfl rfl rfl rfl (callV_fn z_en40 (ack_Has_ok hr17 τ14)) ?_
        rintro vτ18 τ18 gsτ18 hl19 ⟨rfl, rfl⟩
        refine o_not rfl rfl rfl rfl ?_
        refine o_pick rfl rfl rfl rfl rfl ?_
        refine o_assign rfl rfl rfl rfl ?_
        refine st_end ?_
        refine st_env (ρ' := [(0, .bool (!r16))]) ⟨rfl, trivial⟩ ?_
        refine st_ord [] [] rfl ?_
        exact hk11 _ _ _ ⟨(!r16), h, (hl15.trans hl19), rfl, rfl⟩
      · replace h := (if_neg (ne_t hc)).mp h
        refine st_pass rfl rfl rfl rfl rfl rfl ?_
        refine st_pass rfl rfl rfl rfl rfl rfl ?_
        refine st_pass rfl rfl rfl rfl rfl rfl ?_
        refine o_pick rfl rfl rfl rfl rfl ?_
        refine o_assign rfl rfl rfl rfl ?_
        refine st_end ?_
        refine st_env (ρ' := [(0, .bool false)]) ⟨rfl, trivial⟩ ?_
        refine st_ord [] [] rfl ?_
        exact hk11 _ _ _ ⟨false, h, hl15, rfl, rfl⟩
    · replace h := (if_neg (ne_t hc)).mp h
      refine st_pass rfl rfl rfl rfl rfl rfl ?_
      refine st_pass rfl rfl rfl rfl rfl rfl ?_
      refine o_pick rfl rfl rfl rfl rfl ?_
      refine o_move rfl rfl rfl rfl ?_
      refine st_pass rfl rfl rfl rfl rfl rfl ?_
      refine st_pass rfl rfl rfl rfl rfl rfl ?_
      refine st_pass rfl rfl rfl rfl rfl rfl ?_
      refine o_pick rfl rfl rfl rfl rfl ?_
      refine o_assign rfl rfl rfl rfl ?_
      refine st_end ?_
      refine st_env (ρ' := [(0, .bool false)]) ⟨rfl, trivial⟩ ?_
      refine st_ord [] [] rfl ?_
      exact hk11 _ _ _ ⟨false, h, (Sto.Le.refl _), rfl, rfl⟩
  · replace h := (if_neg (ne_t hc)).mp h
    refine st_pass rfl rfl rfl rfl rfl rfl ?_
    refine st_pass rfl rfl rfl rfl rfl rfl ?_
    refine st_pass rfl rfl rfl rfl rfl rfl ?_
    refine o_pick rfl rfl rfl rfl rfl ?_
    refine o_move rfl rfl rfl rfl ?_
    refine st_pass rfl rfl rfl rfl rfl rfl ?_
    refine st_pass rfl rfl rfl rfl rfl rfl ?_
    refine o_pick rfl rfl rfl rfl rfl ?_
    refine o_move rfl rfl rfl rfl ?_
    refine st_pass rfl rfl rfl rfl rfl rfl ?_
    refine st_pass rfl rfl rfl rfl rfl rfl ?_
    refine st_pass rfl rfl rfl rfl rfl rfl ?_
    refine o_pick rfl rfl rfl rfl rfl ?_
    refine o_assign rfl rfl rfl rfl ?_
    refine st_end ?_
    refine st_env (ρ' := [(0, .bool false)]) ⟨rfl, trivial⟩ ?_
    refine st_ord [] [] rfl ?_
    exact hk11 _ _ _ ⟨false, h, (Sto.Le.refl _), rfl, rfl⟩
theorem serial_Run_1_ok {c0 : Int} {c1 : Int} {bc0 : Nat} {bc1 : Nat} {σ0 : Sto} (hc0_0 : Cel σ0 ⟨bc0, 0, none⟩ (.int .i64 c0)) (hc1_0 : Cel σ0 ⟨bc1, 0, none⟩ (.int .u32 c1)) :
    IterV Try.prog (fun _ x vx => vx = [.int .u32 x]) (.func (.func 71) #[] [.pointer (some ⟨bc0, 0, none⟩), .pointer (some ⟨bc1, 0, none⟩)].toArray) σ0 [] (fun (_ : Unit) _ f => f = []) (serial_Run_1 c0 c1) := by
  intro S Y I y hyc hyo hIm hY s s' o hR σ g hle hIg
  obtain ⟨r, hr0⟩ : ∃ r, r = (s', o) := ⟨_, rfl⟩
  rw [← hr0] at hR
  have h := hR
  refine callV_of (caps := [.pointer (some ⟨bc0, 0, none⟩), .pointer (some ⟨bc1, 0, none⟩)]) z_en71 ?_
  refine call_of Try.func71 Try.ntmps71 rfl rfl (fun cs fs => ?_)
  refine st_ord [0] [g] rfl ?_
  refine st_seq ?_
  refine st_region ?_
  refine o_assign rfl rfl rfl rfl ?_
  refine st_end ?_
  obtain ⟨e1, hL1, hA1⟩ := h
  refine st_env (ρ' := [(0, y), (1, .pointer (some ⟨bc0, 0, none⟩)), (2, .pointer (some ⟨bc1, 0, none⟩)), (4, .int .i64 0)]) ⟨rfl, rfl, rfl, rfl, trivial⟩ ?_
  refine st_loop hL1 (fun (s1 : S × Int) ρ τ1 gs => σ.Le τ1 ∧ ∃ (g2 : Grp), ρ = [(0, y), (1, .pointer (some ⟨bc0, 0, none⟩)), (2, .pointer (some ⟨bc1, 0, none⟩)), (4, .int .i64 s1.2)] ∧ gs = [g2] ∧ I s1.1 τ1 g2) ⟨Sto.Le.refl _, g, rfl, rfl, hIg⟩ ?_
  rintro s1 o1 h he1 ρ1 τ1 gs1 ⟨hl1, g2, rfl, rfl, hI3⟩ hn1
  refine st_seq ?_
  refine st_seq ?_
  refine st_region ?_
  refine o_move rfl rfl rfl rfl ?_
  refine o_loadI (v := .int .i64 c0) rfl rfl rfl z_sc3 rfl (Cel.up hc0_0 (hle.trans hl1)) ?_
  refine o_ibin (v := .bool (decide (s1.2 < c0))) rfl rfl rfl rfl rfl rfl ?_
  refine st_end ?_
  refine st_cond rfl (fun hc => ?_) (fun hc => ?_)
  · replace h := (if_pos hc).mp h
    refine st_skip ?_
    refine st_seq ?_
    refine st_block ?_
    refine st_seq ?_
    refine st_region ?_
    refine o_move rfl rfl rfl rfl ?_
    refine o_loadI (v := .int .u32 c1) rfl rfl rfl z_sc22 rfl (Cel.up hc1_0 (hle.trans hl1)) ?_
    refine o_move rfl rfl rfl rfl ?_
    obtain ⟨r4, hr5, h⟩ := h
    refine st_call (foot := []) rfl rfl rfl rfl rfl rfl (callV_fn z_en43 (serial_Add_ok hr5 τ1)) ?_
    rintro vτ6 τ6 gsτ6 hl7 ⟨rfl, rfl⟩
    obtain ⟨y8, u9, hy10, h⟩ := h
    refine st_call (foot := [g2]) rfl rfl rfl rfl rfl rfl (hY r4 s1.1 _ _ _ _ _ (hle.trans (hl1.trans hl7)) hy10 rfl (hIm _ _ _ _ hl7 hI3)) ?_
    rintro vτ11 τ11 gsτ11 hl12 ⟨rfl, g13, rfl, hI14⟩
    refine o_not rfl rfl rfl rfl ?_
    refine st_end ?_
    refine st_cond rfl (fun hc => ?_) (fun hc => ?_)
    · replace h := (if_pos hc).mp h
      obtain rfl := he1 _ h
      replace h := hA1
      obtain rfl := h
      cases hr0
      exact st_ret (gs' := [g13, []]) Try.func71 rfl (by simp) ((hl1.trans hl7).trans hl12) ⟨g13, [], rfl, hI14, rfl⟩
    · replace h := (if_neg (ne_t hc)).mp h
      refine st_skip ?_
      refine st_inBlock ?_
      refine st_region ?_
      refine o_move rfl rfl rfl rfl ?_
      refine o_ibin (v := .int .i64 (IntKind.i64.wrap (s1.2 + 1))) rfl rfl rfl rfl rfl rfl ?_
      refine o_assign rfl rfl rfl rfl ?_
      refine st_end ?_
      refine st_env (ρ' := [(0, y), (1, .pointer (some ⟨bc0, 0, none⟩)), (2, .pointer (some ⟨bc1, 0, none⟩)), (4, .int .i64 (IntKind.i64.wrap (s1.2 + 1)))]) ⟨rfl, rfl, rfl, rfl, trivial⟩ ?_
      exact hn1 _ _ _ _ h ⟨((hl1.trans hl7).trans hl12), g13, rfl, rfl, hI14⟩
  · replace h := (if_neg (ne_t hc)).mp h
    refine st_exit rfl ?_
    obtain rfl := he1 _ h
    replace h := hA1
    obtain rfl := h
    cases hr0
    exact st_fin (gs' := [g2, []]) Try.func71 rfl (by simp) hl1 ⟨g2, [], rfl, hI3, rfl⟩
theorem serial_Run_ok {a0 : Int} {a1 : Int} {r : (((S : Type) → (Int → S → Bool × S → Prop) → S → S × Unit → Prop))} (h : serial_Run a0 a1 r) (σ : Sto)  :
    Does Try.prog 39 [.int .u32 a0, .int .i64 a1] σ [] (fun v τ gs => ∃ (f9 : Nat) (q10 : Array Value), gs = [] ∧ v = .func (.func f9) #[] q10 ∧ IterV Try.prog (fun _ x vx => vx = [.int .u32 x]) (.func (.func f9) #[] q10) τ [] (fun (_ : Unit) _ f => f = []) r) := by
  refine call_of Try.func39 Try.ntmps39 rfl rfl (fun cs fs => ?_)
  refine st_seq ?_
  refine st_region ?_
  refine o_box (cs := [.int .u32 a0]) rfl rfl rfl rfl rfl (fun b1 => ?_)
  refine o_box (cs := [.int .i64 a1]) rfl rfl rfl rfl rfl (fun b2 => ?_)
  refine o_assign rfl rfl rfl rfl ?_
  refine st_end ?_
  refine st_seq ?_
  refine st_region ?_
  refine st_freeze (fun τ3 hl4 hg5 => ?_)
  refine st_freeze (fun τ6 hl7 hg8 => ?_)
  refine o_func rfl rfl rfl rfl rfl ?_
  refine o_assign rfl rfl rfl rfl ?_
  refine st_end ?_
  obtain rfl := h
  exact st_ret (gs' := []) Try.func39 rfl (List.Sublist.refl _) (hl4.trans hl7) ⟨_, _, rfl, rfl, (serial_Run_1_ok (Cel.up (cel_of hg5 rfl) hl7) (cel_of hg8 rfl))⟩
theorem ack_Missing_1_ok {c0 : Int} {c1 : Int} {c2 : Int × Int} {bc0 : Nat} {bc1 : Nat} {bc2 : Nat} {σ0 : Sto} (hc0_0 : Cel σ0 ⟨bc0, 0, none⟩ (.int .u32 c0)) (hc1_0 : Cel σ0 ⟨bc1, 0, none⟩ (.int .i64 c1)) (hc2_0 : Cel σ0 ⟨bc2, 0, none⟩ (.int .u32 c2.1)) (hc2_1 : Cel σ0 ⟨bc2, 1, none⟩ (.int .u64 c2.2)) :
    IterV Try.prog (fun _ x vx => vx = [.int .u32 x]) (.func (.func 38) #[] [.pointer (some ⟨bc0, 0, none⟩), .pointer (some ⟨bc1, 0, none⟩), .pointer (some ⟨bc2, 0, none⟩)].toArray) σ0 [] (fun (_ : Unit) _ f => f = []) (ack_Missing_1 c0 c1 c2) := by
  intro S Y I y hyc hyo hIm hY s s' o hR σ g hle hIg
  obtain ⟨r, hr0⟩ : ∃ r, r = (s', o) := ⟨_, rfl⟩
  rw [← hr0] at hR
  have h := hR
  refine callV_of (caps := [.pointer (some ⟨bc0, 0, none⟩), .pointer (some ⟨bc1, 0, none⟩), .pointer (some ⟨bc2, 0, none⟩)]) z_en38 ?_
  refine call_of Try.func38 Try.ntmps38 rfl rfl (fun cs fs => ?_)
  refine st_ord [0] [g] rfl ?_
  refine st_seq ?_
  refine st_region ?_
  refine o_box (cs := [y]) rfl rfl rfl rfl hyc (fun b1 => ?_)
  refine st_end ?_
  refine st_scope ?_
  refine st_seq ?_
  refine st_label ?_
  refine st_seq ?_
  refine st_region ?_
  refine o_loadI (v := .int .u32 c0) rfl rfl rfl z_sc22 rfl (Cel.up hc0_0 hle) ?_
  refine o_loadI (v := .int .i64 c1) rfl rfl rfl z_sc3 rfl (Cel.up hc1_0 hle) ?_
  obtain ⟨r2, hr3, h⟩ := h
  refine st_call (foot := []) rfl rfl rfl rfl rfl rfl (callV_fn z_en39 (serial_Run_ok hr3 σ)) ?_
  rintro vτ4 τ4 gsτ4 hl5 ⟨f6, q7, rfl, rfl, hit8⟩
  refine st_end ?_
  refine st_block ?_
  obtain ⟨t9, w9, hR9, hA9⟩ := h
  refine st_env (ρ' := [(3, .pointer (some ⟨bc2, 0, none⟩)), (4, .pointer (some ⟨b1, 0, none⟩)), (8, .func (.func f6) #[] q7)]) ⟨rfl, rfl, rfl, trivial⟩ ?_
  refine st_addNil ?_
  refine st_range (B := ack_Missing_1_l1 S Y c2) (s0 := s) ranges_fctx rfl hit8 (Sto.Le.refl _) hR9 rfl (fun _ _ _ h => by cases h; rfl) (fun (s9 : S) τ9 gs => τ4.Le τ9 ∧ ∃ (g10 : Grp), gs = [[(b1, .cells [y].toArray 82 (0, 0))], g10] ∧ I s9 τ9 g10) (fun (p23 : S) cd τ24 gs => cd = .exit 0 ∧ τ4.Le τ24 ∧ ∃ (g26 : Grp), gs = [[(b1, .cells [y].toArray 82 (0, 0))], g26] ∧ I p23 τ24 g26) (fun _ _ _ _ hl ⟨hb, g10, hg, hI11⟩ => ⟨hb.trans hl, g10, hg, hIm _ _ _ _ hl hI11⟩) (fun _ _ _ _ _ hl ⟨hc, hb, g26, hg, hI27⟩ => ⟨hc, hb.trans hl, g26, hg, hIm _ _ _ _ hl hI27⟩) ⟨Sto.Le.refl _, g, rfl, (hIm _ _ _ _ hl5 hIg)⟩ ?_ ?_ ?_
  · rintro x9 s9 o9 τ9 gs9 vx9 hl9 h rfl ⟨hb9, g10, rfl, hI11⟩ l9 rc9 caller9 cs9 fs9
    refine st_region ?_
    refine o_assign rfl rfl rfl rfl ?_
    refine st_end ?_
    refine st_begin ?_
    refine st_block ?_
    refine st_seq ?_
    refine st_seq ?_
    refine st_region ?_
    refine o_loadIN (vs := [.int .u32 c2.1, .int .u64 c2.2]) rfl rfl rfl z_agg25 rfl rfl (celn_cons (Cel.up hc2_0 ((hle.trans hl5).trans hl9)) (celn_cons (Cel.up hc2_1 ((hle.trans hl5).trans hl9)) celn_nil)) ?_
    refine o_move rfl rfl rfl rfl ?_
    obtain ⟨r12, hr13, h⟩ := h
    refine st_call (foot := []) rfl rfl rfl rfl rfl rfl (callV_fn z_en40 (ack_Has_ok hr13 τ9)) ?_
    rintro vτ14 τ14 gsτ14 hl15 ⟨rfl, rfl⟩
    refine st_end ?_
    refine st_cond rfl (fun hc => ?_) (fun hc => ?_)
    · replace h := (if_pos hc).mp h
      refine st_exit rfl ?_
      exact st_rend (List.Sublist.refl _) hl15 ⟨_, h, (hl9.trans hl15), g10, rfl, (hIm _ _ _ _ hl15 hI11)⟩
    · replace h := (if_neg (ne_t hc)).mp h
      refine st_skip ?_
      refine st_seq ?_
      refine st_region ?_
      refine o_load (j := 0) (v := y) rfl rfl rfl z_sc82 rfl rfl rfl ?_
      refine o_move rfl rfl rfl rfl ?_
      obtain ⟨y16, u17, hy18, h⟩ := h
      refine st_ord [1, 0] [g10, [(b1, .cells [y].toArray 82 (0, 0))]] rfl ?_
      refine st_call (foot := [g10]) rfl rfl rfl rfl rfl rfl (hY x9 s9 _ _ _ _ _ (hle.trans ((hl5.trans hl9).trans hl15)) hy18 rfl (hIm _ _ _ _ hl15 hI11)) ?_
      rintro vτ19 τ19 gsτ19 hl20 ⟨rfl, g21, rfl, hI22⟩
      refine o_not rfl rfl rfl rfl ?_
      refine st_end ?_
      refine st_cond rfl (fun hc => ?_) (fun hc => ?_)
      · replace h := (if_pos hc).mp h
        refine st_ord [1, 0] [[(b1, .cells [y].toArray 82 (0, 0))], g21] rfl ?_
        exact st_rexit rfl (List.Sublist.refl _) (hl15.trans hl20) ⟨_, h, rfl, ((hl9.trans hl15).trans hl20), g21, rfl, hI22⟩
      · replace h := (if_neg (ne_t hc)).mp h
        refine st_skip ?_
        refine st_inBlock ?_
        refine st_ord [1, 0] [[(b1, .cells [y].toArray 82 (0, 0))], g21] rfl ?_
        exact st_rend (List.Sublist.refl _) (hl15.trans hl20) ⟨_, h, ((hl9.trans hl15).trans hl20), g21, rfl, hI22⟩
  · rintro p28 τ29 gs9 f9 ht hl30 ⟨hb, g31, rfl, hI32⟩ rfl
    subst ht
    replace h := hA9
    refine st_ord [1, 1] [[(b1, .cells [y].toArray 82 (0, 0))], g31] rfl ?_
    refine st_inBlock ?_
    refine st_inScope ?_
    refine st_ord [1] [g31] rfl ?_
    obtain rfl := h
    cases hr0
    exact st_fin (gs' := [g31, []]) Try.func38 rfl (by simp) (hl5.trans hl30) ⟨g31, [], rfl, hI32, rfl⟩
  · rintro p23 cd9 τ24 gs9 f9 ht hl25 ⟨rfl, hb, g26, rfl, hI27⟩ rfl
    subst ht
    replace h := hA9
    refine st_ord [1, 1] [[(b1, .cells [y].toArray 82 (0, 0))], g26] rfl ?_
    refine st_exit rfl ?_
    refine st_inScope ?_
    refine st_ord [1] [g26] rfl ?_
    obtain rfl := h
    cases hr0
    exact st_fin (gs' := [g26, []]) Try.func38 rfl (by simp) (hl5.trans hl25) ⟨g26, [], rfl, hI27, rfl⟩
theorem ack_Missing_ok {a0 : Int × Int} {a1 : Int} {a2 : Int} {r : (((S : Type) → (Int → S → Bool × S → Prop) → S → S × Unit → Prop))} (h : ack_Missing a0 a1 a2 r) (σ : Sto)  :
    Does Try.prog 10 [.agg [.int .u32 a0.1, .int .u64 a0.2].toArray, .int .u32 a1, .int .i64 a2] σ [] (fun v τ gs => ∃ (f13 : Nat) (q14 : Array Value), gs = [] ∧ v = .func (.func f13) #[] q14 ∧ IterV Try.prog (fun _ x vx => vx = [.int .u32 x]) (.func (.func f13) #[] q14) τ [] (fun (_ : Unit) _ f => f = []) r) := by
  refine call_of Try.func10 Try.ntmps10 rfl rfl (fun cs fs => ?_)
  refine st_seq ?_
  refine st_region ?_
  refine o_box (cs := [.int .u32 a0.1, .int .u64 a0.2]) rfl rfl rfl rfl rfl (fun b1 => ?_)
  refine o_box (cs := [.int .u32 a1]) rfl rfl rfl rfl rfl (fun b2 => ?_)
  refine o_box (cs := [.int .i64 a2]) rfl rfl rfl rfl rfl (fun b3 => ?_)
  refine o_assign rfl rfl rfl rfl ?_
  refine st_end ?_
  refine st_seq ?_
  refine st_region ?_
  refine st_ord [1, 0, 0] [[(b2, .cells [.int .u32 a1].toArray 22 (0, 0))], [(b3, .cells [.int .i64 a2].toArray 3 (0, 0))], [(b1, .cells [.int .u32 a0.1, .int .u64 a0.2].toArray 25 (0, 0))]] rfl ?_
  refine st_freeze (fun τ4 hl5 hg6 => ?_)
  refine st_freeze (fun τ7 hl8 hg9 => ?_)
  refine st_freeze (fun τ10 hl11 hg12 => ?_)
  refine o_func rfl rfl rfl rfl rfl ?_
  refine o_assign rfl rfl rfl rfl ?_
  refine st_end ?_
  obtain rfl := h
  exact st_ret (gs' := []) Try.func10 rfl (List.Sublist.refl _) ((hl5.trans hl8).trans hl11) ⟨_, _, rfl, rfl, (ack_Missing_1_ok (Cel.up (cel_of hg6 rfl) (hl8.trans hl11)) (Cel.up (cel_of hg9 rfl) hl11) (cel_of hg12 rfl) (cel_of hg12 rfl))⟩
theorem law32_AckMissing_ok {a0 : Int × Int} {a1 : Int} {a2 : Int} {a3 : Int} {r : Bool} (h : law32_AckMissing a0 a1 a2 a3 r) (σ : Sto)  :
    Does Try.prog 3 [.agg [.int .u32 a0.1, .int .u64 a0.2].toArray, .int .u32 a1, .int .i64 a2, .int .i64 a3] σ [] (fun v τ gs => gs = [] ∧ v = .bool r) := by
  refine call_of Try.func3 Try.ntmps3 rfl rfl (fun cs fs => ?_)
  refine st_seq ?_
  refine st_region ?_
  refine o_box (cs := [.int .u32 a0.1, .int .u64 a0.2]) rfl rfl rfl rfl rfl (fun b1 => ?_)
  refine o_box (cs := [.int .u32 a1]) rfl rfl rfl rfl rfl (fun b2 => ?_)
  refine o_box (cs := [.int .i64 a2]) rfl rfl rfl rfl rfl (fun b3 => ?_)
  refine o_box (cs := [.int .i64 a3]) rfl rfl rfl rfl rfl (fun b4 => ?_)
  refine o_assign rfl rfl rfl rfl ?_
  refine st_end ?_
  refine st_seq ?_
  refine st_region ?_
  refine o_load (j := 1) (v := .int .i64 a2) rfl rfl rfl z_sc3 rfl rfl rfl ?_
  refine o_min2 rfl rfl rfl rfl rfl ?_
  refine o_store (j := 1) (vs := [.int .i64 (min a2 200)]) (cs' := [.int .i64 (min a2 200)]) rfl rfl rfl z_size3 rfl rfl rfl (ones_cons rfl ones_nil) rfl rfl rfl ?_
  refine st_gs [[(b4, .cells [.int .i64 a3].toArray 3 (0, 0))], [(b3, .cells [.int .i64 (min a2 200)].toArray 3 (0, 0))], [(b2, .cells [.int .u32 a1].toArray 22 (0, 0))], [(b1, .cells [.int .u32 a0.1, .int .u64 a0.2].toArray 25 (0, 0))]] rfl ?_
  refine st_end ?_
  refine st_seq ?_
  refine st_region ?_
  refine o_alloc rfl rfl rfl z_zero3 (fun b5 => ?_)
  refine o_alloc rfl rfl rfl z_zero4 (fun b6 => ?_)
  refine o_store (j := 1) (vs := [.int .i64 0]) (cs' := [.int .i64 0]) rfl rfl rfl z_size3 rfl rfl rfl (ones_cons rfl ones_nil) rfl rfl rfl ?_
  refine st_gs [[(b6, .cells [.bool false].toArray 4 (0, 0))], [(b5, .cells [.int .i64 0].toArray 3 (0, 0))], [(b4, .cells [.int .i64 a3].toArray 3 (0, 0))], [(b3, .cells [.int .i64 (min a2 200)].toArray 3 (0, 0))], [(b2, .cells [.int .u32 a1].toArray 22 (0, 0))], [(b1, .cells [.int .u32 a0.1, .int .u64 a0.2].toArray 25 (0, 0))]] rfl ?_
  refine o_store (j := 0) (vs := [.bool true]) (cs' := [.bool true]) rfl rfl rfl z_size4 rfl rfl rfl (ones_cons rfl ones_nil) rfl rfl rfl ?_
  refine st_gs [[(b6, .cells [.bool true].toArray 4 (0, 0))], [(b5, .cells [.int .i64 0].toArray 3 (0, 0))], [(b4, .cells [.int .i64 a3].toArray 3 (0, 0))], [(b3, .cells [.int .i64 (min a2 200)].toArray 3 (0, 0))], [(b2, .cells [.int .u32 a1].toArray 22 (0, 0))], [(b1, .cells [.int .u32 a0.1, .int .u64 a0.2].toArray 25 (0, 0))]] rfl ?_
  refine st_end ?_
  refine st_seq ?_
  refine st_region ?_
  refine o_alloc rfl rfl rfl z_zero3 (fun b7 => ?_)
  refine o_store (j := 0) (vs := [.int .i64 0]) (cs' := [.int .i64 0]) rfl rfl rfl z_size3 rfl rfl rfl (ones_cons rfl ones_nil) rfl rfl rfl ?_
  refine st_gs [[(b7, .cells [.int .i64 0].toArray 3 (0, 0))], [(b6, .cells [.bool true].toArray 4 (0, 0))], [(b5, .cells [.int .i64 0].toArray 3 (0, 0))], [(b4, .cells [.int .i64 a3].toArray 3 (0, 0))], [(b3, .cells [.int .i64 (min a2 200)].toArray 3 (0, 0))], [(b2, .cells [.int .u32 a1].toArray 22 (0, 0))], [(b1, .cells [.int .u32 a0.1, .int .u64 a0.2].toArray 25 (0, 0))]] rfl ?_
  refine st_end ?_
  refine st_seq ?_
  refine st_region ?_
  refine o_loadN (j := 6) (vs := [.int .u32 a0.1, .int .u64 a0.2]) rfl rfl rfl z_agg25 rfl rfl rfl ?_
  refine o_load (j := 5) (v := .int .u32 a1) rfl rfl rfl z_sc22 rfl rfl rfl ?_
  refine o_load (j := 4) (v := .int .i64 (min a2 200)) rfl rfl rfl z_sc3 rfl rfl rfl ?_
  obtain ⟨r8, hr9, h⟩ := h
  refine st_call (foot := []) rfl rfl rfl rfl rfl rfl (callV_fn z_en10 (ack_Missing_ok hr9 σ)) ?_
  rintro vτ10 τ10 gsτ10 hl11 ⟨f12, q13, rfl, rfl, hit14⟩
  refine o_assign rfl rfl rfl rfl ?_
  refine st_end ?_
  refine st_seq ?_
  refine st_seq ?_
  refine st_region ?_
  refine o_move rfl rfl rfl rfl ?_
  refine o_fnNil (b := false) rfl rfl rfl Try.underlying27 rfl rfl rfl ?_
  refine st_end ?_
  refine st_condF rfl ?_
  refine st_skip ?_
  refine st_seq ?_
  refine st_seq ?_
  refine st_region ?_
  refine o_move rfl rfl rfl rfl ?_
  refine st_end ?_
  refine st_block ?_
  obtain ⟨t15, w15, hR15, hA15⟩ := h
  refine st_env (ρ' := [(4, .pointer (some ⟨b1, 0, none⟩)), (5, .pointer (some ⟨b2, 0, none⟩)), (6, .pointer (some ⟨b3, 0, none⟩)), (7, .pointer (some ⟨b4, 0, none⟩)), (8, .bool false), (9, .pointer (some ⟨b5, 0, none⟩)), (10, .pointer (some ⟨b6, 0, none⟩)), (11, .pointer (some ⟨b7, 0, none⟩)), (24, .func (.func f12) #[] q13)]) ⟨rfl, rfl, rfl, rfl, rfl, rfl, rfl, rfl, rfl, trivial⟩ ?_
  refine st_ord [6, 5, 4, 3, 2, 1, 0] [[(b1, .cells [.int .u32 a0.1, .int .u64 a0.2].toArray 25 (0, 0))], [(b2, .cells [.int .u32 a1].toArray 22 (0, 0))], [(b3, .cells [.int .i64 (min a2 200)].toArray 3 (0, 0))], [(b4, .cells [.int .i64 a3].toArray 3 (0, 0))], [(b5, .cells [.int .i64 0].toArray 3 (0, 0))], [(b6, .cells [.bool true].toArray 4 (0, 0))], [(b7, .cells [.int .i64 0].toArray 3 (0, 0))]] rfl ?_
  refine st_addNil ?_
  refine st_range (B := law32_AckMissing_l1 a0 a1 a2) (s0 := (0, true, 0)) ranges_fctx rfl hit14 (Sto.Le.refl _) hR15 rfl (fun _ _ _ h => by cases h; rfl) (fun (s15 : Int × Bool × Int) τ15 gs => τ10.Le τ15 ∧ gs = [[(b1, .cells [.int .u32 a0.1, .int .u64 a0.2].toArray 25 (0, 0))], [(b2, .cells [.int .u32 a1].toArray 22 (0, 0))], [(b3, .cells [.int .i64 (min a2 200)].toArray 3 (0, 0))], [(b4, .cells [.int .i64 a3].toArray 3 (0, 0))], [(b5, .cells [.int .i64 s15.1].toArray 3 (0, 0))], [(b6, .cells [.bool s15.2.1].toArray 4 (0, 0))], [(b7, .cells [.int .i64 s15.2.2].toArray 3 (0, 0))]]) (fun _ _ _ _ => False) (fun _ _ _ _ hl ⟨hb, hg⟩ => ⟨hb.trans hl, hg⟩) (fun _ _ _ _ _ _ h => h.elim) ⟨Sto.Le.refl _, rfl⟩ ?_ ?_ ?_
  · rintro x15 s15 o15 τ15 gs15 vx15 hl15 h rfl ⟨hb15, rfl⟩ l15 rc15 caller15 cs15 fs15
    refine st_region ?_
    refine o_assign rfl rfl rfl rfl ?_
    refine st_end ?_
    refine st_begin ?_
    refine st_block ?_
    refine st_seq ?_
    refine st_cut (fun ρ τ16 gs => ∃ (s16 : Int), law32_AckMissing_j2 a1 a2 x15 s15 s16 o15 ∧ τ15.Le τ16 ∧ ρ = [(4, .pointer (some ⟨b1, 0, none⟩)), (5, .pointer (some ⟨b2, 0, none⟩)), (6, .pointer (some ⟨b3, 0, none⟩)), (7, .pointer (some ⟨b4, 0, none⟩)), (8, .bool false), (9, .pointer (some ⟨b5, 0, none⟩)), (10, .pointer (some ⟨b6, 0, none⟩)), (11, .pointer (some ⟨b7, 0, none⟩)), (25, .int .u32 x15), (13, .int .u32 x15)] ∧ gs = [[(b1, .cells [.int .u32 a0.1, .int .u64 a0.2].toArray 25 (0, 0))], [(b2, .cells [.int .u32 a1].toArray 22 (0, 0))], [(b3, .cells [.int .i64 (min a2 200)].toArray 3 (0, 0))], [(b4, .cells [.int .i64 a3].toArray 3 (0, 0))], [(b5, .cells [.int .i64 s16].toArray 3 (0, 0))], [(b6, .cells [.bool s15.2.1].toArray 4 (0, 0))], [(b7, .cells [.int .i64 s15.2.2].toArray 3 (0, 0))]]) ?_ (fun hk16 => ?_)
    · rintro ρ16 τ16 gs16 ⟨s16, h, hl16, rfl, rfl⟩
      refine st_seq ?_
      refine st_cut (fun ρ τ17 gs => ∃ (s17 : Bool), law32_AckMissing_j3 s15 s16 s17 o15 ∧ τ16.Le τ17 ∧ ρ = [(4, .pointer (some ⟨b1, 0, none⟩)), (5, .pointer (some ⟨b2, 0, none⟩)), (6, .pointer (some ⟨b3, 0, none⟩)), (7, .pointer (some ⟨b4, 0, none⟩)), (8, .bool false), (9, .pointer (some ⟨b5, 0, none⟩)), (10, .pointer (some ⟨b6, 0, none⟩)), (11, .pointer (some ⟨b7, 0, none⟩)), (25, .int .u32 x15), (13, .int .u32 x15)] ∧ gs = [[(b1, .cells [.int .u32 a0.1, .int .u64 a0.2].toArray 25 (0, 0))], [(b2, .cells [.int .u32 a1].toArray 22 (0, 0))], [(b3, .cells [.int .i64 (min a2 200)].toArray 3 (0, 0))], [(b4, .cells [.int .i64 a3].toArray 3 (0, 0))], [(b5, .cells [.int .i64 s16].toArray 3 (0, 0))], [(b6, .cells [.bool s17].toArray 4 (0, 0))], [(b7, .cells [.int .i64 s15.2.2].toArray 3 (0, 0))]]) ?_ (fun hk17 => ?_)
      · rintro ρ17 τ17 gs17 ⟨s17, h, hl17, rfl, rfl⟩
        refine st_seq ?_
        refine st_region ?_
        refine o_load (j := 4) (v := .int .i64 s16) rfl rfl rfl z_sc3 rfl rfl rfl ?_
        refine o_ibin (v := .int .i64 (IntKind.i64.wrap (s16 + 1))) rfl rfl rfl rfl rfl rfl ?_
        refine o_store (j := 4) (vs := [.int .i64 (IntKind.i64.wrap (s16 + 1))]) (cs' := [.int .i64 (IntKind.i64.wrap (s16 + 1))]) rfl rfl rfl z_size3 rfl rfl rfl (ones_cons rfl ones_nil) rfl rfl rfl ?_
        refine st_gs [[(b1, .cells [.int .u32 a0.1, .int .u64 a0.2].toArray 25 (0, 0))], [(b2, .cells [.int .u32 a1].toArray 22 (0, 0))], [(b3, .cells [.int .i64 (min a2 200)].toArray 3 (0, 0))], [(b4, .cells [.int .i64 a3].toArray 3 (0, 0))], [(b5, .cells [.int .i64 (IntKind.i64.wrap (s16 + 1))].toArray 3 (0, 0))], [(b6, .cells [.bool s17].toArray 4 (0, 0))], [(b7, .cells [.int .i64 s15.2.2].toArray 3 (0, 0))]] rfl ?_
        refine st_end ?_
        refine st_region ?_
        refine o_load (j := 6) (v := .int .i64 s15.2.2) rfl rfl rfl z_sc3 rfl rfl rfl ?_
        refine o_ibin (v := .int .i64 (IntKind.i64.wrap (s15.2.2 + 1))) rfl rfl rfl rfl rfl rfl ?_
        refine o_store (j := 6) (vs := [.int .i64 (IntKind.i64.wrap (s15.2.2 + 1))]) (cs' := [.int .i64 (IntKind.i64.wrap (s15.2.2 + 1))]) rfl rfl rfl z_size3 rfl rfl rfl (ones_cons rfl ones_nil) rfl rfl rfl ?_
        refine st_gs [[(b1, .cells [.int .u32 a0.1, .int .u64 a0.2].toArray 25 (0, 0))], [(b2, .cells [.int .u32 a1].toArray 22 (0, 0))], [(b3, .cells [.int .i64 (min a2 200)].toArray 3 (0, 0))], [(b4, .cells [.int .i64 a3].toArray 3 (0, 0))], [(b5, .cells [.int .i64 (IntKind.i64.wrap (s16 + 1))].toArray 3 (0, 0))], [(b6, .cells [.bool s17].toArray 4 (0, 0))], [(b7, .cells [.int .i64 (IntKind.i64.wrap (s15.2.2 + 1))].toArray 3 (0, 0))]] rfl ?_
        refine st_end ?_
        refine st_inBlock ?_
        exact st_rend (List.Sublist.refl _) (hl16.trans hl17) ⟨_, h, ((hl15.trans hl16).trans hl17), rfl⟩
      refine st_region ?_
      refine o_load (j := 5) (v := .bool s15.2.1) rfl rfl rfl z_sc4 rfl rfl rfl ?_
      refine o_moveB rfl rfl rfl rfl (fun hc => ?_) (fun hc => ?_)
      · replace h := (if_pos hc).mp h
        refine o_load (j := 4) (v := .int .i64 s16) rfl rfl rfl z_sc3 rfl rfl rfl ?_
        refine o_load (j := 2) (v := .int .i64 (min a2 200)) rfl rfl rfl z_sc3 rfl rfl rfl ?_
        refine o_ibin (v := .bool (decide (s16 < (min a2 200)))) rfl rfl rfl rfl rfl rfl ?_
        refine o_pick rfl rfl rfl rfl rfl ?_
        refine o_moveB rfl rfl rfl rfl (fun hc => ?_) (fun hc => ?_)
        · replace h := (if_pos hc).mp h
          refine o_move rfl rfl rfl rfl ?_
          refine o_load (j := 1) (v := .int .u32 a1) rfl rfl rfl z_sc22 rfl rfl rfl ?_
          refine o_load (j := 4) (v := .int .i64 s16) rfl rfl rfl z_sc3 rfl rfl rfl ?_
          obtain ⟨r18, hr19, h⟩ := h
          refine st_call (foot := []) rfl rfl rfl rfl rfl rfl (callV_fn z_en12 (ref10_Add_ok hr19 τ16)) ?_
          rintro vτ20 τ20 gsτ20 hl21 ⟨rfl, rfl⟩
          refine o_ibin (v := .bool (decide (x15 = r18))) rfl rfl rfl rfl rfl rfl ?_
          refine o_pick rfl rfl rfl rfl rfl ?_
          refine o_store (j := 5) (vs := [.bool (decide (x15 = r18))]) (cs' := [.bool (decide (x15 = r18))]) rfl rfl rfl z_size4 rfl rfl rfl (ones_cons rfl ones_nil) rfl rfl rfl ?_
          refine st_gs [[(b1, .cells [.int .u32 a0.1, .int .u64 a0.2].toArray 25 (0, 0))], [(b2, .cells [.int .u32 a1].toArray 22 (0, 0))], [(b3, .cells [.int .i64 (min a2 200)].toArray 3 (0, 0))], [(b4, .cells [.int .i64 a3].toArray 3 (0, 0))], [(b5, .cells [.int .i64 s16].toArray 3 (0, 0))], [(b6, .cells [.bool (decide (x15 = r18))].toArray 4 (0, 0))], [(b7, .cells [.int .i64 s15.2.2].toArray 3 (0, 0))]] rfl ?_
          refine st_end ?_
          refine st_env (ρ' := [(4, .pointer (some ⟨b1, 0, none⟩)), (5, .pointer (some ⟨b2, 0, none⟩)), (6, .pointer (some ⟨b3, 0, none⟩)), (7, .pointer (some ⟨b4, 0, none⟩)), (8, .bool false), (9, .pointer (some ⟨b5, 0, none⟩)), (10, .pointer (some ⟨b6, 0, none⟩)), (11, .pointer (some ⟨b7, 0, none⟩)), (25, .int .u32 x15), (13, .int .u32 x15)]) ⟨rfl, rfl, rfl, rfl, rfl, rfl, rfl, rfl, rfl, rfl, trivial⟩ ?_
          exact hk17 _ _ _ ⟨(decide (x15 = r18)), h, hl21, rfl, rfl⟩
        · replace h := (if_neg (ne_t hc)).mp h
          refine st_pass rfl rfl rfl rfl rfl rfl ?_
          refine st_pass rfl rfl rfl rfl rfl rfl ?_
          refine st_pass rfl rfl rfl rfl rfl rfl ?_
          refine st_pass rfl rfl rfl rfl rfl rfl ?_
          refine st_pass rfl rfl rfl rfl rfl rfl ?_
          refine o_pick rfl rfl rfl rfl rfl ?_
          refine o_store (j := 5) (vs := [.bool false]) (cs' := [.bool false]) rfl rfl rfl z_size4 rfl rfl rfl (ones_cons rfl ones_nil) rfl rfl rfl ?_
          refine st_gs [[(b1, .cells [.int .u32 a0.1, .int .u64 a0.2].toArray 25 (0, 0))], [(b2, .cells [.int .u32 a1].toArray 22 (0, 0))], [(b3, .cells [.int .i64 (min a2 200)].toArray 3 (0, 0))], [(b4, .cells [.int .i64 a3].toArray 3 (0, 0))], [(b5, .cells [.int .i64 s16].toArray 3 (0, 0))], [(b6, .cells [.bool false].toArray 4 (0, 0))], [(b7, .cells [.int .i64 s15.2.2].toArray 3 (0, 0))]] rfl ?_
          refine st_end ?_
          refine st_env (ρ' := [(4, .pointer (some ⟨b1, 0, none⟩)), (5, .pointer (some ⟨b2, 0, none⟩)), (6, .pointer (some ⟨b3, 0, none⟩)), (7, .pointer (some ⟨b4, 0, none⟩)), (8, .bool false), (9, .pointer (some ⟨b5, 0, none⟩)), (10, .pointer (some ⟨b6, 0, none⟩)), (11, .pointer (some ⟨b7, 0, none⟩)), (25, .int .u32 x15), (13, .int .u32 x15)]) ⟨rfl, rfl, rfl, rfl, rfl, rfl, rfl, rfl, rfl, rfl, trivial⟩ ?_
          exact hk17 _ _ _ ⟨false, h, (Sto.Le.refl _), rfl, rfl⟩
      · replace h := (if_neg (ne_t hc)).mp h
        refine st_pass rfl rfl rfl rfl rfl rfl ?_
        refine st_pass rfl rfl rfl rfl rfl rfl ?_
        refine st_pass rfl rfl rfl rfl rfl rfl ?_
        refine o_pick rfl rfl rfl rfl rfl ?_
        refine o_move rfl rfl rfl rfl ?_
        refine st_pass rfl rfl rfl rfl rfl rfl ?_
        refine st_pass rfl rfl rfl rfl rfl rfl ?_
        refine st_pass rfl rfl rfl rfl rfl rfl ?_
        refine st_pass rfl rfl rfl rfl rfl rfl ?_
        refine st_pass rfl rfl rfl rfl rfl rfl ?_
        refine o_pick rfl rfl rfl rfl rfl ?_
        refine o_store (j := 5) (vs := [.bool false]) (cs' := [.bool false]) rfl rfl rfl z_size4 rfl rfl rfl (ones_cons rfl ones_nil) rfl rfl rfl ?_
        refine st_gs [[(b1, .cells [.int .u32 a0.1, .int .u64 a0.2].toArray 25 (0, 0))], [(b2, .cells [.int .u32 a1].toArray 22 (0, 0))], [(b3, .cells [.int .i64 (min a2 200)].toArray 3 (0, 0))], [(b4, .cells [.int .i64 a3].toArray 3 (0, 0))], [(b5, .cells [.int .i64 s16].toArray 3 (0, 0))], [(b6, .cells [.bool false].toArray 4 (0, 0))], [(b7, .cells [.int .i64 s15.2.2].toArray 3 (0, 0))]] rfl ?_
        refine st_end ?_
        refine st_env (ρ' := [(4, .pointer (some ⟨b1, 0, none⟩)), (5, .pointer (some ⟨b2, 0, none⟩)), (6, .pointer (some ⟨b3, 0, none⟩)), (7, .pointer (some ⟨b4, 0, none⟩)), (8, .bool false), (9, .pointer (some ⟨b5, 0, none⟩)), (10, .pointer (some ⟨b6, 0, none⟩)), (11, .pointer (some ⟨b7, 0, none⟩)), (25, .int .u32 x15), (13, .int .u32 x15)]) ⟨rfl, rfl, rfl, rfl, rfl, rfl, rfl, rfl, rfl, rfl, trivial⟩ ?_
        exact hk17 _ _ _ ⟨false, h, (Sto.Le.refl _), rfl, rfl⟩
    obtain ⟨e22, hL22, hA22⟩ := h
    refine st_env (ρ' := [(4, .pointer (some ⟨b1, 0, none⟩)), (5, .pointer (some ⟨b2, 0, none⟩)), (6, .pointer (some ⟨b3, 0, none⟩)), (7, .pointer (some ⟨b4, 0, none⟩)), (8, .bool false), (9, .pointer (some ⟨b5, 0, none⟩)), (10, .pointer (some ⟨b6, 0, none⟩)), (11, .pointer (some ⟨b7, 0, none⟩)), (25, .int .u32 x15), (13, .int .u32 x15)]) ⟨rfl, rfl, rfl, rfl, rfl, rfl, rfl, rfl, rfl, rfl, trivial⟩ ?_
    refine st_loop hL22 (fun (s22 : Int) ρ τ22 gs => τ15.Le τ22 ∧ ρ = [(4, .pointer (some ⟨b1, 0, none⟩)), (5, .pointer (some ⟨b2, 0, none⟩)), (6, .pointer (some ⟨b3, 0, none⟩)), (7, .pointer (some ⟨b4, 0, none⟩)), (8, .bool false), (9, .pointer (some ⟨b5, 0, none⟩)), (10, .pointer (some ⟨b6, 0, none⟩)), (11, .pointer (some ⟨b7, 0, none⟩)), (25, .int .u32 x15), (13, .int .u32 x15)] ∧ gs = [[(b1, .cells [.int .u32 a0.1, .int .u64 a0.2].toArray 25 (0, 0))], [(b2, .cells [.int .u32 a1].toArray 22 (0, 0))], [(b3, .cells [.int .i64 (min a2 200)].toArray 3 (0, 0))], [(b4, .cells [.int .i64 a3].toArray 3 (0, 0))], [(b5, .cells [.int .i64 s22].toArray 3 (0, 0))], [(b6, .cells [.bool s15.2.1].toArray 4 (0, 0))], [(b7, .cells [.int .i64 s15.2.2].toArray 3 (0, 0))]]) ⟨Sto.Le.refl _, rfl, rfl⟩ ?_
    rintro s22 o22 h he22 ρ22 τ22 gs22 ⟨hl22, rfl, rfl⟩ hn22
    refine st_seq ?_
    refine st_seq ?_
    obtain ⟨r23, hr24, h⟩ := h
    obtain ⟨r27, hr28, h⟩ := h
    refine st_draw 10 (tl [fun τ v => v = .int .i64 s22,
    fun τ v => v = .int .i64 (min a2 200),
    fun τ v => v = .bool (decide (s22 < (min a2 200))),
    fun τ v => v = .bool (decide (s22 < (min a2 200))),
    fun τ v => (((decide (s22 < (min a2 200))) = true) → v = .agg [.int .u32 a0.1, .int .u64 a0.2].toArray) ∧ (¬ ((decide (s22 < (min a2 200))) = true) → v = undef),
    fun τ v => (((decide (s22 < (min a2 200))) = true) → v = .int .u32 a1) ∧ (¬ ((decide (s22 < (min a2 200))) = true) → v = undef),
    fun τ v => (((decide (s22 < (min a2 200))) = true) → v = .int .i64 s22) ∧ (¬ ((decide (s22 < (min a2 200))) = true) → v = undef),
    fun τ v => (((decide (s22 < (min a2 200))) = true) → v = .int .u32 r23) ∧ (¬ ((decide (s22 < (min a2 200))) = true) → v = undef),
    fun τ v => (((decide (s22 < (min a2 200))) = true) → v = .bool r27) ∧ (¬ ((decide (s22 < (min a2 200))) = true) → v = undef),
    fun τ v => v = .bool ((decide (s22 < (min a2 200))) && r27)]) (fun _ _ => []) z_mix rfl (tl_mono ⟨fun _ _ _ _ h => h, ⟨fun _ _ _ _ h => h, ⟨fun _ _ _ _ h => h, ⟨fun _ _ _ _ h => h, ⟨fun _ _ _ _ h => h, ⟨fun _ _ _ _ h => h, ⟨fun _ _ _ _ h => h, ⟨fun _ _ _ _ h => h, ⟨fun _ _ _ _ h => h, ⟨fun _ _ _ _ h => h, trivial⟩⟩⟩⟩⟩⟩⟩⟩⟩⟩) (allB_cons (allB_cons (allB_cons (allB_cons (allB_cons (allB_cons (allB_cons (allB_cons (allB_cons (allB_cons allB_nil ?_) ?_) ?_) ?_) ?_) ?_) ?_) ?_) ?_) ?_) ?_
    · intro ρ' τ pool rs hl hd hout hk
      refine o_load (j := 4) (v := .int .i64 s22) rfl rfl rfl z_sc3 ((hout 9 rfl).trans rfl) rfl rfl ?_
      exact st_addNil (hk _ _ (Sto.Le.refl _) rfl)
    · intro ρ' τ pool rs hl hd hout hk
      refine o_load (j := 2) (v := .int .i64 (min a2 200)) rfl rfl rfl z_sc3 ((hout 6 rfl).trans rfl) rfl rfl ?_
      exact st_addNil (hk _ _ (Sto.Le.refl _) rfl)
    · intro ρ' τ pool rs hl hd hout hk
      obtain ⟨_, e0, rfl⟩ := hd 0 rfl
      obtain ⟨_, e1, rfl⟩ := hd 1 rfl
      refine o_ibin (v := .bool (decide (s22 < (min a2 200)))) rfl rfl rfl e0 e1 rfl ?_
      exact st_addNil (hk _ _ (Sto.Le.refl _) rfl)
    · intro ρ' τ pool rs hl hd hout hk
      obtain ⟨_, e2, rfl⟩ := hd 2 rfl
      refine o_move rfl rfl rfl e2 ?_
      exact st_addNil (hk _ _ (Sto.Le.refl _) rfl)
    · intro ρ' τ pool rs hl hd hout hk
      obtain ⟨_, e3, rfl⟩ := hd 3 rfl
      by_cases hG : (decide (s22 < (min a2 200))) = true
      · have hC := hG
        refine o_loadN (j := 0) (vs := [.int .u32 a0.1, .int .u64 a0.2]) rfl (wants_of rfl e3 hG) rfl z_agg25 ((hout 4 rfl).trans rfl) rfl rfl ?_
        exact st_addNil (hk _ _ (Sto.Le.refl _) ⟨fun _ => rfl, fun hn => absurd hC hn⟩)
      · refine st_pass rfl rfl rfl e3 (beq_off hG) rfl ?_
        exact st_addNil (hk _ _ (Sto.Le.refl _) ⟨fun h => absurd h hG, fun _ => rfl⟩)
    · intro ρ' τ pool rs hl hd hout hk
      obtain ⟨_, e3, rfl⟩ := hd 3 rfl
      by_cases hG : (decide (s22 < (min a2 200))) = true
      · have hC := hG
        refine o_load (j := 1) (v := .int .u32 a1) rfl (wants_of rfl e3 hG) rfl z_sc22 ((hout 5 rfl).trans rfl) rfl rfl ?_
        exact st_addNil (hk _ _ (Sto.Le.refl _) ⟨fun _ => rfl, fun hn => absurd hC hn⟩)
      · refine st_pass rfl rfl rfl e3 (beq_off hG) rfl ?_
        exact st_addNil (hk _ _ (Sto.Le.refl _) ⟨fun h => absurd h hG, fun _ => rfl⟩)
    · intro ρ' τ pool rs hl hd hout hk
      obtain ⟨_, e3, rfl⟩ := hd 3 rfl
      by_cases hG : (decide (s22 < (min a2 200))) = true
      · have hC := hG
        refine o_load (j := 4) (v := .int .i64 s22) rfl (wants_of rfl e3 hG) rfl z_sc3 ((hout 9 rfl).trans rfl) rfl rfl ?_
        exact st_addNil (hk _ _ (Sto.Le.refl _) ⟨fun _ => rfl, fun hn => absurd hC hn⟩)
      · refine st_pass rfl rfl rfl e3 (beq_off hG) rfl ?_
        exact st_addNil (hk _ _ (Sto.Le.refl _) ⟨fun h => absurd h hG, fun _ => rfl⟩)
    · intro ρ' τ pool rs hl hd hout hk
      obtain ⟨_, e3, rfl⟩ := hd 3 rfl
      obtain ⟨w5, e5, t5⟩ := hd 5 rfl
      obtain ⟨w6, e6, t6⟩ := hd 6 rfl
      by_cases hG : (decide (s22 < (min a2 200))) = true
      · have hC := hG
        replace hr24 := hr24 hC
        obtain ⟨rfl⟩ := t6.1 hC
        obtain ⟨rfl⟩ := t5.1 hC
        refine st_call (foot := []) rfl (wants_of rfl e3 hG) rfl rfl (evs_cons e5 (evs_cons e6 rfl)) rfl (callV_fn z_en12 (ref10_Add_ok hr24 τ)) ?_
        rintro vτ25 τ25 gsτ25 hl26 ⟨rfl, rfl⟩
        exact st_addNil (hk _ _ hl26 ⟨fun _ => rfl, fun hn => absurd hC hn⟩)
      · refine st_pass rfl rfl rfl e3 (beq_off hG) rfl ?_
        exact st_addNil (hk _ _ (Sto.Le.refl _) ⟨fun h => absurd h hG, fun _ => rfl⟩)
    · intro ρ' τ pool rs hl hd hout hk
      obtain ⟨_, e3, rfl⟩ := hd 3 rfl
      obtain ⟨w4, e4, t4⟩ := hd 4 rfl
      obtain ⟨w7, e7, t7⟩ := hd 7 rfl
      by_cases hG : (decide (s22 < (min a2 200))) = true
      · have hC := hG
        replace hr28 := hr28 hC
        obtain ⟨rfl⟩ := t7.1 hC
        obtain ⟨rfl⟩ := t4.1 hC
        refine st_call (foot := []) rfl (wants_of rfl e3 hG) rfl rfl (evs_cons e4 (evs_cons e7 rfl)) rfl (callV_fn z_en11 (ref32_Has_ok hr28 τ)) ?_
        rintro vτ29 τ29 gsτ29 hl30 ⟨rfl, rfl⟩
        exact st_addNil (hk _ _ hl30 ⟨fun _ => rfl, fun hn => absurd hC hn⟩)
      · refine st_pass rfl rfl rfl e3 (beq_off hG) rfl ?_
        exact st_addNil (hk _ _ (Sto.Le.refl _) ⟨fun h => absurd h hG, fun _ => rfl⟩)
    · intro ρ' τ pool rs hl hd hout hk
      obtain ⟨_, e3, rfl⟩ := hd 3 rfl
      obtain ⟨w8, e8, t8⟩ := hd 8 rfl
      refine o_pickAnd rfl rfl rfl e3 (fun hp => e8.trans (congrArg some (t8.1 hp))) rfl ?_
      exact st_addNil (hk _ _ (Sto.Le.refl _) rfl)
    intro ρ' τ31 vals hl31 hv hout
    have l9 : Eng.look ρ' 35 = some (.bool ((decide (s22 < (min a2 200))) && r27)) := (hv 9 (by decide)).1.trans (congrArg some (show vals 9 = .bool ((decide (s22 < (min a2 200))) && r27) from (hv 9 (by decide)).2))
    refine st_env (ρ' := [(35, .bool ((decide (s22 < (min a2 200))) && r27)), (4, .pointer (some ⟨b1, 0, none⟩)), (5, .pointer (some ⟨b2, 0, none⟩)), (6, .pointer (some ⟨b3, 0, none⟩)), (7, .pointer (some ⟨b4, 0, none⟩)), (8, .bool false), (9, .pointer (some ⟨b5, 0, none⟩)), (10, .pointer (some ⟨b6, 0, none⟩)), (11, .pointer (some ⟨b7, 0, none⟩)), (25, .int .u32 x15), (13, .int .u32 x15)]) ⟨l9, (hout 4 rfl).trans rfl, (hout 5 rfl).trans rfl, (hout 6 rfl).trans rfl, (hout 7 rfl).trans rfl, (hout 8 rfl).trans rfl, (hout 9 rfl).trans rfl, (hout 10 rfl).trans rfl, (hout 11 rfl).trans rfl, (hout 25 rfl).trans rfl, (hout 13 rfl).trans rfl, trivial⟩ ?_
    refine st_ord [0, 0, 0, 0, 0, 0, 0] [[(b1, .cells [.int .u32 a0.1, .int .u64 a0.2].toArray 25 (0, 0))], [(b2, .cells [.int .u32 a1].toArray 22 (0, 0))], [(b3, .cells [.int .i64 (min a2 200)].toArray 3 (0, 0))], [(b4, .cells [.int .i64 a3].toArray 3 (0, 0))], [(b5, .cells [.int .i64 s22].toArray 3 (0, 0))], [(b6, .cells [.bool s15.2.1].toArray 4 (0, 0))], [(b7, .cells [.int .i64 s15.2.2].toArray 3 (0, 0))]] rfl ?_
    refine st_end ?_
    refine st_cond rfl (fun hc => ?_) (fun hc => ?_)
    · replace h := (if_pos hc).mp h
      refine st_skip ?_
      refine st_block ?_
      refine st_region ?_
      refine o_load (j := 4) (v := .int .i64 s22) rfl rfl rfl z_sc3 rfl rfl rfl ?_
      refine o_ibin (v := .int .i64 (IntKind.i64.wrap (s22 + 1))) rfl rfl rfl rfl rfl rfl ?_
      refine o_store (j := 4) (vs := [.int .i64 (IntKind.i64.wrap (s22 + 1))]) (cs' := [.int .i64 (IntKind.i64.wrap (s22 + 1))]) rfl rfl rfl z_size3 rfl rfl rfl (ones_cons rfl ones_nil) rfl rfl rfl ?_
      refine st_gs [[(b1, .cells [.int .u32 a0.1, .int .u64 a0.2].toArray 25 (0, 0))], [(b2, .cells [.int .u32 a1].toArray 22 (0, 0))], [(b3, .cells [.int .i64 (min a2 200)].toArray 3 (0, 0))], [(b4, .cells [.int .i64 a3].toArray 3 (0, 0))], [(b5, .cells [.int .i64 (IntKind.i64.wrap (s22 + 1))].toArray 3 (0, 0))], [(b6, .cells [.bool s15.2.1].toArray 4 (0, 0))], [(b7, .cells [.int .i64 s15.2.2].toArray 3 (0, 0))]] rfl ?_
      refine st_end ?_
      refine st_inBlock ?_
      refine st_env (ρ' := [(4, .pointer (some ⟨b1, 0, none⟩)), (5, .pointer (some ⟨b2, 0, none⟩)), (6, .pointer (some ⟨b3, 0, none⟩)), (7, .pointer (some ⟨b4, 0, none⟩)), (8, .bool false), (9, .pointer (some ⟨b5, 0, none⟩)), (10, .pointer (some ⟨b6, 0, none⟩)), (11, .pointer (some ⟨b7, 0, none⟩)), (25, .int .u32 x15), (13, .int .u32 x15)]) ⟨rfl, rfl, rfl, rfl, rfl, rfl, rfl, rfl, rfl, rfl, trivial⟩ ?_
      exact hn22 _ _ _ _ h ⟨(hl22.trans hl31), rfl, rfl⟩
    · replace h := (if_neg (ne_t hc)).mp h
      refine st_exit rfl ?_
      obtain rfl := he22 _ h
      replace h := hA22
      refine st_env (ρ' := [(4, .pointer (some ⟨b1, 0, none⟩)), (5, .pointer (some ⟨b2, 0, none⟩)), (6, .pointer (some ⟨b3, 0, none⟩)), (7, .pointer (some ⟨b4, 0, none⟩)), (8, .bool false), (9, .pointer (some ⟨b5, 0, none⟩)), (10, .pointer (some ⟨b6, 0, none⟩)), (11, .pointer (some ⟨b7, 0, none⟩)), (25, .int .u32 x15), (13, .int .u32 x15)]) ⟨rfl, rfl, rfl, rfl, rfl, rfl, rfl, rfl, rfl, rfl, trivial⟩ ?_
      exact hk16 _ _ _ ⟨s22, h, (hl22.trans hl31), rfl, rfl⟩
  · rintro p33 τ34 gs15 f15 ht hl35 ⟨hb, rfl⟩ rfl
    subst ht
    replace h := hA15
    refine st_ord [1, 1, 1, 1, 1, 1, 1] [[(b1, .cells [.int .u32 a0.1, .int .u64 a0.2].toArray 25 (0, 0))], [(b2, .cells [.int .u32 a1].toArray 22 (0, 0))], [(b3, .cells [.int .i64 (min a2 200)].toArray 3 (0, 0))], [(b4, .cells [.int .i64 a3].toArray 3 (0, 0))], [(b5, .cells [.int .i64 p33.1].toArray 3 (0, 0))], [(b6, .cells [.bool p33.2.1].toArray 4 (0, 0))], [(b7, .cells [.int .i64 p33.2.2].toArray 3 (0, 0))]] rfl ?_
    refine st_inBlock ?_
    refine st_seq ?_
    refine st_cut (fun ρ τ36 gs => ∃ (s36 : Bool), law32_AckMissing_j5 a0 a1 a2 a3 p33 s36 r ∧ τ34.Le τ36 ∧ ρ = [(4, .pointer (some ⟨b1, 0, none⟩)), (5, .pointer (some ⟨b2, 0, none⟩)), (6, .pointer (some ⟨b3, 0, none⟩)), (7, .pointer (some ⟨b4, 0, none⟩)), (8, .bool false), (10, .pointer (some ⟨b6, 0, none⟩)), (11, .pointer (some ⟨b7, 0, none⟩))] ∧ gs = [[(b1, .cells [.int .u32 a0.1, .int .u64 a0.2].toArray 25 (0, 0))], [(b2, .cells [.int .u32 a1].toArray 22 (0, 0))], [(b3, .cells [.int .i64 (min a2 200)].toArray 3 (0, 0))], [(b4, .cells [.int .i64 a3].toArray 3 (0, 0))], [(b6, .cells [.bool s36].toArray 4 (0, 0))], [(b7, .cells [.int .i64 p33.2.2].toArray 3 (0, 0))]]) ?_ (fun hk36 => ?_)
    · rintro ρ36 τ36 gs36 ⟨s36, h, hl36, rfl, rfl⟩
      refine st_seq ?_
      refine st_region ?_
      refine o_alloc rfl rfl rfl z_zero3 (fun b37 => ?_)
      refine o_store (j := 0) (vs := [.int .i64 0]) (cs' := [.int .i64 0]) rfl rfl rfl z_size3 rfl rfl rfl (ones_cons rfl ones_nil) rfl rfl rfl ?_
      refine st_gs [[(b37, .cells [.int .i64 0].toArray 3 (0, 0))], [(b1, .cells [.int .u32 a0.1, .int .u64 a0.2].toArray 25 (0, 0))], [(b2, .cells [.int .u32 a1].toArray 22 (0, 0))], [(b3, .cells [.int .i64 (min a2 200)].toArray 3 (0, 0))], [(b4, .cells [.int .i64 a3].toArray 3 (0, 0))], [(b6, .cells [.bool s36].toArray 4 (0, 0))], [(b7, .cells [.int .i64 p33.2.2].toArray 3 (0, 0))]] rfl ?_
      refine st_end ?_
      refine st_seq ?_
      refine st_region ?_
      refine o_loadN (j := 1) (vs := [.int .u32 a0.1, .int .u64 a0.2]) rfl rfl rfl z_agg25 rfl rfl rfl ?_
      refine o_load (j := 2) (v := .int .u32 a1) rfl rfl rfl z_sc22 rfl rfl rfl ?_
      refine o_load (j := 3) (v := .int .i64 (min a2 200)) rfl rfl rfl z_sc3 rfl rfl rfl ?_
      obtain ⟨r38, hr39, h⟩ := h
      refine st_call (foot := []) rfl rfl rfl rfl rfl rfl (callV_fn z_en10 (ack_Missing_ok hr39 τ36)) ?_
      rintro vτ40 τ40 gsτ40 hl41 ⟨f42, q43, rfl, rfl, hit44⟩
      refine o_assign rfl rfl rfl rfl ?_
      refine st_end ?_
      refine st_seq ?_
      refine st_seq ?_
      refine st_region ?_
      refine o_move rfl rfl rfl rfl ?_
      refine o_fnNil (b := false) rfl rfl rfl Try.underlying27 rfl rfl rfl ?_
      refine st_end ?_
      refine st_condF rfl ?_
      refine st_skip ?_
      refine st_seq ?_
      refine st_cut (fun ρ τ45 gs => ∃ (s45 : Int), law32_AckMissing_j6 a3 p33 s36 s45 r ∧ τ40.Le τ45 ∧ ρ = [(7, .pointer (some ⟨b4, 0, none⟩)), (8, .bool false), (10, .pointer (some ⟨b6, 0, none⟩)), (11, .pointer (some ⟨b7, 0, none⟩)), (14, .pointer (some ⟨b37, 0, none⟩))] ∧ gs = [[(b4, .cells [.int .i64 a3].toArray 3 (0, 0))], [(b6, .cells [.bool s36].toArray 4 (0, 0))], [(b7, .cells [.int .i64 p33.2.2].toArray 3 (0, 0))], [(b37, .cells [.int .i64 s45].toArray 3 (0, 0))]]) ?_ (fun hk45 => ?_)
      · rintro ρ45 τ45 gs45 ⟨s45, h, hl45, rfl, rfl⟩
        refine st_seq ?_
        refine st_cut (fun ρ τ46 gs => ∃ (s46 : Bool), law32_AckMissing_j7 s46 r ∧ τ45.Le τ46 ∧ ρ = [(8, .bool s46)] ∧ gs = []) ?_ (fun hk46 => ?_)
        · rintro ρ46 τ46 gs46 ⟨s46, h, hl46, rfl, rfl⟩
          obtain rfl := h
          exact st_ret (gs' := []) Try.func3 rfl (List.Sublist.refl _) (((((hl11.trans hl35).trans hl36).trans hl41).trans hl45).trans hl46) ⟨rfl, rfl⟩
        refine st_region ?_
        obtain ⟨r47, hr48, h⟩ := h
        refine st_call (foot := []) rfl rfl rfl rfl rfl rfl (callV_fn z_en13 (law32_known_ok hr48 τ45)) ?_
        rintro vτ49 τ49 gsτ49 hl50 ⟨rfl, rfl⟩
        refine o_moveB rfl rfl rfl rfl (fun hc => ?_) (fun hc => ?_)
        · replace h := (if_pos hc).mp h
          refine o_load (j := 1) (v := .bool s36) rfl rfl rfl z_sc4 rfl rfl rfl ?_
          refine o_pick rfl rfl rfl rfl rfl ?_
          refine o_moveB rfl rfl rfl rfl (fun hc => ?_) (fun hc => ?_)
          · replace h := (if_pos hc).mp h
            refine o_load (j := 3) (v := .int .i64 s45) rfl rfl rfl z_sc3 rfl rfl rfl ?_
            refine o_load (j := 2) (v := .int .i64 p33.2.2) rfl rfl rfl z_sc3 rfl rfl rfl ?_
            refine o_ibin (v := .bool (decide (s45 = p33.2.2))) rfl rfl rfl rfl rfl rfl ?_
            refine o_moveB rfl rfl rfl rfl (fun hc => ?_) (fun hc => ?_)
            · replace h := (if_pos hc).mp h
              refine st_pass rfl rfl rfl rfl rfl rfl ?_
              refine st_pass rfl rfl rfl rfl rfl rfl ?_
              refine st_pass rfl rfl rfl rfl rfl rfl ?_
              refine o_pick rfl rfl rfl rfl rfl ?_
              refine o_pick rfl rfl rfl rfl rfl ?_
              refine o_assign rfl rfl rfl rfl ?_
              refine st_end ?_
              refine st_env (ρ' := [(8, .bool true)]) ⟨rfl, trivial⟩ ?_
              refine st_ord [] [] rfl ?_
              exact hk46 _ _ _ ⟨true, h, hl50, rfl, rfl⟩
            · replace h := (if_neg (ne_t hc)).mp h
              refine o_load (j := 3) (v := .int .i64 s45) rfl rfl rfl z_sc3 rfl rfl rfl ?_
              refine o_load (j := 0) (v := .int .i64 a3) rfl rfl rfl z_sc3 rfl rfl rfl ?_
              refine o_ibin (v := .bool (decide (s45 = a3))) rfl rfl rfl rfl rfl rfl ?_
              refine o_pick rfl rfl rfl rfl rfl ?_
              refine o_pick rfl rfl rfl rfl rfl ?_
              refine o_assign rfl rfl rfl rfl ?_
              refine st_end ?_
              refine st_env (ρ' := [(8, .bool (decide (s45 = a3)))]) ⟨rfl, trivial⟩ ?_
              refine st_ord [] [] rfl ?_
              exact hk46 _ _ _ ⟨(decide (s45 = a3)), h, hl50, rfl, rfl⟩
          · replace h := (if_neg (ne_t hc)).mp h
            refine st_pass rfl rfl rfl rfl rfl rfl ?_
            refine st_pass rfl rfl rfl rfl rfl rfl ?_
            refine st_pass rfl rfl rfl rfl rfl rfl ?_
            refine st_pass rfl rfl rfl rfl rfl rfl ?_
            refine st_passU rfl rfl rfl rfl rfl ?_
            refine st_passU rfl rfl rfl rfl rfl ?_
            refine st_passU rfl rfl rfl rfl rfl ?_
            refine st_pass rfl rfl rfl rfl rfl rfl ?_
            refine o_pick rfl rfl rfl rfl rfl ?_
            refine o_assign rfl rfl rfl rfl ?_
            refine st_end ?_
            refine st_env (ρ' := [(8, .bool false)]) ⟨rfl, trivial⟩ ?_
            refine st_ord [] [] rfl ?_
            exact hk46 _ _ _ ⟨false, h, hl50, rfl, rfl⟩
        · replace h := (if_neg (ne_t hc)).mp h
          refine st_pass rfl rfl rfl rfl rfl rfl ?_
          refine o_pick rfl rfl rfl rfl rfl ?_
          refine o_move rfl rfl rfl rfl ?_
          refine st_pass rfl rfl rfl rfl rfl rfl ?_
          refine st_pass rfl rfl rfl rfl rfl rfl ?_
          refine st_pass rfl rfl rfl rfl rfl rfl ?_
          refine st_pass rfl rfl rfl rfl rfl rfl ?_
          refine st_passU rfl rfl rfl rfl rfl ?_
          refine st_passU rfl rfl rfl rfl rfl ?_
          refine st_passU rfl rfl rfl rfl rfl ?_
          refine st_pass rfl rfl rfl rfl rfl rfl ?_
          refine o_pick rfl rfl rfl rfl rfl ?_
          refine o_assign rfl rfl rfl rfl ?_
          refine st_end ?_
          refine st_env (ρ' := [(8, .bool false)]) ⟨rfl, trivial⟩ ?_
          refine st_ord [] [] rfl ?_
          exact hk46 _ _ _ ⟨false, h, hl50, rfl, rfl⟩
      refine st_seq ?_
      refine st_region ?_
      refine o_move rfl rfl rfl rfl ?_
      refine st_end ?_
      refine st_block ?_
      obtain ⟨t51, w51, hR51, hA51⟩ := h
      refine st_env (ρ' := [(7, .pointer (some ⟨b4, 0, none⟩)), (8, .bool false), (10, .pointer (some ⟨b6, 0, none⟩)), (11, .pointer (some ⟨b7, 0, none⟩)), (14, .pointer (some ⟨b37, 0, none⟩)), (74, .func (.func f42) #[] q43)]) ⟨rfl, rfl, rfl, rfl, rfl, rfl, trivial⟩ ?_
      refine st_ord [4, 4, 4, 0] [[(b4, .cells [.int .i64 a3].toArray 3 (0, 0))], [(b6, .cells [.bool s36].toArray 4 (0, 0))], [(b7, .cells [.int .i64 p33.2.2].toArray 3 (0, 0))], [(b37, .cells [.int .i64 0].toArray 3 (0, 0))]] rfl ?_
      refine st_addNil ?_
      refine st_range (B := law32_AckMissing_l8 a3) (s0 := 0) ranges_fctx rfl hit44 (Sto.Le.refl _) hR51 rfl (fun _ _ _ h => by cases h; rfl) (fun (s51 : Int) τ51 gs => τ40.Le τ51 ∧ gs = [[(b4, .cells [.int .i64 a3].toArray 3 (0, 0))], [(b6, .cells [.bool s36].toArray 4 (0, 0))], [(b7, .cells [.int .i64 p33.2.2].toArray 3 (0, 0))], [(b37, .cells [.int .i64 s51].toArray 3 (0, 0))]]) (fun (p52 : Int) cd τ53 gs => cd = .exit 6 ∧ τ40.Le τ53 ∧ gs = [[(b4, .cells [.int .i64 a3].toArray 3 (0, 0))], [(b6, .cells [.bool s36].toArray 4 (0, 0))], [(b7, .cells [.int .i64 p33.2.2].toArray 3 (0, 0))], [(b37, .cells [.int .i64 p52].toArray 3 (0, 0))]]) (fun _ _ _ _ hl ⟨hb, hg⟩ => ⟨hb.trans hl, hg⟩) (fun _ _ _ _ _ hl ⟨hc, hb, hg⟩ => ⟨hc, hb.trans hl, hg⟩) ⟨Sto.Le.refl _, rfl⟩ ?_ ?_ ?_
      · rintro x51 s51 o51 τ51 gs51 vx51 hl51 h rfl ⟨hb51, rfl⟩ l51 rc51 caller51 cs51 fs51
        refine st_skip ?_
        refine st_begin ?_
        refine st_block ?_
        refine st_seq ?_
        refine st_seq ?_
        refine st_region ?_
        refine o_load (j := 3) (v := .int .i64 s51) rfl rfl rfl z_sc3 rfl rfl rfl ?_
        refine o_load (j := 0) (v := .int .i64 a3) rfl rfl rfl z_sc3 rfl rfl rfl ?_
        refine o_ibin (v := .bool (decide (s51 = a3))) rfl rfl rfl rfl rfl rfl ?_
        refine st_end ?_
        refine st_cond rfl (fun hc => ?_) (fun hc => ?_)
        · replace h := (if_pos hc).mp h
          exact st_rexit rfl (List.Sublist.refl _) (Sto.Le.refl _) ⟨_, h, rfl, hl51, rfl⟩
        · replace h := (if_neg (ne_t hc)).mp h
          refine st_skip ?_
          refine st_region ?_
          refine o_load (j := 3) (v := .int .i64 s51) rfl rfl rfl z_sc3 rfl rfl rfl ?_
          refine o_ibin (v := .int .i64 (IntKind.i64.wrap (s51 + 1))) rfl rfl rfl rfl rfl rfl ?_
          refine o_store (j := 3) (vs := [.int .i64 (IntKind.i64.wrap (s51 + 1))]) (cs' := [.int .i64 (IntKind.i64.wrap (s51 + 1))]) rfl rfl rfl z_size3 rfl rfl rfl (ones_cons rfl ones_nil) rfl rfl rfl ?_
          refine st_gs [[(b4, .cells [.int .i64 a3].toArray 3 (0, 0))], [(b6, .cells [.bool s36].toArray 4 (0, 0))], [(b7, .cells [.int .i64 p33.2.2].toArray 3 (0, 0))], [(b37, .cells [.int .i64 (IntKind.i64.wrap (s51 + 1))].toArray 3 (0, 0))]] rfl ?_
          refine st_end ?_
          refine st_inBlock ?_
          exact st_rend (List.Sublist.refl _) (Sto.Le.refl _) ⟨_, h, hl51, rfl⟩
      · rintro p55 τ56 gs51 f51 ht hl57 ⟨hb, rfl⟩ rfl
        subst ht
        replace h := hA51
        refine st_ord [1, 1, 1, 1] [[(b4, .cells [.int .i64 a3].toArray 3 (0, 0))], [(b6, .cells [.bool s36].toArray 4 (0, 0))], [(b7, .cells [.int .i64 p33.2.2].toArray 3 (0, 0))], [(b37, .cells [.int .i64 p55].toArray 3 (0, 0))]] rfl ?_
        refine st_inBlock ?_
        refine st_env (ρ' := [(7, .pointer (some ⟨b4, 0, none⟩)), (8, .bool false), (10, .pointer (some ⟨b6, 0, none⟩)), (11, .pointer (some ⟨b7, 0, none⟩)), (14, .pointer (some ⟨b37, 0, none⟩))]) ⟨rfl, rfl, rfl, rfl, rfl, trivial⟩ ?_
        exact hk45 _ _ _ ⟨p55, h, hl57, rfl, rfl⟩
      · rintro p52 cd51 τ53 gs51 f51 ht hl54 ⟨rfl, hb, rfl⟩ rfl
        subst ht
        replace h := hA51
        refine st_ord [1, 1, 1, 1] [[(b4, .cells [.int .i64 a3].toArray 3 (0, 0))], [(b6, .cells [.bool s36].toArray 4 (0, 0))], [(b7, .cells [.int .i64 p33.2.2].toArray 3 (0, 0))], [(b37, .cells [.int .i64 p52].toArray 3 (0, 0))]] rfl ?_
        refine st_exit rfl ?_
        refine st_env (ρ' := [(7, .pointer (some ⟨b4, 0, none⟩)), (8, .bool false), (10, .pointer (some ⟨b6, 0, none⟩)), (11, .pointer (some ⟨b7, 0, none⟩)), (14, .pointer (some ⟨b37, 0, none⟩))]) ⟨rfl, rfl, rfl, rfl, rfl, trivial⟩ ?_
        exact hk45 _ _ _ ⟨p52, h, hl54, rfl, rfl⟩
    obtain ⟨e58, hL58, hA58⟩ := h
    refine st_env (ρ' := [(4, .pointer (some ⟨b1, 0, none⟩)), (5, .pointer (some ⟨b2, 0, none⟩)), (6, .pointer (some ⟨b3, 0, none⟩)), (7, .pointer (some ⟨b4, 0, none⟩)), (8, .bool false), (9, .pointer (some ⟨b5, 0, none⟩)), (10, .pointer (some ⟨b6, 0, none⟩)), (11, .pointer (some ⟨b7, 0, none⟩))]) ⟨rfl, rfl, rfl, rfl, rfl, rfl, rfl, rfl, trivial⟩ ?_
    refine st_loop hL58 (fun (s58 : Int × Bool) ρ τ58 gs => τ34.Le τ58 ∧ ρ = [(4, .pointer (some ⟨b1, 0, none⟩)), (5, .pointer (some ⟨b2, 0, none⟩)), (6, .pointer (some ⟨b3, 0, none⟩)), (7, .pointer (some ⟨b4, 0, none⟩)), (8, .bool false), (9, .pointer (some ⟨b5, 0, none⟩)), (10, .pointer (some ⟨b6, 0, none⟩)), (11, .pointer (some ⟨b7, 0, none⟩))] ∧ gs = [[(b1, .cells [.int .u32 a0.1, .int .u64 a0.2].toArray 25 (0, 0))], [(b2, .cells [.int .u32 a1].toArray 22 (0, 0))], [(b3, .cells [.int .i64 (min a2 200)].toArray 3 (0, 0))], [(b4, .cells [.int .i64 a3].toArray 3 (0, 0))], [(b5, .cells [.int .i64 s58.1].toArray 3 (0, 0))], [(b6, .cells [.bool s58.2].toArray 4 (0, 0))], [(b7, .cells [.int .i64 p33.2.2].toArray 3 (0, 0))]]) ⟨Sto.Le.refl _, rfl, rfl⟩ ?_
    rintro s58 o58 h he58 ρ58 τ58 gs58 ⟨hl58, rfl, rfl⟩ hn58
    refine st_seq ?_
    refine st_seq ?_
    refine st_region ?_
    refine o_load (j := 4) (v := .int .i64 s58.1) rfl rfl rfl z_sc3 rfl rfl rfl ?_
    refine o_load (j := 2) (v := .int .i64 (min a2 200)) rfl rfl rfl z_sc3 rfl rfl rfl ?_
    refine o_ibin (v := .bool (decide (s58.1 < (min a2 200)))) rfl rfl rfl rfl rfl rfl ?_
    refine st_end ?_
    refine st_cond rfl (fun hc => ?_) (fun hc => ?_)
    · replace h := (if_pos hc).mp h
      refine st_skip ?_
      refine st_block ?_
      refine st_seq ?_
      obtain ⟨r59, hr60, h⟩ := h
      obtain ⟨r63, hr64, h⟩ := h
      refine st_draw 8 (tl [fun τ v => v = .bool s58.2,
    fun τ v => v = .bool s58.2,
    fun τ v => ((s58.2 = true) → v = .agg [.int .u32 a0.1, .int .u64 a0.2].toArray) ∧ (¬ (s58.2 = true) → v = undef),
    fun τ v => ((s58.2 = true) → v = .int .u32 a1) ∧ (¬ (s58.2 = true) → v = undef),
    fun τ v => ((s58.2 = true) → v = .int .i64 s58.1) ∧ (¬ (s58.2 = true) → v = undef),
    fun τ v => ((s58.2 = true) → v = .int .u32 r59) ∧ (¬ (s58.2 = true) → v = undef),
    fun τ v => ((s58.2 = true) → v = .bool r63) ∧ (¬ (s58.2 = true) → v = undef),
    fun τ v => v = .bool (s58.2 && r63)]) (fun _ _ => []) z_mix rfl (tl_mono ⟨fun _ _ _ _ h => h, ⟨fun _ _ _ _ h => h, ⟨fun _ _ _ _ h => h, ⟨fun _ _ _ _ h => h, ⟨fun _ _ _ _ h => h, ⟨fun _ _ _ _ h => h, ⟨fun _ _ _ _ h => h, ⟨fun _ _ _ _ h => h, trivial⟩⟩⟩⟩⟩⟩⟩⟩) (allB_cons (allB_cons (allB_cons (allB_cons (allB_cons (allB_cons (allB_cons (allB_cons allB_nil ?_) ?_) ?_) ?_) ?_) ?_) ?_) ?_) ?_
      · intro ρ' τ pool rs hl hd hout hk
        refine o_load (j := 5) (v := .bool s58.2) rfl rfl rfl z_sc4 ((hout 10 rfl).trans rfl) rfl rfl ?_
        exact st_addNil (hk _ _ (Sto.Le.refl _) rfl)
      · intro ρ' τ pool rs hl hd hout hk
        obtain ⟨_, e0, rfl⟩ := hd 0 rfl
        refine o_move rfl rfl rfl e0 ?_
        exact st_addNil (hk _ _ (Sto.Le.refl _) rfl)
      · intro ρ' τ pool rs hl hd hout hk
        obtain ⟨_, e1, rfl⟩ := hd 1 rfl
        by_cases hG : s58.2 = true
        · have hC := hG
          refine o_loadN (j := 0) (vs := [.int .u32 a0.1, .int .u64 a0.2]) rfl (wants_of rfl e1 hG) rfl z_agg25 ((hout 4 rfl).trans rfl) rfl rfl ?_
          exact st_addNil (hk _ _ (Sto.Le.refl _) ⟨fun _ => rfl, fun hn => absurd hC hn⟩)
        · refine st_pass rfl rfl rfl e1 (beq_off hG) rfl ?_
          exact st_addNil (hk _ _ (Sto.Le.refl _) ⟨fun h => absurd h hG, fun _ => rfl⟩)
      · intro ρ' τ pool rs hl hd hout hk
        obtain ⟨_, e1, rfl⟩ := hd 1 rfl
        by_cases hG : s58.2 = true
        · have hC := hG
          refine o_load (j := 1) (v := .int .u32 a1) rfl (wants_of rfl e1 hG) rfl z_sc22 ((hout 5 rfl).trans rfl) rfl rfl ?_
          exact st_addNil (hk _ _ (Sto.Le.refl _) ⟨fun _ => rfl, fun hn => absurd hC hn⟩)
        · refine st_pass rfl rfl rfl e1 (beq_off hG) rfl ?_
          exact st_addNil (hk _ _ (Sto.Le.refl _) ⟨fun h => absurd h hG, fun _ => rfl⟩)
      · intro ρ' τ pool rs hl hd hout hk
        obtain ⟨_, e1, rfl⟩ := hd 1 rfl
        by_cases hG : s58.2 = true
        · have hC := hG
          refine o_load (j := 4) (v := .int .i64 s58.1) rfl (wants_of rfl e1 hG) rfl z_sc3 ((hout 9 rfl).trans rfl) rfl rfl ?_
          exact st_addNil (hk _ _ (Sto.Le.refl _) ⟨fun _ => rfl, fun hn => absurd hC hn⟩)
        · refine st_pass rfl rfl rfl e1 (beq_off hG) rfl ?_
          exact st_addNil (hk _ _ (Sto.Le.refl _) ⟨fun h => absurd h hG, fun _ => rfl⟩)
      · intro ρ' τ pool rs hl hd hout hk
        obtain ⟨_, e1, rfl⟩ := hd 1 rfl
        obtain ⟨w3, e3, t3⟩ := hd 3 rfl
        obtain ⟨w4, e4, t4⟩ := hd 4 rfl
        by_cases hG : s58.2 = true
        · have hC := hG
          replace hr60 := hr60 hC
          obtain ⟨rfl⟩ := t3.1 hC
          obtain ⟨rfl⟩ := t4.1 hC
          refine st_call (foot := []) rfl (wants_of rfl e1 hG) rfl rfl (evs_cons e3 (evs_cons e4 rfl)) rfl (callV_fn z_en12 (ref10_Add_ok hr60 τ)) ?_
          rintro vτ61 τ61 gsτ61 hl62 ⟨rfl, rfl⟩
          exact st_addNil (hk _ _ hl62 ⟨fun _ => rfl, fun hn => absurd hC hn⟩)
        · refine st_pass rfl rfl rfl e1 (beq_off hG) rfl ?_
          exact st_addNil (hk _ _ (Sto.Le.refl _) ⟨fun h => absurd h hG, fun _ => rfl⟩)
      · intro ρ' τ pool rs hl hd hout hk
        obtain ⟨_, e1, rfl⟩ := hd 1 rfl
        obtain ⟨w2, e2, t2⟩ := hd 2 rfl
        obtain ⟨w5, e5, t5⟩ := hd 5 rfl
        by_cases hG : s58.2 = true
        · have hC := hG
          replace hr64 := hr64 hC
          obtain ⟨rfl⟩ := t2.1 hC
          obtain ⟨rfl⟩ := t5.1 hC
          refine st_call (foot := []) rfl (wants_of rfl e1 hG) rfl rfl (evs_cons e2 (evs_cons e5 rfl)) rfl (callV_fn z_en11 (ref32_Has_ok hr64 τ)) ?_
          rintro vτ65 τ65 gsτ65 hl66 ⟨rfl, rfl⟩
          exact st_addNil (hk _ _ hl66 ⟨fun _ => rfl, fun hn => absurd hC hn⟩)
        · refine st_pass rfl rfl rfl e1 (beq_off hG) rfl ?_
          exact st_addNil (hk _ _ (Sto.Le.refl _) ⟨fun h => absurd h hG, fun _ => rfl⟩)
      · intro ρ' τ pool rs hl hd hout hk
        obtain ⟨_, e1, rfl⟩ := hd 1 rfl
        obtain ⟨w6, e6, t6⟩ := hd 6 rfl
        refine o_pickAnd rfl rfl rfl e1 (fun hp => e6.trans (congrArg some (t6.1 hp))) rfl ?_
        exact st_addNil (hk _ _ (Sto.Le.refl _) rfl)
      intro ρ' τ67 vals hl67 hv hout
      have l7 : Eng.look ρ' 65 = some (.bool (s58.2 && r63)) := (hv 7 (by decide)).1.trans (congrArg some (show vals 7 = .bool (s58.2 && r63) from (hv 7 (by decide)).2))
      refine st_env (ρ' := [(65, .bool (s58.2 && r63)), (4, .pointer (some ⟨b1, 0, none⟩)), (5, .pointer (some ⟨b2, 0, none⟩)), (6, .pointer (some ⟨b3, 0, none⟩)), (7, .pointer (some ⟨b4, 0, none⟩)), (8, .bool false), (9, .pointer (some ⟨b5, 0, none⟩)), (10, .pointer (some ⟨b6, 0, none⟩)), (11, .pointer (some ⟨b7, 0, none⟩))]) ⟨l7, (hout 4 rfl).trans rfl, (hout 5 rfl).trans rfl, (hout 6 rfl).trans rfl, (hout 7 rfl).trans rfl, (hout 8 rfl).trans rfl, (hout 9 rfl).trans rfl, (hout 10 rfl).trans rfl, (hout 11 rfl).trans rfl, trivial⟩ ?_
      refine st_ord [0, 0, 0, 0, 0, 0, 0] [[(b1, .cells [.int .u32 a0.1, .int .u64 a0.2].toArray 25 (0, 0))], [(b2, .cells [.int .u32 a1].toArray 22 (0, 0))], [(b3, .cells [.int .i64 (min a2 200)].toArray 3 (0, 0))], [(b4, .cells [.int .i64 a3].toArray 3 (0, 0))], [(b5, .cells [.int .i64 s58.1].toArray 3 (0, 0))], [(b6, .cells [.bool s58.2].toArray 4 (0, 0))], [(b7, .cells [.int .i64 p33.2.2].toArray 3 (0, 0))]] rfl ?_
      refine o_store (j := 5) (vs := [.bool (s58.2 && r63)]) (cs' := [.bool (s58.2 && r63)]) rfl rfl rfl z_size4 rfl rfl rfl (ones_cons rfl ones_nil) rfl rfl rfl ?_
      refine st_gs [[(b1, .cells [.int .u32 a0.1, .int .u64 a0.2].toArray 25 (0, 0))], [(b2, .cells [.int .u32 a1].toArray 22 (0, 0))], [(b3, .cells [.int .i64 (min a2 200)].toArray 3 (0, 0))], [(b4, .cells [.int .i64 a3].toArray 3 (0, 0))], [(b5, .cells [.int .i64 s58.1].toArray 3 (0, 0))], [(b6, .cells [.bool (s58.2 && r63)].toArray 4 (0, 0))], [(b7, .cells [.int .i64 p33.2.2].toArray 3 (0, 0))]] rfl ?_
      refine st_end ?_
      refine st_region ?_
      refine o_load (j := 4) (v := .int .i64 s58.1) rfl rfl rfl z_sc3 rfl rfl rfl ?_
      refine o_ibin (v := .int .i64 (IntKind.i64.wrap (s58.1 + 1))) rfl rfl rfl rfl rfl rfl ?_
      refine o_store (j := 4) (vs := [.int .i64 (IntKind.i64.wrap (s58.1 + 1))]) (cs' := [.int .i64 (IntKind.i64.wrap (s58.1 + 1))]) rfl rfl rfl z_size3 rfl rfl rfl (ones_cons rfl ones_nil) rfl rfl rfl ?_
      refine st_gs [[(b1, .cells [.int .u32 a0.1, .int .u64 a0.2].toArray 25 (0, 0))], [(b2, .cells [.int .u32 a1].toArray 22 (0, 0))], [(b3, .cells [.int .i64 (min a2 200)].toArray 3 (0, 0))], [(b4, .cells [.int .i64 a3].toArray 3 (0, 0))], [(b5, .cells [.int .i64 (IntKind.i64.wrap (s58.1 + 1))].toArray 3 (0, 0))], [(b6, .cells [.bool (s58.2 && r63)].toArray 4 (0, 0))], [(b7, .cells [.int .i64 p33.2.2].toArray 3 (0, 0))]] rfl ?_
      refine st_end ?_
      refine st_inBlock ?_
      refine st_env (ρ' := [(4, .pointer (some ⟨b1, 0, none⟩)), (5, .pointer (some ⟨b2, 0, none⟩)), (6, .pointer (some ⟨b3, 0, none⟩)), (7, .pointer (some ⟨b4, 0, none⟩)), (8, .bool false), (9, .pointer (some ⟨b5, 0, none⟩)), (10, .pointer (some ⟨b6, 0, none⟩)), (11, .pointer (some ⟨b7, 0, none⟩))]) ⟨rfl, rfl, rfl, rfl, rfl, rfl, rfl, rfl, trivial⟩ ?_
      exact hn58 _ _ _ _ h ⟨(hl58.trans hl67), rfl, rfl⟩
    · replace h := (if_neg (ne_t hc)).mp h
      refine st_exit rfl ?_
      obtain rfl := he58 _ h
      replace h := hA58
      refine st_env (ρ' := [(4, .pointer (some ⟨b1, 0, none⟩)), (5, .pointer (some ⟨b2, 0, none⟩)), (6, .pointer (some ⟨b3, 0, none⟩)), (7, .pointer (some ⟨b4, 0, none⟩)), (8, .bool false), (10, .pointer (some ⟨b6, 0, none⟩)), (11, .pointer (some ⟨b7, 0, none⟩))]) ⟨rfl, rfl, rfl, rfl, rfl, rfl, rfl, trivial⟩ ?_
      refine st_ord [0, 0, 0, 0, 1, 1] [[(b1, .cells [.int .u32 a0.1, .int .u64 a0.2].toArray 25 (0, 0))], [(b2, .cells [.int .u32 a1].toArray 22 (0, 0))], [(b3, .cells [.int .i64 (min a2 200)].toArray 3 (0, 0))], [(b4, .cells [.int .i64 a3].toArray 3 (0, 0))], [(b6, .cells [.bool s58.2].toArray 4 (0, 0))], [(b7, .cells [.int .i64 p33.2.2].toArray 3 (0, 0))]] rfl ?_
      exact hk36 _ _ _ ⟨s58.2, h, hl58, rfl, rfl⟩
  · exact fun _ _ _ _ _ _ _ h => h.elim
theorem window_Window_Top_nil_ok  {r : Int} (h : window_Window_Top_nil r) (σ : Sto)  :
    Does Try.prog 44 [.pointer none] σ [] (fun v τ gs => gs = [] ∧ v = .int .u32 r) := by
  refine call_of Try.func44 Try.ntmps44 rfl rfl (fun cs fs => ?_)
  refine st_seq ?_
  refine st_region ?_
  refine o_assign rfl rfl rfl rfl ?_
  refine st_end ?_
  refine st_seq ?_
  refine st_seq ?_
  refine st_region ?_
  refine o_move rfl rfl rfl rfl ?_
  refine o_ptrNil (b := true) rfl rfl rfl Try.underlying35 rfl rfl rfl ?_
  refine st_end ?_
  refine st_condT rfl ?_
  refine st_seq ?_
  refine st_region ?_
  refine o_assign rfl rfl rfl rfl ?_
  refine st_end ?_
  obtain rfl := h
  exact st_ret (gs' := []) Try.func44 rfl (List.Sublist.refl _) (Sto.Le.refl _) ⟨rfl, rfl⟩
theorem window_Window_Bits_nil_ok  {r : Int} (h : window_Window_Bits_nil r) (σ : Sto)  :
    Does Try.prog 45 [.pointer none] σ [] (fun v τ gs => gs = [] ∧ v = .int .u64 r) := by
  refine call_of Try.func45 Try.ntmps45 rfl rfl (fun cs fs => ?_)
  refine st_seq ?_
  refine st_region ?_
  refine o_assign rfl rfl rfl rfl ?_
  refine st_end ?_
  refine st_seq ?_
  refine st_seq ?_
  refine st_region ?_
  refine o_move rfl rfl rfl rfl ?_
  refine o_ptrNil (b := true) rfl rfl rfl Try.underlying35 rfl rfl rfl ?_
  refine st_end ?_
  refine st_condT rfl ?_
  refine st_seq ?_
  refine st_region ?_
  refine o_assign rfl rfl rfl rfl ?_
  refine st_end ?_
  obtain rfl := h
  exact st_ret (gs' := []) Try.func45 rfl (List.Sublist.refl _) (Sto.Le.refl _) ⟨rfl, rfl⟩
theorem ack_Of_nil_ok  {r : (Int × Int)} (h : ack_Of_nil r) (σ : Sto)  :
    Does Try.prog 15 [.pointer none] σ [] (fun v τ gs => gs = [] ∧ v = .agg [.int .u32 r.1, .int .u64 r.2].toArray) := by
  refine call_of Try.func15 Try.ntmps15 rfl rfl (fun cs fs => ?_)
  refine st_seq ?_
  refine st_region ?_
  refine o_alloc rfl rfl rfl z_zero25 (fun b1 => ?_)
  refine st_end ?_
  refine st_seq ?_
  refine st_region ?_
  refine o_move rfl rfl rfl rfl ?_
  obtain ⟨r2, hr3, h⟩ := h
  refine st_call (foot := []) rfl rfl rfl rfl rfl rfl (callV_fn z_en44 (window_Window_Top_nil_ok hr3 σ)) ?_
  rintro vτ4 τ4 gsτ4 hl5 ⟨rfl, rfl⟩
  refine o_move rfl rfl rfl rfl ?_
  obtain ⟨r6, hr7, h⟩ := h
  refine st_call (foot := []) rfl rfl rfl rfl rfl rfl (callV_fn z_en45 (window_Window_Bits_nil_ok hr7 τ4)) ?_
  rintro vτ8 τ8 gsτ8 hl9 ⟨rfl, rfl⟩
  refine o_build (ps := [(0, [.int .u32 r2]), (1, [.int .u64 r6])]) (cs := [.int .u32 r2, .int .u64 r6]) rfl rfl rfl z_struct25 ⟨rfl, ⟨_, rfl, rfl⟩, ⟨rfl, ⟨_, rfl, rfl⟩, trivial⟩⟩ rfl ?_
  refine o_store (j := 0) (vs := [.int .u32 r2, .int .u64 r6]) (cs' := [.int .u32 r2, .int .u64 r6]) rfl rfl rfl z_size25 rfl rfl rfl (ones_cons rfl (ones_cons rfl ones_nil)) rfl rfl rfl ?_
  refine st_gs [[(b1, .cells [.int .u32 r2, .int .u64 r6].toArray 25 (0, 0))]] rfl ?_
  refine st_end ?_
  obtain rfl := h
  exact st_retC (gs' := []) [.agg [.int .u32 r2, .int .u64 r6].toArray] Try.func15 ⟨⟨_, _, _, _, rfl, mem_flat 0 rfl, fun w hw => cellOfN (vs := [.int .u32 r2, .int .u64 r6]) z_agg25 rfl w hw⟩, trivial⟩ (by simp) (hl5.trans hl9) ⟨rfl, rfl⟩
theorem law32_AckWindow_ok {a0 : Int} {a1 : List Int} {a2 : Int} {v1 : Value} {r : Bool} (h : law32_AckWindow a0 a1 a2 r) (σ : Sto) (hs2 : Sl (kI .u32) σ v1 a1) :
    Does Try.prog 4 [.int .u32 a0, v1, .int .u32 a2] σ [] (fun v τ gs => gs = [] ∧ v = .bool r) := by
  refine call_of Try.func4 Try.ntmps4 rfl rfl (fun cs fs => ?_)
  refine st_seq ?_
  refine st_region ?_
  refine o_assign rfl rfl rfl rfl ?_
  refine st_end ?_
  refine st_seq ?_
  refine st_region ?_
  refine o_move rfl rfl rfl rfl ?_
  obtain ⟨r3, hr4, h⟩ := h
  refine st_call (foot := []) rfl rfl rfl rfl rfl rfl (callV_fn z_en14 (window_New_ok hr4 σ)) ?_
  rintro vτ5 τ5 gsτ5 hl6 ⟨b7, rfl, rfl⟩
  refine o_assign rfl rfl rfl rfl ?_
  refine st_end ?_
  refine st_seq ?_
  refine st_seq ?_
  refine st_region ?_
  refine o_move rfl rfl rfl rfl ?_
  refine o_ptrNil (b := false) rfl rfl rfl Try.underlying35 rfl rfl rfl ?_
  refine st_end ?_
  refine st_condF rfl ?_
  refine st_skip ?_
  refine st_seq ?_
  refine st_cut (fun ρ τ8 gs => ∃ (s8 : Unit), law32_AckWindow_j1 s8 r ∧ τ5.Le τ8 ∧ ρ = [(6, .bool false)] ∧ gs = []) ?_ (fun hk8 => ?_)
  · rintro ρ8 τ8 gs8 ⟨s8, h, hl8, rfl, rfl⟩
    refine st_seq ?_
    refine st_cut (fun ρ τ9 gs => ∃ (s9 : Bool), law32_AckWindow_j2 s9 r ∧ τ8.Le τ9 ∧ ρ = [(6, .bool s9)] ∧ gs = []) ?_ (fun hk9 => ?_)
    · rintro ρ9 τ9 gs9 ⟨s9, h, hl9, rfl, rfl⟩
      obtain rfl := h
      exact st_ret (gs' := []) Try.func4 rfl (List.Sublist.refl _) ((hl6.trans hl8).trans hl9) ⟨rfl, rfl⟩
    refine st_region ?_
    obtain ⟨r10, hr11, h⟩ := h
    refine st_call (foot := []) rfl rfl rfl rfl rfl rfl (callV_fn z_en13 (law32_known_ok hr11 τ8)) ?_
    rintro vτ12 τ12 gsτ12 hl13 ⟨rfl, rfl⟩
    refine o_moveB rfl rfl rfl rfl (fun hc => ?_) (fun hc => ?_)
    · replace h := (if_pos hc).mp h
      obtain ⟨r14, hr15, h⟩ := h
      refine st_call (foot := []) rfl rfl rfl rfl rfl rfl (callV_fn z_en15 (ack_Of_nil_ok hr15 τ12)) ?_
      rintro vτ16 τ16 gsτ16 hl17 ⟨rfl, rfl⟩
      refine o_build (ps := []) (cs := [.int .u32 0, .int .u64 0]) rfl rfl rfl z_struct25 trivial rfl ?_
      refine o_aggEq (b := ((decide (r14.1 = 0)) && ((decide (r14.2 = 0)) && true))) (e := ((decide (r14.1 = 0)) && ((decide (r14.2 = 0)) && true))) rfl rfl rfl z_eqg25 rfl rfl (fun w => by refine eq_struct Try.underlying25 z_held25 ?_; refine eqf_cons (r := (decide (r14.1 = 0))) (r' := ((decide (r14.2 = 0)) && true)) rfl (part_one z_sc22 rfl) (part_one z_sc22 rfl) (by exact eq_int Try.underlying22 _ _) ?_; refine eqf_cons (r := (decide (r14.2 = 0))) (r' := true) rfl (part_one z_sc23 rfl) (part_one z_sc23 rfl) (by exact eq_int Try.underlying23 _ _) ?_; exact eqf_nil _ _ _ _) rfl ?_
      refine o_pick rfl rfl rfl rfl rfl ?_
      refine o_assign rfl rfl rfl rfl ?_
      refine st_end ?_
      refine st_env (ρ' := [(6, .bool ((decide (r14.1 = 0)) && ((decide (r14.2 = 0)) && true)))]) ⟨rfl, trivial⟩ ?_
      exact hk9 _ _ _ ⟨((decide (r14.1 = 0)) && ((decide (r14.2 = 0)) && true)), h, (hl13.trans hl17), rfl, rfl⟩
    · replace h := (if_neg (ne_t hc)).mp h
      refine st_pass rfl rfl rfl rfl rfl rfl ?_
      refine st_pass rfl rfl rfl rfl rfl rfl ?_
      refine st_pass rfl rfl rfl rfl rfl rfl ?_
      refine o_pick rfl rfl rfl rfl rfl ?_
      refine o_assign rfl rfl rfl rfl ?_
      refine st_end ?_
      refine st_env (ρ' := [(6, .bool false)]) ⟨rfl, trivial⟩ ?_
      exact hk9 _ _ _ ⟨false, h, hl13, rfl, rfl⟩
  refine st_seq ?_
  refine st_region ?_
  refine o_assign rfl rfl rfl rfl ?_
  refine st_end ?_
  obtain ⟨e18, hL18, hA18⟩ := h
  refine st_env (ρ' := [(1, v1), (2, .int .u32 a2), (6, .bool false), (7, .pointer (some ⟨b7, 0, none⟩)), (8, .int .i64 0)]) ⟨rfl, rfl, rfl, rfl, rfl, trivial⟩ ?_
  refine st_loop hL18 (fun (s18 : Int × Int × Int) ρ τ18 gs => τ5.Le τ18 ∧ ρ = [(1, v1), (2, .int .u32 a2), (6, .bool false), (7, .pointer (some ⟨b7, 0, none⟩)), (8, .int .i64 s18.1)] ∧ gs = [[(b7, .cells [.int .u32 s18.2.1, .int .u64 s18.2.2].toArray 89 (0, 0))]]) ⟨Sto.Le.refl _, rfl, rfl⟩ ?_
  rintro s18 o18 h he18 ρ18 τ18 gs18 ⟨hl18, rfl, rfl⟩ hn18
  refine st_seq ?_
  refine st_seq ?_
  refine st_cut (fun ρ τ19 gs => ∃ (s19 : Bool), law32_AckWindow_j4 a1 a2 s18 s19 o18 ∧ τ18.Le τ19 ∧ ρ = [(1, v1), (2, .int .u32 a2), (6, .bool false), (7, .pointer (some ⟨b7, 0, none⟩)), (8, .int .i64 s18.1), (23, .bool s19)] ∧ gs = [[(b7, .cells [.int .u32 s18.2.1, .int .u64 s18.2.2].toArray 89 (0, 0))]]) ?_ (fun hk19 => ?_)
  · rintro ρ19 τ19 gs19 ⟨s19, h, hl19, rfl, rfl⟩
    refine st_cond rfl (fun hc => ?_) (fun hc => ?_)
    · replace h := (if_pos hc).mp h
      refine st_skip ?_
      refine st_seq ?_
      refine st_block ?_
      refine st_seq ?_
      refine st_region ?_
      refine o_move rfl rfl rfl rfl ?_
      obtain ⟨r20, hr21, h⟩ := h
      refine st_call (foot := [[(b7, .cells [.int .u32 s18.2.1, .int .u64 s18.2.2].toArray 89 (0, 0))]]) rfl rfl rfl rfl rfl rfl (callV_fn z_en15 (ack_Of_ok hr21 τ19)) ?_
      rintro vτ22 τ22 gsτ22 hl23 ⟨rfl, rfl⟩
      refine o_alloc rfl rfl rfl z_zero25 (fun b24 => ?_)
      refine o_store (j := 0) (vs := [.int .u32 r20.1, .int .u64 r20.2]) (cs' := [.int .u32 r20.1, .int .u64 r20.2]) rfl rfl rfl z_size25 rfl rfl rfl (ones_cons rfl (ones_cons rfl ones_nil)) rfl rfl rfl ?_
      refine st_gs [[(b24, .cells [.int .u32 r20.1, .int .u64 r20.2].toArray 25 (0, 0))], [(b7, .cells [.int .u32 s18.2.1, .int .u64 s18.2.2].toArray 89 (0, 0))]] rfl ?_
      refine st_end ?_
      refine st_seq ?_
      refine st_seq ?_
      obtain ⟨r25, hr26, h⟩ := h
      obtain ⟨r29, hr30, h⟩ := h
      obtain ⟨q33, hf34, h⟩ := h
      obtain ⟨r38, hr39, h⟩ := h
      obtain ⟨q42, hf43, h⟩ := h
      obtain ⟨r47, hr48, h⟩ := h
      refine st_draw 24 (tl [fun τ v => v = .agg [.int .u32 r20.1, .int .u64 r20.2].toArray,
    fun τ v => v = .int .u32 a2,
    fun τ v => v = .bool r25,
    fun τ v => v = .pointer (some ⟨b7, 0, none⟩),
    fun τ v => v = .int .u32 a2,
    fun τ v => v = .int .i64 r29,
    fun τ v => v = .bool (decide (r29 = 0)),
    fun τ v => v = .bool (!(decide (r25 = (decide (r29 = 0))))),
    fun τ v => v = .bool (!(decide (r25 = (decide (r29 = 0))))),
    fun τ v => (((!(decide (r25 = (decide (r29 = 0))))) = false) → v = .agg [.int .u32 r20.1, .int .u64 r20.2].toArray) ∧ (¬ ((!(decide (r25 = (decide (r29 = 0))))) = false) → v = undef),
    fun τ v => (((!(decide (r25 = (decide (r29 = 0))))) = false) → v = v1) ∧ (¬ ((!(decide (r25 = (decide (r29 = 0))))) = false) → v = undef),
    fun τ v => (((!(decide (r25 = (decide (r29 = 0))))) = false) → v = .int .i64 s18.1) ∧ (¬ ((!(decide (r25 = (decide (r29 = 0))))) = false) → v = undef),
    fun τ v => (((!(decide (r25 = (decide (r29 = 0))))) = false) → ∃ (b35 : Nat) (of36 : Nat) (vsb35 : List Value), v = .pointer (some ⟨b35, of36, none⟩) ∧ CelN τ ⟨b35, of36, none⟩ vsb35 ∧ (kI .u32).rep τ vsb35 q33) ∧ (¬ ((!(decide (r25 = (decide (r29 = 0))))) = false) → v = undef),
    fun τ v => (((!(decide (r25 = (decide (r29 = 0))))) = false) → v = .int .u32 q33) ∧ (¬ ((!(decide (r25 = (decide (r29 = 0))))) = false) → v = undef),
    fun τ v => (((!(decide (r25 = (decide (r29 = 0))))) = false) → v = .bool r38) ∧ (¬ ((!(decide (r25 = (decide (r29 = 0))))) = false) → v = undef),
    fun τ v => (((!(decide (r25 = (decide (r29 = 0))))) = false) → v = .pointer (some ⟨b7, 0, none⟩)) ∧ (¬ ((!(decide (r25 = (decide (r29 = 0))))) = false) → v = undef),
    fun τ v => (((!(decide (r25 = (decide (r29 = 0))))) = false) → v = v1) ∧ (¬ ((!(decide (r25 = (decide (r29 = 0))))) = false) → v = undef),
    fun τ v => (((!(decide (r25 = (decide (r29 = 0))))) = false) → v = .int .i64 s18.1) ∧ (¬ ((!(decide (r25 = (decide (r29 = 0))))) = false) → v = undef),
    fun τ v => (((!(decide (r25 = (decide (r29 = 0))))) = false) → ∃ (b44 : Nat) (of45 : Nat) (vsb44 : List Value), v = .pointer (some ⟨b44, of45, none⟩) ∧ CelN τ ⟨b44, of45, none⟩ vsb44 ∧ (kI .u32).rep τ vsb44 q42) ∧ (¬ ((!(decide (r25 = (decide (r29 = 0))))) = false) → v = undef),
    fun τ v => (((!(decide (r25 = (decide (r29 = 0))))) = false) → v = .int .u32 q42) ∧ (¬ ((!(decide (r25 = (decide (r29 = 0))))) = false) → v = undef),
    fun τ v => (((!(decide (r25 = (decide (r29 = 0))))) = false) → v = .int .i64 r47) ∧ (¬ ((!(decide (r25 = (decide (r29 = 0))))) = false) → v = undef),
    fun τ v => (((!(decide (r25 = (decide (r29 = 0))))) = false) → v = .bool (decide (r47 = 0))) ∧ (¬ ((!(decide (r25 = (decide (r29 = 0))))) = false) → v = undef),
    fun τ v => (((!(decide (r25 = (decide (r29 = 0))))) = false) → v = .bool (!(decide (r38 = (decide (r47 = 0)))))) ∧ (¬ ((!(decide (r25 = (decide (r29 = 0))))) = false) → v = undef),
    fun τ v => v = .bool ((!(decide (r25 = (decide (r29 = 0))))) || (!(decide (r38 = (decide (r47 = 0))))))]) (fun _ _ => []) z_mix rfl (tl_mono ⟨fun _ _ _ _ h => h, ⟨fun _ _ _ _ h => h, ⟨fun _ _ _ _ h => h, ⟨fun _ _ _ _ h => h, ⟨fun _ _ _ _ h => h, ⟨fun _ _ _ _ h => h, ⟨fun _ _ _ _ h => h, ⟨fun _ _ _ _ h => h, ⟨fun _ _ _ _ h => h, ⟨fun _ _ _ _ h => h, ⟨fun _ _ _ _ h => h, ⟨fun _ _ _ _ h => h, ⟨fun _ _ _ hl ⟨h1, h2⟩ => ⟨fun hC => let ⟨b35, of36, vsb35, hv, hc37, hrepb35⟩ := h1 hC; ⟨b35, of36, vsb35, hv, hc37.up hl, Kd.mono _ hl hrepb35⟩, h2⟩, ⟨fun _ _ _ _ h => h, ⟨fun _ _ _ _ h => h, ⟨fun _ _ _ _ h => h, ⟨fun _ _ _ _ h => h, ⟨fun _ _ _ _ h => h, ⟨fun _ _ _ hl ⟨h1, h2⟩ => ⟨fun hC => let ⟨b44, of45, vsb44, hv, hc46, hrepb44⟩ := h1 hC; ⟨b44, of45, vsb44, hv, hc46.up hl, Kd.mono _ hl hrepb44⟩, h2⟩, ⟨fun _ _ _ _ h => h, ⟨fun _ _ _ _ h => h, ⟨fun _ _ _ _ h => h, ⟨fun _ _ _ _ h => h, ⟨fun _ _ _ _ h => h, trivial⟩⟩⟩⟩⟩⟩⟩⟩⟩⟩⟩⟩⟩⟩⟩⟩⟩⟩⟩⟩⟩⟩⟩⟩) (allB_cons (allB_cons (allB_cons (allB_cons (allB_cons (allB_cons (allB_cons (allB_cons (allB_cons (allB_cons (allB_cons (allB_cons (allB_cons (allB_cons (allB_cons (allB_cons (allB_cons (allB_cons (allB_cons (allB_cons (allB_cons (allB_cons (allB_cons (allB_cons allB_nil ?_) ?_) ?_) ?_) ?_) ?_) ?_) ?_) ?_) ?_) ?_) ?_) ?_) ?_) ?_) ?_) ?_) ?_) ?_) ?_) ?_) ?_) ?_) ?_) ?_
      · intro ρ' τ pool rs hl hd hout hk
        refine o_loadN (j := 0) (vs := [.int .u32 r20.1, .int .u64 r20.2]) rfl rfl rfl z_agg25 ((hout 9 rfl).trans rfl) rfl rfl ?_
        exact st_addNil (hk _ _ (Sto.Le.refl _) rfl)
      · intro ρ' τ pool rs hl hd hout hk
        refine o_move rfl rfl rfl ((hout 2 rfl).trans rfl) ?_
        exact st_addNil (hk _ _ (Sto.Le.refl _) rfl)
      · intro ρ' τ pool rs hl hd hout hk
        obtain ⟨_, e0, rfl⟩ := hd 0 rfl
        obtain ⟨_, e1, rfl⟩ := hd 1 rfl
        refine st_call (foot := []) rfl rfl rfl rfl (evs_cons e0 (evs_cons e1 rfl)) rfl (callV_fn z_en16 (ack_Lacks_ok hr26 τ)) ?_
        rintro vτ27 τ27 gsτ27 hl28 ⟨rfl, rfl⟩
        exact st_addNil (hk _ _ hl28 rfl)
      · intro ρ' τ pool rs hl hd hout hk
        refine o_move rfl rfl rfl ((hout 7 rfl).trans rfl) ?_
        exact st_addNil (hk _ _ (Sto.Le.refl _) rfl)
      · intro ρ' τ pool rs hl hd hout hk
        refine o_move rfl rfl rfl ((hout 2 rfl).trans rfl) ?_
        exact st_addNil (hk _ _ (Sto.Le.refl _) rfl)
      · intro ρ' τ pool rs hl hd hout hk
        obtain ⟨_, e3, rfl⟩ := hd 3 rfl
        obtain ⟨_, e4, rfl⟩ := hd 4 rfl
        refine st_ord [1, 0, 0] [[(b7, .cells [.int .u32 s18.2.1, .int .u64 s18.2.2].toArray 89 (0, 0))], [(b24, .cells [.int .u32 r20.1, .int .u64 r20.2].toArray 25 (0, 0))], pool] rfl ?_
        refine st_call (foot := [[(b7, .cells [.int .u32 s18.2.1, .int .u64 s18.2.2].toArray 89 (0, 0))]]) rfl rfl rfl rfl (evs_cons e3 (evs_cons e4 rfl)) rfl (callV_fn z_en17 (window_Window_Look_ok hr30 τ)) ?_
        rintro vτ31 τ31 gsτ31 hl32 ⟨rfl, rfl⟩
        refine st_ord [1, 0, 0] [[(b24, .cells [.int .u32 r20.1, .int .u64 r20.2].toArray 25 (0, 0))], [(b7, .cells [.int .u32 s18.2.1, .int .u64 s18.2.2].toArray 89 (0, 0))], pool] rfl ?_
        exact st_addNil (hk _ _ hl32 rfl)
      · intro ρ' τ pool rs hl hd hout hk
        obtain ⟨_, e5, rfl⟩ := hd 5 rfl
        refine o_ibin (v := .bool (decide (r29 = 0))) rfl rfl rfl e5 rfl rfl ?_
        exact st_addNil (hk _ _ (Sto.Le.refl _) rfl)
      · intro ρ' τ pool rs hl hd hout hk
        obtain ⟨_, e2, rfl⟩ := hd 2 rfl
        obtain ⟨_, e6, rfl⟩ := hd 6 rfl
        refine o_beq (e := (!(decide (r25 = (decide (r29 = 0)))))) rfl rfl rfl Try.underlying4 e2 e6 rfl ?_
        exact st_addNil (hk _ _ (Sto.Le.refl _) rfl)
      · intro ρ' τ pool rs hl hd hout hk
        obtain ⟨_, e7, rfl⟩ := hd 7 rfl
        refine o_move rfl rfl rfl e7 ?_
        exact st_addNil (hk _ _ (Sto.Le.refl _) rfl)
      · intro ρ' τ pool rs hl hd hout hk
        obtain ⟨_, e8, rfl⟩ := hd 8 rfl
        by_cases hG : (!(decide (r25 = (decide (r29 = 0))))) = false
        · have hC := hG
          refine o_loadN (j := 0) (vs := [.int .u32 r20.1, .int .u64 r20.2]) rfl (wants_of rfl e8 hG) rfl z_agg25 ((hout 9 rfl).trans rfl) rfl rfl ?_
          exact st_addNil (hk _ _ (Sto.Le.refl _) ⟨fun _ => rfl, fun hn => absurd hC hn⟩)
        · refine st_pass rfl rfl rfl e8 (beq_off hG) rfl ?_
          exact st_addNil (hk _ _ (Sto.Le.refl _) ⟨fun h => absurd h hG, fun _ => rfl⟩)
      · intro ρ' τ pool rs hl hd hout hk
        obtain ⟨_, e8, rfl⟩ := hd 8 rfl
        by_cases hG : (!(decide (r25 = (decide (r29 = 0))))) = false
        · have hC := hG
          refine o_move rfl (wants_of rfl e8 hG) rfl ((hout 1 rfl).trans rfl) ?_
          exact st_addNil (hk _ _ (Sto.Le.refl _) ⟨fun _ => rfl, fun hn => absurd hC hn⟩)
        · refine st_pass rfl rfl rfl e8 (beq_off hG) rfl ?_
          exact st_addNil (hk _ _ (Sto.Le.refl _) ⟨fun h => absurd h hG, fun _ => rfl⟩)
      · intro ρ' τ pool rs hl hd hout hk
        obtain ⟨_, e8, rfl⟩ := hd 8 rfl
        by_cases hG : (!(decide (r25 = (decide (r29 = 0))))) = false
        · have hC := hG
          refine o_move rfl (wants_of rfl e8 hG) rfl ((hout 8 rfl).trans rfl) ?_
          exact st_addNil (hk _ _ (Sto.Le.refl _) ⟨fun _ => rfl, fun hn => absurd hC hn⟩)
        · refine st_pass rfl rfl rfl e8 (beq_off hG) rfl ?_
          exact st_addNil (hk _ _ (Sto.Le.refl _) ⟨fun h => absurd h hG, fun _ => rfl⟩)
      · intro ρ' τ pool rs hl hd hout hk
        obtain ⟨_, e8, rfl⟩ := hd 8 rfl
        obtain ⟨w10, e10, t10⟩ := hd 10 rfl
        obtain ⟨w11, e11, t11⟩ := hd 11 rfl
        by_cases hG : (!(decide (r25 = (decide (r29 = 0))))) = false
        · have hC := hG
          replace hf34 := hf34 hC
          obtain ⟨rfl⟩ := t10.1 hC
          obtain ⟨rfl⟩ := t11.1 hC
          refine o_index rfl (wants_of rfl e8 hG) rfl z_slT34 rfl e10 (hs2.up ((((hl6.trans hl18).trans hl19).trans hl23).trans hl)) e11 hf34 (fun b35 of36 vsb35 hc37 hrepb35 => ?_)
          exact st_addNil (hk _ _ (Sto.Le.refl _) ⟨fun _ => ⟨b35, of36, vsb35, rfl, hc37, hrepb35⟩, fun hn => absurd hC hn⟩)
        · refine st_pass rfl rfl rfl e8 (beq_off hG) rfl ?_
          exact st_addNil (hk _ _ (Sto.Le.refl _) ⟨fun h => absurd h hG, fun _ => rfl⟩)
      · intro ρ' τ pool rs hl hd hout hk
        obtain ⟨_, e8, rfl⟩ := hd 8 rfl
        obtain ⟨w12, e12, t12⟩ := hd 12 rfl
        by_cases hG : (!(decide (r25 = (decide (r29 = 0))))) = false
        · have hC := hG
          obtain ⟨b35, of36, vsb35, rfl, hc37, hrepb35⟩ := t12.1 hC
          obtain rfl := hrepb35
          refine o_loadI (v := .int .u32 q33) rfl (wants_of rfl e8 hG) rfl z_sc22 e12 (hc37 0 _ rfl) ?_
          exact st_addNil (hk _ _ (Sto.Le.refl _) ⟨fun _ => rfl, fun hn => absurd hC hn⟩)
        · refine st_pass rfl rfl rfl e8 (beq_off hG) rfl ?_
          exact st_addNil (hk _ _ (Sto.Le.refl _) ⟨fun h => absurd h hG, fun _ => rfl⟩)
      · intro ρ' τ pool rs hl hd hout hk
        obtain ⟨_, e8, rfl⟩ := hd 8 rfl
        obtain ⟨w9, e9, t9⟩ := hd 9 rfl
        obtain ⟨w13, e13, t13⟩ := hd 13 rfl
        by_cases hG : (!(decide (r25 = (decide (r29 = 0))))) = false
        · have hC := hG
          replace hr39 := hr39 hC
          obtain ⟨rfl⟩ := t13.1 hC
          obtain ⟨rfl⟩ := t9.1 hC
          refine st_call (foot := []) rfl (wants_of rfl e8 hG) rfl rfl (evs_cons e9 (evs_cons e13 rfl)) rfl (callV_fn z_en16 (ack_Lacks_ok hr39 τ)) ?_
          rintro vτ40 τ40 gsτ40 hl41 ⟨rfl, rfl⟩
          exact st_addNil (hk _ _ hl41 ⟨fun _ => rfl, fun hn => absurd hC hn⟩)
        · refine st_pass rfl rfl rfl e8 (beq_off hG) rfl ?_
          exact st_addNil (hk _ _ (Sto.Le.refl _) ⟨fun h => absurd h hG, fun _ => rfl⟩)
      · intro ρ' τ pool rs hl hd hout hk
        obtain ⟨_, e8, rfl⟩ := hd 8 rfl
        by_cases hG : (!(decide (r25 = (decide (r29 = 0))))) = false
        · have hC := hG
          refine o_move rfl (wants_of rfl e8 hG) rfl ((hout 7 rfl).trans rfl) ?_
          exact st_addNil (hk _ _ (Sto.Le.refl _) ⟨fun _ => rfl, fun hn => absurd hC hn⟩)
        · refine st_pass rfl rfl rfl e8 (beq_off hG) rfl ?_
          exact st_addNil (hk _ _ (Sto.Le.refl _) ⟨fun h => absurd h hG, fun _ => rfl⟩)
      · intro ρ' τ pool rs hl hd hout hk
        obtain ⟨_, e8, rfl⟩ := hd 8 rfl
        by_cases hG : (!(decide (r25 = (decide (r29 = 0))))) = false
        · have hC := hG
          refine o_move rfl (wants_of rfl e8 hG) rfl ((hout 1 rfl).trans rfl) ?_
          exact st_addNil (hk _ _ (Sto.Le.refl _) ⟨fun _ => rfl, fun hn => absurd hC hn⟩)
        · refine st_pass rfl rfl rfl e8 (beq_off hG) rfl ?_
          exact st_addNil (hk _ _ (Sto.Le.refl _) ⟨fun h => absurd h hG, fun _ => rfl⟩)
      · intro ρ' τ pool rs hl hd hout hk
        obtain ⟨_, e8, rfl⟩ := hd 8 rfl
        by_cases hG : (!(decide (r25 = (decide (r29 = 0))))) = false
        · have hC := hG
          refine o_move rfl (wants_of rfl e8 hG) rfl ((hout 8 rfl).trans rfl) ?_
          exact st_addNil (hk _ _ (Sto.Le.refl _) ⟨fun _ => rfl, fun hn => absurd hC hn⟩)
        · refine st_pass rfl rfl rfl e8 (beq_off hG) rfl ?_
          exact st_addNil (hk _ _ (Sto.Le.refl _) ⟨fun h => absurd h hG, fun _ => rfl⟩)
      · intro ρ' τ pool rs hl hd hout hk
        obtain ⟨_, e8, rfl⟩ := hd 8 rfl
        obtain ⟨w16, e16, t16⟩ := hd 16 rfl
        obtain ⟨w17, e17, t17⟩ := hd 17 rfl
        by_cases hG : (!(decide (r25 = (decide (r29 = 0))))) = false
        · have hC := hG
          replace hf43 := hf43 hC
          obtain ⟨rfl⟩ := t16.1 hC
          obtain ⟨rfl⟩ := t17.1 hC
          refine o_index rfl (wants_of rfl e8 hG) rfl z_slT34 rfl e16 (hs2.up ((((hl6.trans hl18).trans hl19).trans hl23).trans hl)) e17 hf43 (fun b44 of45 vsb44 hc46 hrepb44 => ?_)
          exact st_addNil (hk _ _ (Sto.Le.refl _) ⟨fun _ => ⟨b44, of45, vsb44, rfl, hc46, hrepb44⟩, fun hn => absurd hC hn⟩)
        · refine st_pass rfl rfl rfl e8 (beq_off hG) rfl ?_
          exact st_addNil (hk _ _ (Sto.Le.refl _) ⟨fun h => absurd h hG, fun _ => rfl⟩)
      · intro ρ' τ pool rs hl hd hout hk
        obtain ⟨_, e8, rfl⟩ := hd 8 rfl
        obtain ⟨w18, e18, t18⟩ := hd 18 rfl
        by_cases hG : (!(decide (r25 = (decide (r29 = 0))))) = false
        · have hC := hG
          obtain ⟨b44, of45, vsb44, rfl, hc46, hrepb44⟩ := t18.1 hC
          obtain rfl := hrepb44
          refine o_loadI (v := .int .u32 q42) rfl (wants_of rfl e8 hG) rfl z_sc22 e18 (hc46 0 _ rfl) ?_
          exact st_addNil (hk _ _ (Sto.Le.refl _) ⟨fun _ => rfl, fun hn => absurd hC hn⟩)
        · refine st_pass rfl rfl rfl e8 (beq_off hG) rfl ?_
          exact st_addNil (hk _ _ (Sto.Le.refl _) ⟨fun h => absurd h hG, fun _ => rfl⟩)
      · intro ρ' τ pool rs hl hd hout hk
        obtain ⟨_, e8, rfl⟩ := hd 8 rfl
        obtain ⟨w15, e15, t15⟩ := hd 15 rfl
        obtain ⟨w19, e19, t19⟩ := hd 19 rfl
        by_cases hG : (!(decide (r25 = (decide (r29 = 0))))) = false
        · have hC := hG
          replace hr48 := hr48 hC
          obtain ⟨rfl⟩ := t15.1 hC
          obtain ⟨rfl⟩ := t19.1 hC
          refine st_ord [1, 0, 0] [[(b7, .cells [.int .u32 s18.2.1, .int .u64 s18.2.2].toArray 89 (0, 0))], [(b24, .cells [.int .u32 r20.1, .int .u64 r20.2].toArray 25 (0, 0))], pool] rfl ?_
          refine st_call (foot := [[(b7, .cells [.int .u32 s18.2.1, .int .u64 s18.2.2].toArray 89 (0, 0))]]) rfl (wants_of rfl e8 hG) rfl rfl (evs_cons e15 (evs_cons e19 rfl)) rfl (callV_fn z_en17 (window_Window_Look_ok hr48 τ)) ?_
          rintro vτ49 τ49 gsτ49 hl50 ⟨rfl, rfl⟩
          refine st_ord [1, 0, 0] [[(b24, .cells [.int .u32 r20.1, .int .u64 r20.2].toArray 25 (0, 0))], [(b7, .cells [.int .u32 s18.2.1, .int .u64 s18.2.2].toArray 89 (0, 0))], pool] rfl ?_
          exact st_addNil (hk _ _ hl50 ⟨fun _ => rfl, fun hn => absurd hC hn⟩)
        · refine st_pass rfl rfl rfl e8 (beq_off hG) rfl ?_
          exact st_addNil (hk _ _ (Sto.Le.refl _) ⟨fun h => absurd h hG, fun _ => rfl⟩)
      · intro ρ' τ pool rs hl hd hout hk
        obtain ⟨_, e8, rfl⟩ := hd 8 rfl
        obtain ⟨w20, e20, t20⟩ := hd 20 rfl
        by_cases hG : (!(decide (r25 = (decide (r29 = 0))))) = false
        · have hC := hG
          obtain ⟨rfl⟩ := t20.1 hC
          refine o_ibin (v := .bool (decide (r47 = 0))) rfl (wants_of rfl e8 hG) rfl e20 rfl rfl ?_
          exact st_addNil (hk _ _ (Sto.Le.refl _) ⟨fun _ => rfl, fun hn => absurd hC hn⟩)
        · refine st_pass rfl rfl rfl e8 (beq_off hG) rfl ?_
          exact st_addNil (hk _ _ (Sto.Le.refl _) ⟨fun h => absurd h hG, fun _ => rfl⟩)
      · intro ρ' τ pool rs hl hd hout hk
        obtain ⟨_, e8, rfl⟩ := hd 8 rfl
        obtain ⟨w14, e14, t14⟩ := hd 14 rfl
        obtain ⟨w21, e21, t21⟩ := hd 21 rfl
        by_cases hG : (!(decide (r25 = (decide (r29 = 0))))) = false
        · have hC := hG
          obtain ⟨rfl⟩ := t21.1 hC
          obtain ⟨rfl⟩ := t14.1 hC
          refine o_beq (e := (!(decide (r38 = (decide (r47 = 0)))))) rfl (wants_of rfl e8 hG) rfl Try.underlying4 e14 e21 rfl ?_
          exact st_addNil (hk _ _ (Sto.Le.refl _) ⟨fun _ => rfl, fun hn => absurd hC hn⟩)
        · refine st_pass rfl rfl rfl e8 (beq_off hG) rfl ?_
          exact st_addNil (hk _ _ (Sto.Le.refl _) ⟨fun h => absurd h hG, fun _ => rfl⟩)
      · intro ρ' τ pool rs hl hd hout hk
        obtain ⟨_, e8, rfl⟩ := hd 8 rfl
        obtain ⟨w22, e22, t22⟩ := hd 22 rfl
        refine o_pickOr rfl rfl rfl e8 rfl (fun hp => e22.trans (congrArg some (t22.1 hp))) ?_
        exact st_addNil (hk _ _ (Sto.Le.refl _) rfl)
      intro ρ' τ51 vals hl51 hv hout
      have l23 : Eng.look ρ' 51 = some (.bool ((!(decide (r25 = (decide (r29 = 0))))) || (!(decide (r38 = (decide (r47 = 0))))))) := (hv 23 (by decide)).1.trans (congrArg some (show vals 23 = .bool ((!(decide (r25 = (decide (r29 = 0))))) || (!(decide (r38 = (decide (r47 = 0)))))) from (hv 23 (by decide)).2))
      refine st_env (ρ' := [(51, .bool ((!(decide (r25 = (decide (r29 = 0))))) || (!(decide (r38 = (decide (r47 = 0))))))), (1, v1), (2, .int .u32 a2), (6, .bool false), (7, .pointer (some ⟨b7, 0, none⟩)), (8, .int .i64 s18.1), (9, .pointer (some ⟨b24, 0, none⟩))]) ⟨l23, (hout 1 rfl).trans rfl, (hout 2 rfl).trans rfl, (hout 6 rfl).trans rfl, (hout 7 rfl).trans rfl, (hout 8 rfl).trans rfl, (hout 9 rfl).trans rfl, trivial⟩ ?_
      refine st_ord [0, 0] [[(b24, .cells [.int .u32 r20.1, .int .u64 r20.2].toArray 25 (0, 0))], [(b7, .cells [.int .u32 s18.2.1, .int .u64 s18.2.2].toArray 89 (0, 0))]] rfl ?_
      refine st_end ?_
      refine st_cond rfl (fun hc => ?_) (fun hc => ?_)
      · replace h := (if_pos hc).mp h
        refine st_seq ?_
        refine st_region ?_
        refine o_assign rfl rfl rfl rfl ?_
        refine st_end ?_
        refine st_ord [] [] rfl ?_
        obtain rfl := he18 _ h
        replace h := hA18
        obtain rfl := h
        exact st_ret (gs' := []) Try.func4 rfl (List.Sublist.refl _) ((((hl6.trans hl18).trans hl19).trans hl23).trans hl51) ⟨rfl, rfl⟩
      · replace h := (if_neg (ne_t hc)).mp h
        refine st_skip ?_
        refine st_seq ?_
        refine st_region ?_
        refine o_move rfl rfl rfl rfl ?_
        refine o_move rfl rfl rfl rfl ?_
        refine o_move rfl rfl rfl rfl ?_
        obtain ⟨q52, hf53, h⟩ := h
        refine o_index rfl rfl rfl z_slT34 rfl rfl (hs2.up ((((hl6.trans hl18).trans hl19).trans hl23).trans hl51)) rfl hf53 (fun b54 of55 vs hc56 hrep => ?_)
        obtain rfl := hrep
        refine o_loadI (v := .int .u32 q52) rfl rfl rfl z_sc22 rfl (hc56 0 _ rfl) ?_
        obtain ⟨r57, hr58, h⟩ := h
        refine st_ord [1, 0] [[(b7, .cells [.int .u32 s18.2.1, .int .u64 s18.2.2].toArray 89 (0, 0))], [(b24, .cells [.int .u32 r20.1, .int .u64 r20.2].toArray 25 (0, 0))]] rfl ?_
        refine st_call (foot := [[(b7, .cells [.int .u32 s18.2.1, .int .u64 s18.2.2].toArray 89 (0, 0))]]) rfl rfl rfl rfl rfl rfl (callV_fn z_en18 (window_Window_Mark_ok hr58 τ51)) ?_
        rintro vτ59 τ59 gsτ59 hl60 ⟨rfl, rfl⟩
        refine o_assign rfl rfl rfl rfl ?_
        refine st_end ?_
        refine st_seq ?_
        refine st_region ?_
        refine o_move rfl rfl rfl rfl ?_
        obtain ⟨r61, hr62, h⟩ := h
        refine st_call (foot := [[(b7, .cells [.int .u32 r57.2.1, .int .u64 r57.2.2].toArray 89 (0, 0))]]) rfl rfl rfl rfl rfl rfl (callV_fn z_en15 (ack_Of_ok hr62 τ59)) ?_
        rintro vτ63 τ63 gsτ63 hl64 ⟨rfl, rfl⟩
        refine o_alloc rfl rfl rfl z_zero25 (fun b65 => ?_)
        refine o_store (j := 0) (vs := [.int .u32 r61.1, .int .u64 r61.2]) (cs' := [.int .u32 r61.1, .int .u64 r61.2]) rfl rfl rfl z_size25 rfl rfl rfl (ones_cons rfl (ones_cons rfl ones_nil)) rfl rfl rfl ?_
        refine st_gs [[(b65, .cells [.int .u32 r61.1, .int .u64 r61.2].toArray 25 (0, 0))], [(b7, .cells [.int .u32 r57.2.1, .int .u64 r57.2.2].toArray 89 (0, 0))], [(b24, .cells [.int .u32 r20.1, .int .u64 r20.2].toArray 25 (0, 0))]] rfl ?_
        refine st_end ?_
        refine st_seq ?_
        obtain ⟨r66, hr67, h⟩ := h
        obtain ⟨q70, hf71, h⟩ := h
        obtain ⟨r75, hr76, h⟩ := h
        refine st_draw 14 (tl [fun τ v => v = .agg [.int .u32 r61.1, .int .u64 r61.2].toArray,
    fun τ v => v = .agg [.int .u32 r20.1, .int .u64 r20.2].toArray,
    fun τ v => v = .bool r66,
    fun τ v => v = .int .i64 r57.1,
    fun τ v => v = .bool (decide (r57.1 = 0)),
    fun τ v => v = .bool (!(decide (r66 = (decide (r57.1 = 0))))),
    fun τ v => v = .bool (!(decide (r66 = (decide (r57.1 = 0))))),
    fun τ v => (((!(decide (r66 = (decide (r57.1 = 0))))) = false) → v = .agg [.int .u32 r61.1, .int .u64 r61.2].toArray) ∧ (¬ ((!(decide (r66 = (decide (r57.1 = 0))))) = false) → v = undef),
    fun τ v => (((!(decide (r66 = (decide (r57.1 = 0))))) = false) → v = v1) ∧ (¬ ((!(decide (r66 = (decide (r57.1 = 0))))) = false) → v = undef),
    fun τ v => (((!(decide (r66 = (decide (r57.1 = 0))))) = false) → v = .int .i64 s18.1) ∧ (¬ ((!(decide (r66 = (decide (r57.1 = 0))))) = false) → v = undef),
    fun τ v => (((!(decide (r66 = (decide (r57.1 = 0))))) = false) → ∃ (b72 : Nat) (of73 : Nat) (vsb72 : List Value), v = .pointer (some ⟨b72, of73, none⟩) ∧ CelN τ ⟨b72, of73, none⟩ vsb72 ∧ (kI .u32).rep τ vsb72 q70) ∧ (¬ ((!(decide (r66 = (decide (r57.1 = 0))))) = false) → v = undef),
    fun τ v => (((!(decide (r66 = (decide (r57.1 = 0))))) = false) → v = .int .u32 q70) ∧ (¬ ((!(decide (r66 = (decide (r57.1 = 0))))) = false) → v = undef),
    fun τ v => (((!(decide (r66 = (decide (r57.1 = 0))))) = false) → v = .bool r75) ∧ (¬ ((!(decide (r66 = (decide (r57.1 = 0))))) = false) → v = undef),
    fun τ v => v = .bool ((!(decide (r66 = (decide (r57.1 = 0))))) || r75)]) (fun _ _ => []) z_mix rfl (tl_mono ⟨fun _ _ _ _ h => h, ⟨fun _ _ _ _ h => h, ⟨fun _ _ _ _ h => h, ⟨fun _ _ _ _ h => h, ⟨fun _ _ _ _ h => h, ⟨fun _ _ _ _ h => h, ⟨fun _ _ _ _ h => h, ⟨fun _ _ _ _ h => h, ⟨fun _ _ _ _ h => h, ⟨fun _ _ _ _ h => h, ⟨fun _ _ _ hl ⟨h1, h2⟩ => ⟨fun hC => let ⟨b72, of73, vsb72, hv, hc74, hrepb72⟩ := h1 hC; ⟨b72, of73, vsb72, hv, hc74.up hl, Kd.mono _ hl hrepb72⟩, h2⟩, ⟨fun _ _ _ _ h => h, ⟨fun _ _ _ _ h => h, ⟨fun _ _ _ _ h => h, trivial⟩⟩⟩⟩⟩⟩⟩⟩⟩⟩⟩⟩⟩⟩) (allB_cons (allB_cons (allB_cons (allB_cons (allB_cons (allB_cons (allB_cons (allB_cons (allB_cons (allB_cons (allB_cons (allB_cons (allB_cons (allB_cons allB_nil ?_) ?_) ?_) ?_) ?_) ?_) ?_) ?_) ?_) ?_) ?_) ?_) ?_) ?_) ?_
        · intro ρ' τ pool rs hl hd hout hk
          refine o_loadN (j := 0) (vs := [.int .u32 r61.1, .int .u64 r61.2]) rfl rfl rfl z_agg25 ((hout 11 rfl).trans rfl) rfl rfl ?_
          exact st_addNil (hk _ _ (Sto.Le.refl _) rfl)
        · intro ρ' τ pool rs hl hd hout hk
          refine o_loadN (j := 2) (vs := [.int .u32 r20.1, .int .u64 r20.2]) rfl rfl rfl z_agg25 ((hout 9 rfl).trans rfl) rfl rfl ?_
          exact st_addNil (hk _ _ (Sto.Le.refl _) rfl)
        · intro ρ' τ pool rs hl hd hout hk
          obtain ⟨_, e0, rfl⟩ := hd 0 rfl
          obtain ⟨_, e1, rfl⟩ := hd 1 rfl
          refine st_call (foot := []) rfl rfl rfl rfl (evs_cons e0 (evs_cons e1 rfl)) rfl (callV_fn z_en19 (ack_Newer_ok hr67 τ)) ?_
          rintro vτ68 τ68 gsτ68 hl69 ⟨rfl, rfl⟩
          exact st_addNil (hk _ _ hl69 rfl)
        · intro ρ' τ pool rs hl hd hout hk
          refine o_move rfl rfl rfl ((hout 10 rfl).trans rfl) ?_
          exact st_addNil (hk _ _ (Sto.Le.refl _) rfl)
        · intro ρ' τ pool rs hl hd hout hk
          obtain ⟨_, e3, rfl⟩ := hd 3 rfl
          refine o_ibin (v := .bool (decide (r57.1 = 0))) rfl rfl rfl e3 rfl rfl ?_
          exact st_addNil (hk _ _ (Sto.Le.refl _) rfl)
        · intro ρ' τ pool rs hl hd hout hk
          obtain ⟨_, e2, rfl⟩ := hd 2 rfl
          obtain ⟨_, e4, rfl⟩ := hd 4 rfl
          refine o_beq (e := (!(decide (r66 = (decide (r57.1 = 0)))))) rfl rfl rfl Try.underlying4 e2 e4 rfl ?_
          exact st_addNil (hk _ _ (Sto.Le.refl _) rfl)
        · intro ρ' τ pool rs hl hd hout hk
          obtain ⟨_, e5, rfl⟩ := hd 5 rfl
          refine o_move rfl rfl rfl e5 ?_
          exact st_addNil (hk _ _ (Sto.Le.refl _) rfl)
        · intro ρ' τ pool rs hl hd hout hk
          obtain ⟨_, e6, rfl⟩ := hd 6 rfl
          by_cases hG : (!(decide (r66 = (decide (r57.1 = 0))))) = false
          · have hC := hG
            refine o_loadN (j := 0) (vs := [.int .u32 r61.1, .int .u64 r61.2]) rfl (wants_of rfl e6 hG) rfl z_agg25 ((hout 11 rfl).trans rfl) rfl rfl ?_
            exact st_addNil (hk _ _ (Sto.Le.refl _) ⟨fun _ => rfl, fun hn => absurd hC hn⟩)
          · refine st_pass rfl rfl rfl e6 (beq_off hG) rfl ?_
            exact st_addNil (hk _ _ (Sto.Le.refl _) ⟨fun h => absurd h hG, fun _ => rfl⟩)
        · intro ρ' τ pool rs hl hd hout hk
          obtain ⟨_, e6, rfl⟩ := hd 6 rfl
          by_cases hG : (!(decide (r66 = (decide (r57.1 = 0))))) = false
          · have hC := hG
            refine o_move rfl (wants_of rfl e6 hG) rfl ((hout 1 rfl).trans rfl) ?_
            exact st_addNil (hk _ _ (Sto.Le.refl _) ⟨fun _ => rfl, fun hn => absurd hC hn⟩)
          · refine st_pass rfl rfl rfl e6 (beq_off hG) rfl ?_
            exact st_addNil (hk _ _ (Sto.Le.refl _) ⟨fun h => absurd h hG, fun _ => rfl⟩)
        · intro ρ' τ pool rs hl hd hout hk
          obtain ⟨_, e6, rfl⟩ := hd 6 rfl
          by_cases hG : (!(decide (r66 = (decide (r57.1 = 0))))) = false
          · have hC := hG
            refine o_move rfl (wants_of rfl e6 hG) rfl ((hout 8 rfl).trans rfl) ?_
            exact st_addNil (hk _ _ (Sto.Le.refl _) ⟨fun _ => rfl, fun hn => absurd hC hn⟩)
          · refine st_pass rfl rfl rfl e6 (beq_off hG) rfl ?_
            exact st_addNil (hk _ _ (Sto.Le.refl _) ⟨fun h => absurd h hG, fun _ => rfl⟩)
        · intro ρ' τ pool rs hl hd hout hk
          obtain ⟨_, e6, rfl⟩ := hd 6 rfl
          obtain ⟨w8, e8, t8⟩ := hd 8 rfl
          obtain ⟨w9, e9, t9⟩ := hd 9 rfl
          by_cases hG : (!(decide (r66 = (decide (r57.1 = 0))))) = false
          · have hC := hG
            replace hf71 := hf71 hC
            obtain ⟨rfl⟩ := t8.1 hC
            obtain ⟨rfl⟩ := t9.1 hC
            refine o_index rfl (wants_of rfl e6 hG) rfl z_slT34 rfl e8 (hs2.up (((((((hl6.trans hl18).trans hl19).trans hl23).trans hl51).trans hl60).trans hl64).trans hl)) e9 hf71 (fun b72 of73 vsb72 hc74 hrepb72 => ?_)
            exact st_addNil (hk _ _ (Sto.Le.refl _) ⟨fun _ => ⟨b72, of73, vsb72, rfl, hc74, hrepb72⟩, fun hn => absurd hC hn⟩)
          · refine st_pass rfl rfl rfl e6 (beq_off hG) rfl ?_
            exact st_addNil (hk _ _ (Sto.Le.refl _) ⟨fun h => absurd h hG, fun _ => rfl⟩)
        · intro ρ' τ pool rs hl hd hout hk
          obtain ⟨_, e6, rfl⟩ := hd 6 rfl
          obtain ⟨w10, e10, t10⟩ := hd 10 rfl
          by_cases hG : (!(decide (r66 = (decide (r57.1 = 0))))) = false
          · have hC := hG
            obtain ⟨b72, of73, vsb72, rfl, hc74, hrepb72⟩ := t10.1 hC
            obtain rfl := hrepb72
            refine o_loadI (v := .int .u32 q70) rfl (wants_of rfl e6 hG) rfl z_sc22 e10 (hc74 0 _ rfl) ?_
            exact st_addNil (hk _ _ (Sto.Le.refl _) ⟨fun _ => rfl, fun hn => absurd hC hn⟩)
          · refine st_pass rfl rfl rfl e6 (beq_off hG) rfl ?_
            exact st_addNil (hk _ _ (Sto.Le.refl _) ⟨fun h => absurd h hG, fun _ => rfl⟩)
        · intro ρ' τ pool rs hl hd hout hk
          obtain ⟨_, e6, rfl⟩ := hd 6 rfl
          obtain ⟨w7, e7, t7⟩ := hd 7 rfl
          obtain ⟨w11, e11, t11⟩ := hd 11 rfl
          by_cases hG : (!(decide (r66 = (decide (r57.1 = 0))))) = false
          · have hC := hG
            replace hr76 := hr76 hC
            obtain ⟨rfl⟩ := t7.1 hC
            obtain ⟨rfl⟩ := t11.1 hC
            refine st_call (foot := []) rfl (wants_of rfl e6 hG) rfl rfl (evs_cons e7 (evs_cons e11 rfl)) rfl (callV_fn z_en16 (ack_Lacks_ok hr76 τ)) ?_
            rintro vτ77 τ77 gsτ77 hl78 ⟨rfl, rfl⟩
            exact st_addNil (hk _ _ hl78 ⟨fun _ => rfl, fun hn => absurd hC hn⟩)
          · refine st_pass rfl rfl rfl e6 (beq_off hG) rfl ?_
            exact st_addNil (hk _ _ (Sto.Le.refl _) ⟨fun h => absurd h hG, fun _ => rfl⟩)
        · intro ρ' τ pool rs hl hd hout hk
          obtain ⟨_, e6, rfl⟩ := hd 6 rfl
          obtain ⟨w12, e12, t12⟩ := hd 12 rfl
          refine o_pickOr rfl rfl rfl e6 rfl (fun hp => e12.trans (congrArg some (t12.1 hp))) ?_
          exact st_addNil (hk _ _ (Sto.Le.refl _) rfl)
        intro ρ' τ79 vals hl79 hv hout
        have l13 : Eng.look ρ' 73 = some (.bool ((!(decide (r66 = (decide (r57.1 = 0))))) || r75)) := (hv 13 (by decide)).1.trans (congrArg some (show vals 13 = .bool ((!(decide (r66 = (decide (r57.1 = 0))))) || r75) from (hv 13 (by decide)).2))
        refine st_env (ρ' := [(73, .bool ((!(decide (r66 = (decide (r57.1 = 0))))) || r75)), (1, v1), (2, .int .u32 a2), (6, .bool false), (7, .pointer (some ⟨b7, 0, none⟩)), (8, .int .i64 s18.1)]) ⟨l13, (hout 1 rfl).trans rfl, (hout 2 rfl).trans rfl, (hout 6 rfl).trans rfl, (hout 7 rfl).trans rfl, (hout 8 rfl).trans rfl, trivial⟩ ?_
        refine st_ord [0, 0, 0] [[(b65, .cells [.int .u32 r61.1, .int .u64 r61.2].toArray 25 (0, 0))], [(b7, .cells [.int .u32 r57.2.1, .int .u64 r57.2.2].toArray 89 (0, 0))], [(b24, .cells [.int .u32 r20.1, .int .u64 r20.2].toArray 25 (0, 0))]] rfl ?_
        refine st_end ?_
        refine st_cond rfl (fun hc => ?_) (fun hc => ?_)
        · replace h := (if_pos hc).mp h
          refine st_seq ?_
          refine st_region ?_
          refine o_assign rfl rfl rfl rfl ?_
          refine st_end ?_
          refine st_ord [] [] rfl ?_
          obtain rfl := he18 _ h
          replace h := hA18
          obtain rfl := h
          exact st_ret (gs' := []) Try.func4 rfl (List.Sublist.refl _) (((((((hl6.trans hl18).trans hl19).trans hl23).trans hl51).trans hl60).trans hl64).trans hl79) ⟨rfl, rfl⟩
        · replace h := (if_neg (ne_t hc)).mp h
          refine st_skip ?_
          refine st_inBlock ?_
          refine st_region ?_
          refine o_move rfl rfl rfl rfl ?_
          refine o_ibin (v := .int .i64 (IntKind.i64.wrap (s18.1 + 1))) rfl rfl rfl rfl rfl rfl ?_
          refine o_assign rfl rfl rfl rfl ?_
          refine st_end ?_
          refine st_env (ρ' := [(1, v1), (2, .int .u32 a2), (6, .bool false), (7, .pointer (some ⟨b7, 0, none⟩)), (8, .int .i64 (IntKind.i64.wrap (s18.1 + 1)))]) ⟨rfl, rfl, rfl, rfl, rfl, trivial⟩ ?_
          refine st_ord [1] [[(b7, .cells [.int .u32 r57.2.1, .int .u64 r57.2.2].toArray 89 (0, 0))]] rfl ?_
          exact hn18 _ _ _ _ h ⟨((((((hl18.trans hl19).trans hl23).trans hl51).trans hl60).trans hl64).trans hl79), rfl, rfl⟩
    · replace h := (if_neg (ne_t hc)).mp h
      refine st_exit rfl ?_
      obtain rfl := he18 _ h
      replace h := hA18
      refine st_env (ρ' := [(6, .bool false)]) ⟨rfl, trivial⟩ ?_
      refine st_ord [] [] rfl ?_
      exact hk8 _ _ _ ⟨(), h, (hl18.trans hl19), rfl, rfl⟩
  refine st_region ?_
  refine o_move rfl rfl rfl rfl ?_
  refine o_move rfl rfl rfl rfl ?_
  refine o_lenI rfl rfl rfl z_slT34 rfl (hs2.up (hl6.trans hl18)) ?_
  refine o_ibin (v := .bool (decide (s18.1 < (a1.length : Int)))) rfl rfl rfl rfl rfl rfl ?_
  refine o_moveB rfl rfl rfl rfl (fun hc => ?_) (fun hc => ?_)
  · replace h := (if_pos hc).mp h
    refine o_move rfl rfl rfl rfl ?_
    refine o_ibin (v := .bool (decide (s18.1 < 100))) rfl rfl rfl rfl rfl rfl ?_
    refine o_pick rfl rfl rfl rfl rfl ?_
    refine st_end ?_
    refine st_env (ρ' := [(1, v1), (2, .int .u32 a2), (6, .bool false), (7, .pointer (some ⟨b7, 0, none⟩)), (8, .int .i64 s18.1), (23, .bool (decide (s18.1 < 100)))]) ⟨rfl, rfl, rfl, rfl, rfl, rfl, trivial⟩ ?_
    exact hk19 _ _ _ ⟨(decide (s18.1 < 100)), h, (Sto.Le.refl _), rfl, rfl⟩
  · replace h := (if_neg (ne_t hc)).mp h
    refine st_pass rfl rfl rfl rfl rfl rfl ?_
    refine st_pass rfl rfl rfl rfl rfl rfl ?_
    refine o_pick rfl rfl rfl rfl rfl ?_
    refine st_end ?_
    refine st_env (ρ' := [(1, v1), (2, .int .u32 a2), (6, .bool false), (7, .pointer (some ⟨b7, 0, none⟩)), (8, .int .i64 s18.1), (23, .bool false)]) ⟨rfl, rfl, rfl, rfl, rfl, rfl, trivial⟩ ?_
    exact hk19 _ _ _ ⟨false, h, (Sto.Le.refl _), rfl, rfl⟩
end Go.Rel
