import Derived.Test.YtlamkclnkbnedaaDoorURel
import Derived.Test.YtlamkclnkbnedaaDoorUFacts
/-! The walks. -/
set_option linter.unusedVariables false
set_option linter.unusedSimpArgs false
set_option maxRecDepth 4000
namespace Go.Rel
open Go Go.Eng Go.Proofs
theorem internal_strconv_small_ok {a0 : Int} {r : ByteArray} (h : internal_strconv_small a0 r) (σ : Sto)  :
    Does Tryd.prog 94 [.int .i64 a0] σ [] (fun v τ gs => gs = [] ∧ .string r = v) := by
  refine call_of Tryd.func94 Tryd.ntmps94 rfl rfl (fun cs fs => ?_)
  refine st_seq ?_
  refine st_region ?_
  refine o_assign rfl rfl rfl (ev_str z_str0) ?_
  refine st_end ?_
  refine st_seq ?_
  refine st_seq ?_
  refine st_region ?_
  refine o_move rfl rfl rfl rfl ?_
  refine o_ibin (v := .bool (decide (a0 < 10))) rfl rfl rfl rfl rfl rfl ?_
  refine st_end ?_
  refine st_cond rfl (fun hc => ?_) (fun hc => ?_)
  · replace h := (if_pos hc).mp h
    refine st_seq ?_
    refine st_region ?_
    refine o_move rfl rfl rfl rfl ?_
    refine o_move rfl rfl rfl rfl ?_
    refine o_ibin (v := .int .i64 (IntKind.i64.wrap (a0 + 1))) rfl rfl rfl rfl rfl rfl ?_
    obtain ⟨hf1, h⟩ := h
    obtain ⟨hf2, h⟩ := h
    obtain ⟨hf3, h⟩ := h
    refine o_sliceS rfl rfl rfl Tryd.underlying9 (ev_str z_str1) rfl rfl hf1 hf2 hf3 ?_
    refine o_assign rfl rfl rfl rfl ?_
    refine st_end ?_
    obtain rfl := Eq.symm h
    exact st_ret (gs' := []) Tryd.func94 rfl (List.Sublist.refl _) (Sto.Le.refl _) ⟨rfl, rfl⟩
  · replace h := (if_neg (ne_t hc)).mp h
    refine st_skip ?_
    refine st_seq ?_
    refine st_region ?_
    refine o_move rfl rfl rfl rfl ?_
    refine o_ibin (v := .int .i64 (IntKind.i64.wrap (a0 * 2))) rfl rfl rfl rfl rfl rfl ?_
    refine o_move rfl rfl rfl rfl ?_
    refine o_ibin (v := .int .i64 (IntKind.i64.wrap (a0 * 2))) rfl rfl rfl rfl rfl rfl ?_
    refine o_ibin (v := .int .i64 (IntKind.i64.wrap ((IntKind.i64.wrap (a0 * 2)) + 2))) rfl rfl rfl rfl rfl rfl ?_
    obtain ⟨hf4, h⟩ := h
    obtain ⟨hf5, h⟩ := h
    obtain ⟨hf6, h⟩ := h
    refine o_sliceS rfl rfl rfl Tryd.underlying9 (ev_str z_str2) rfl rfl hf4 hf5 hf6 ?_
    refine o_assign rfl rfl rfl rfl ?_
    refine st_end ?_
    obtain rfl := Eq.symm h
    exact st_ret (gs' := []) Tryd.func94 rfl (List.Sublist.refl _) (Sto.Le.refl _) ⟨rfl, rfl⟩
theorem math_bits_Len64_ok {a0 : Int} {r : Int} (h : math_bits_Len64 a0 r) (σ : Sto)  :
    Does Tryd.prog 104 [.int .u64 a0] σ [] (fun v τ gs => gs = [] ∧ .int .i64 r = v) := by
  refine call_of Tryd.func104 Tryd.ntmps104 rfl rfl (fun cs fs => ?_)
  refine st_seq ?_
  refine st_region ?_
  refine o_assign rfl rfl rfl rfl ?_
  refine st_end ?_
  refine st_seq ?_
  refine st_cut (fun ρ τ1 gs => ∃ (s1 : Int × Int), math_bits_Len64_j1 s1 r ∧ σ.Le τ1 ∧ ρ = [(0, .int .u64 s1.1), (2, .int .i64 s1.2)] ∧ gs = []) ?_ (fun hk1 => ?_)
  · rintro ρ1 τ1 gs1 ⟨s1, h, hl1, rfl, rfl⟩
    refine st_seq ?_
    refine st_cut (fun ρ τ2 gs => ∃ (s2 : Int × Int), math_bits_Len64_j2 s2 r ∧ τ1.Le τ2 ∧ ρ = [(0, .int .u64 s2.1), (2, .int .i64 s2.2)] ∧ gs = []) ?_ (fun hk2 => ?_)
    · rintro ρ2 τ2 gs2 ⟨s2, h, hl2, rfl, rfl⟩
      refine st_seq ?_
      refine st_cut (fun ρ τ3 gs => ∃ (s3 : Int × Int), math_bits_Len64_j3 s3 r ∧ τ2.Le τ3 ∧ ρ = [(0, .int .u64 s3.1), (2, .int .i64 s3.2)] ∧ gs = []) ?_ (fun hk3 => ?_)
      · rintro ρ3 τ3 gs3 ⟨s3, h, hl3, rfl, rfl⟩
        refine st_seq ?_
        refine st_region ?_
        refine o_move rfl rfl rfl rfl ?_
        refine o_move rfl rfl rfl rfl ?_
        refine o_conv rfl rfl rfl Tryd.underlying48 Tryd.underlying5 rfl ?_
        obtain ⟨q4, hf5, h⟩ := h
        refine o_indexS rfl rfl rfl Tryd.underlying9 (ev_str z_str3) rfl hf5 ?_
        refine o_conv rfl rfl rfl Tryd.underlying5 Tryd.underlying3 rfl ?_
        refine o_ibin (v := .int .i64 (IntKind.i64.wrap (s3.2 + (IntKind.i64.wrap q4)))) rfl rfl rfl rfl rfl rfl ?_
        refine o_assign rfl rfl rfl rfl ?_
        refine st_end ?_
        obtain rfl := Eq.symm h
        exact st_ret (gs' := []) Tryd.func104 rfl (List.Sublist.refl _) ((hl1.trans hl2).trans hl3) ⟨rfl, rfl⟩
      refine st_seq ?_
      refine st_region ?_
      refine o_move rfl rfl rfl rfl ?_
      refine o_ibin (v := .bool (decide (256 ≤ s2.1))) rfl rfl rfl rfl rfl rfl ?_
      refine st_end ?_
      refine st_cond rfl (fun hc => ?_) (fun hc => ?_)
      · replace h := (if_pos hc).mp h
        refine st_seq ?_
        refine st_region ?_
        refine o_move rfl rfl rfl rfl ?_
        refine o_shr rfl rfl rfl rfl rfl (by decide) ?_
        refine o_assign rfl rfl rfl rfl ?_
        refine st_end ?_
        refine st_region ?_
        refine o_move rfl rfl rfl rfl ?_
        refine o_ibin (v := .int .i64 (IntKind.i64.wrap (s2.2 + 8))) rfl rfl rfl rfl rfl rfl ?_
        refine o_assign rfl rfl rfl rfl ?_
        refine st_end ?_
        refine st_env (ρ' := [(0, .int .u64 (ishr .u64 s2.1 8)), (2, .int .i64 (IntKind.i64.wrap (s2.2 + 8)))]) ⟨rfl, rfl, trivial⟩ ?_
        exact hk3 _ _ _ ⟨((ishr .u64 s2.1 8), (IntKind.i64.wrap (s2.2 + 8))), h, (Sto.Le.refl _), rfl, rfl⟩
      · replace h := (if_neg (ne_t hc)).mp h
        refine st_skip ?_
        refine st_env (ρ' := [(0, .int .u64 s2.1), (2, .int .i64 s2.2)]) ⟨rfl, rfl, trivial⟩ ?_
        exact hk3 _ _ _ ⟨(s2.1, s2.2), h, (Sto.Le.refl _), rfl, rfl⟩
    refine st_seq ?_
    refine st_region ?_
    refine o_move rfl rfl rfl rfl ?_
    refine o_ibin (v := .bool (decide (65536 ≤ s1.1))) rfl rfl rfl rfl rfl rfl ?_
    refine st_end ?_
    refine st_cond rfl (fun hc => ?_) (fun hc => ?_)
    · replace h := (if_pos hc).mp h
      refine st_seq ?_
      refine st_region ?_
      refine o_move rfl rfl rfl rfl ?_
      refine o_shr rfl rfl rfl rfl rfl (by decide) ?_
      refine o_assign rfl rfl rfl rfl ?_
      refine st_end ?_
      refine st_region ?_
      refine o_move rfl rfl rfl rfl ?_
      refine o_ibin (v := .int .i64 (IntKind.i64.wrap (s1.2 + 16))) rfl rfl rfl rfl rfl rfl ?_
      refine o_assign rfl rfl rfl rfl ?_
      refine st_end ?_
      refine st_env (ρ' := [(0, .int .u64 (ishr .u64 s1.1 16)), (2, .int .i64 (IntKind.i64.wrap (s1.2 + 16)))]) ⟨rfl, rfl, trivial⟩ ?_
      exact hk2 _ _ _ ⟨((ishr .u64 s1.1 16), (IntKind.i64.wrap (s1.2 + 16))), h, (Sto.Le.refl _), rfl, rfl⟩
    · replace h := (if_neg (ne_t hc)).mp h
      refine st_skip ?_
      refine st_env (ρ' := [(0, .int .u64 s1.1), (2, .int .i64 s1.2)]) ⟨rfl, rfl, trivial⟩ ?_
      exact hk2 _ _ _ ⟨(s1.1, s1.2), h, (Sto.Le.refl _), rfl, rfl⟩
  refine st_seq ?_
  refine st_region ?_
  refine o_move rfl rfl rfl rfl ?_
  refine o_ibin (v := .bool (decide (4294967296 ≤ a0))) rfl rfl rfl rfl rfl rfl ?_
  refine st_end ?_
  refine st_cond rfl (fun hc => ?_) (fun hc => ?_)
  · replace h := (if_pos hc).mp h
    refine st_seq ?_
    refine st_region ?_
    refine o_move rfl rfl rfl rfl ?_
    refine o_shr rfl rfl rfl rfl rfl (by decide) ?_
    refine o_assign rfl rfl rfl rfl ?_
    refine st_end ?_
    refine st_region ?_
    refine o_assign rfl rfl rfl rfl ?_
    refine st_end ?_
    refine st_env (ρ' := [(0, .int .u64 (ishr .u64 a0 32)), (2, .int .i64 32)]) ⟨rfl, rfl, trivial⟩ ?_
    exact hk1 _ _ _ ⟨((ishr .u64 a0 32), 32), h, (Sto.Le.refl _), rfl, rfl⟩
  · replace h := (if_neg (ne_t hc)).mp h
    refine st_skip ?_
    refine st_env (ρ' := [(0, .int .u64 a0), (2, .int .i64 0)]) ⟨rfl, rfl, trivial⟩ ?_
    exact hk1 _ _ _ ⟨(a0, 0), h, (Sto.Le.refl _), rfl, rfl⟩
theorem internal_strconv_log10Pow2_ok {a0 : Int} {r : Int} (h : internal_strconv_log10Pow2 a0 r) (σ : Sto)  :
    Does Tryd.prog 103 [.int .i64 a0] σ [] (fun v τ gs => gs = [] ∧ .int .i64 r = v) := by
  refine call_of Tryd.func103 Tryd.ntmps103 rfl rfl (fun cs fs => ?_)
  refine st_seq ?_
  refine st_region ?_
  refine o_assign rfl rfl rfl rfl ?_
  refine st_end ?_
  refine st_seq ?_
  refine st_region ?_
  refine o_move rfl rfl rfl rfl ?_
  refine o_ibin (v := .int .i64 (IntKind.i64.wrap (a0 * 78913))) rfl rfl rfl rfl rfl rfl ?_
  refine o_shr rfl rfl rfl rfl rfl (by decide) ?_
  refine o_assign rfl rfl rfl rfl ?_
  refine st_end ?_
  obtain rfl := Eq.symm h
  exact st_ret (gs' := []) Tryd.func103 rfl (List.Sublist.refl _) (Sto.Le.refl _) ⟨rfl, rfl⟩
theorem internal_strconv_numDigits_ok {a0 : Int} {r : Int} (h : internal_strconv_numDigits a0 r) (σ : Sto)  :
    Does Tryd.prog 95 [.int .u64 a0] σ [] (fun v τ gs => gs = [] ∧ .int .i64 r = v) := by
  refine call_of Tryd.func95 Tryd.ntmps95 rfl rfl (fun cs fs => ?_)
  refine st_seq ?_
  refine st_region ?_
  refine o_assign rfl rfl rfl rfl ?_
  refine st_end ?_
  refine st_seq ?_
  refine st_region ?_
  refine o_move rfl rfl rfl rfl ?_
  obtain ⟨r1, hr2, h⟩ := h
  refine st_call (foot := []) rfl rfl rfl rfl rfl rfl (callV_fn z_en104 (math_bits_Len64_ok hr2 σ)) ?_
  rintro vτ3 τ3 gsτ3 hl4 ⟨rfl, rfl⟩
  obtain ⟨r5, hr6, h⟩ := h
  refine st_call (foot := []) rfl rfl rfl rfl rfl rfl (callV_fn z_en103 (internal_strconv_log10Pow2_ok hr6 τ3)) ?_
  rintro vτ7 τ7 gsτ7 hl8 ⟨rfl, rfl⟩
  refine o_assign rfl rfl rfl rfl ?_
  refine st_end ?_
  refine st_seq ?_
  refine st_region ?_
  refine o_move rfl rfl rfl rfl ?_
  refine o_move rfl rfl rfl rfl ?_
  refine o_move rfl rfl rfl rfl ?_
  exact h.elim
theorem internal_strconv_isPowerOfTwo_ok {a0 : Int} {r : Bool} (h : internal_strconv_isPowerOfTwo a0 r) (σ : Sto)  :
    Does Tryd.prog 106 [.int .i64 a0] σ [] (fun v τ gs => gs = [] ∧ .bool r = v) := by
  refine call_of Tryd.func106 Tryd.ntmps106 rfl rfl (fun cs fs => ?_)
  refine st_seq ?_
  refine st_region ?_
  refine o_assign rfl rfl rfl rfl ?_
  refine st_end ?_
  refine st_seq ?_
  refine st_region ?_
  refine o_move rfl rfl rfl rfl ?_
  refine o_move rfl rfl rfl rfl ?_
  refine o_ibin (v := .int .i64 (IntKind.i64.wrap (a0 - 1))) rfl rfl rfl rfl rfl rfl ?_
  refine o_ibin (v := .int .i64 (iand .i64 a0 (IntKind.i64.wrap (a0 - 1)))) rfl rfl rfl rfl rfl rfl ?_
  refine o_ibin (v := .bool (decide ((iand .i64 a0 (IntKind.i64.wrap (a0 - 1))) = 0))) rfl rfl rfl rfl rfl rfl ?_
  refine o_assign rfl rfl rfl rfl ?_
  refine st_end ?_
  obtain rfl := Eq.symm h
  exact st_ret (gs' := []) Tryd.func106 rfl (List.Sublist.refl _) (Sto.Le.refl _) ⟨rfl, rfl⟩
theorem math_bits_TrailingZeros64_ok {a0 : Int} {r : Int} (h : math_bits_TrailingZeros64 a0 r) (σ : Sto)  :
    Does Tryd.prog 109 [.int .u64 a0] σ [] (fun v τ gs => gs = [] ∧ .int .i64 r = v) := by
  refine call_of Tryd.func109 Tryd.ntmps109 rfl rfl (fun cs fs => ?_)
  refine st_seq ?_
  refine st_region ?_
  refine o_assign rfl rfl rfl rfl ?_
  refine st_end ?_
  refine st_seq ?_
  refine st_seq ?_
  refine st_region ?_
  refine o_move rfl rfl rfl rfl ?_
  refine o_ibin (v := .bool (decide (a0 = 0))) rfl rfl rfl rfl rfl rfl ?_
  refine st_end ?_
  refine st_cond rfl (fun hc => ?_) (fun hc => ?_)
  · replace h := (if_pos hc).mp h
    refine st_seq ?_
    refine st_region ?_
    refine o_assign rfl rfl rfl rfl ?_
    refine st_end ?_
    obtain rfl := Eq.symm h
    exact st_ret (gs' := []) Tryd.func109 rfl (List.Sublist.refl _) (Sto.Le.refl _) ⟨rfl, rfl⟩
  · replace h := (if_neg (ne_t hc)).mp h
    refine st_skip ?_
    refine st_seq ?_
    refine st_region ?_
    refine o_move rfl rfl rfl rfl ?_
    refine o_move rfl rfl rfl rfl ?_
    refine o_neg rfl rfl rfl rfl ?_
    refine o_ibin (v := .int .u64 (iand .u64 a0 (IntKind.u64.wrap (0 - a0)))) rfl rfl rfl rfl rfl rfl ?_
    refine o_ibin (v := .int .u64 (IntKind.u64.wrap ((iand .u64 a0 (IntKind.u64.wrap (0 - a0))) * 285870213051353865))) rfl rfl rfl rfl rfl rfl ?_
    refine o_shr rfl rfl rfl rfl rfl (by decide) ?_
    exact h.elim
theorem math_bits_TrailingZeros_ok {a0 : Int} {r : Int} (h : math_bits_TrailingZeros a0 r) (σ : Sto)  :
    Does Tryd.prog 107 [.int .u64 a0] σ [] (fun v τ gs => gs = [] ∧ .int .i64 r = v) := by
  refine call_of Tryd.func107 Tryd.ntmps107 rfl rfl (fun cs fs => ?_)
  refine st_seq ?_
  refine st_region ?_
  refine o_assign rfl rfl rfl rfl ?_
  refine st_end ?_
  refine st_seq ?_
  refine st_condF rfl ?_
  refine st_skip ?_
  refine st_seq ?_
  refine st_region ?_
  refine o_move rfl rfl rfl rfl ?_
  obtain ⟨r1, hr2, h⟩ := h
  refine st_call (foot := []) rfl rfl rfl rfl rfl rfl (callV_fn z_en109 (math_bits_TrailingZeros64_ok hr2 σ)) ?_
  rintro vτ3 τ3 gsτ3 hl4 ⟨rfl, rfl⟩
  refine o_assign rfl rfl rfl rfl ?_
  refine st_end ?_
  obtain rfl := Eq.symm h
  exact st_ret (gs' := []) Tryd.func107 rfl (List.Sublist.refl _) hl4 ⟨rfl, rfl⟩
theorem internal_strconv_formatBits_ok {a0 : List Int} {a1 : Int} {a2 : Int} {a3 : Bool} {a4 : Bool} {v1 : Value} {r : List Int × ByteArray} (h : internal_strconv_formatBits a0 a1 a2 a3 a4 r) (σ : Sto) (hs2 : Sl (kI .u8) σ v1 a0) :
    Does Tryd.prog 97 [v1, .int .u64 a1, .int .i64 a2, .bool a3, .bool a4] σ [] (fun v τ gs => ∃ (v48 : Value), gs = [] ∧ .tuple [v48, .string r.2].toArray = v ∧ Sl (kI .u8) τ v48 r.1 ∧ Full v48) := by
  refine call_of Tryd.func97 Tryd.ntmps97 rfl rfl (fun cs fs => ?_)
  refine st_seq ?_
  refine st_region ?_
  refine o_assign rfl rfl rfl rfl ?_
  refine o_assign rfl rfl rfl (ev_str z_str0) ?_
  refine st_end ?_
  refine st_seq ?_
  refine st_seq ?_
  refine st_cut (fun ρ τ3 gs => ∃ (s3 : Bool), internal_strconv_formatBits_j1 a1 a2 a3 a4 s3 r ∧ σ.Le τ3 ∧ ρ = [(0, v1), (1, .int .u64 a1), (2, .int .i64 a2), (3, .bool a3), (4, .bool a4), (10, .slice none 0 0), (11, .string (bstr [])), (28, .bool s3)] ∧ gs = []) ?_ (fun hk3 => ?_)
  · rintro ρ3 τ3 gs3 ⟨s3, h, hl3, rfl, rfl⟩
    refine st_cond rfl (fun hc => ?_) (fun hc => ?_)
    · replace h := (if_pos hc).mp h
      refine st_region ?_
      exact h.elim
    · replace h := (if_neg (ne_t hc)).mp h
      refine st_skip ?_
      refine st_seq ?_
      refine st_region ?_
      refine o_alloc rfl rfl rfl z_zero159 (fun b4 => ?_)
      refine st_end ?_
      refine st_seq ?_
      refine st_region ?_
      refine o_assign rfl rfl rfl rfl ?_
      refine st_end ?_
      refine st_seq ?_
      refine st_cut (fun ρ τ5 gs => ∃ (s5 : Int), internal_strconv_formatBits_j2 a2 a3 a4 s5 r ∧ τ3.Le τ5 ∧ ρ = [(0, v1), (1, .int .u64 s5), (2, .int .i64 a2), (3, .bool a3), (4, .bool a4), (10, .slice none 0 0), (11, .string (bstr [])), (12, .pointer (some ⟨b4, 0, none⟩)), (13, .int .i64 65)] ∧ gs = [[(b4, .cells (cellsN (Value.int .u8) 0 65 (List.replicate 65 0)).toArray 159 (0, 0))]]) ?_ (fun hk5 => ?_)
      · rintro ρ5 τ5 gs5 ⟨s5, h, hl5, rfl, rfl⟩
        refine st_seq ?_
        refine st_cut (fun ρ τ6 gs => ∃ (s6 : Int × List Int), internal_strconv_formatBits_j3 a3 a4 s6 r ∧ τ5.Le τ6 ∧ ρ = [(0, v1), (3, .bool a3), (4, .bool a4), (10, .slice none 0 0), (11, .string (bstr [])), (12, .pointer (some ⟨b4, 0, none⟩)), (13, .int .i64 s6.1)] ∧ gs = [[(b4, .cells (cellsN (Value.int .u8) 0 65 s6.2).toArray 159 (0, 0))]]) ?_ (fun hk6 => ?_)
        · rintro ρ6 τ6 gs6 ⟨s6, h, hl6, rfl, rfl⟩
          refine st_seq ?_
          refine st_cut (fun ρ τ7 gs => ∃ (s7 : Int × List Int), internal_strconv_formatBits_j4 a4 s7 r ∧ τ6.Le τ7 ∧ ρ = [(0, v1), (4, .bool a4), (10, .slice none 0 0), (11, .string (bstr [])), (12, .pointer (some ⟨b4, 0, none⟩)), (13, .int .i64 s7.1)] ∧ gs = [[(b4, .cells (cellsN (Value.int .u8) 0 65 s7.2).toArray 159 (0, 0))]]) ?_ (fun hk7 => ?_)
          · rintro ρ7 τ7 gs7 ⟨s7, h, hl7, rfl, rfl⟩
            refine st_seq ?_
            refine st_seq ?_
            refine st_region ?_
            refine o_move rfl rfl rfl rfl ?_
            refine st_end ?_
            refine st_cond rfl (fun hc => ?_) (fun hc => ?_)
            · replace h := (if_pos hc).mp h
              refine st_seq ?_
              refine st_region ?_
              refine o_move rfl rfl rfl rfl ?_
              refine o_move rfl rfl rfl rfl ?_
              exact h.elim
            · replace h := (if_neg (ne_t hc)).mp h
              refine st_skip ?_
              refine st_seq ?_
              refine st_region ?_
              refine o_move rfl rfl rfl rfl ?_
              exact h.elim
          refine st_seq ?_
          refine st_region ?_
          refine o_move rfl rfl rfl rfl ?_
          refine st_end ?_
          refine st_cond rfl (fun hc => ?_) (fun hc => ?_)
          · replace h := (if_pos hc).mp h
            refine st_seq ?_
            refine st_region ?_
            refine o_move rfl rfl rfl rfl ?_
            refine o_ibin (v := .int .i64 (IntKind.i64.wrap (s6.1 - 1))) rfl rfl rfl rfl rfl rfl ?_
            refine o_assign rfl rfl rfl rfl ?_
            refine st_end ?_
            refine st_region ?_
            refine o_move rfl rfl rfl rfl ?_
            obtain ⟨hf14, h⟩ := h
            obtain ⟨hf15, h⟩ := h
            refine o_indexA rfl rfl rfl z_arr159 rfl rfl hf14 hf15 ?_
            refine o_storeB (j := 0) (q := (IntKind.i64.wrap (s6.1 - 1)).toNat) (f := (Value.int .u8)) (zz := 0) (a := 45) (l := 65) (xs := s6.2) rfl rfl rfl z_size5 rfl rfl rfl rfl rfl (by omega) (by omega) ?_
            refine st_gs [[(b4, .cells (cellsN (Value.int .u8) 0 65 (putN 65 0 s6.2 ((IntKind.i64.wrap (s6.1 - 1)).toNat) 45)).toArray 159 (0, 0))]] rfl ?_
            refine st_end ?_
            refine st_env (ρ' := [(0, v1), (4, .bool a4), (10, .slice none 0 0), (11, .string (bstr [])), (12, .pointer (some ⟨b4, 0, none⟩)), (13, .int .i64 (IntKind.i64.wrap (s6.1 - 1)))]) ⟨rfl, rfl, rfl, rfl, rfl, rfl, trivial⟩ ?_
            exact hk7 _ _ _ ⟨((IntKind.i64.wrap (s6.1 - 1)), (putN 65 0 s6.2 ((IntKind.i64.wrap (s6.1 - 1)).toNat) 45)), h, (Sto.Le.refl _), rfl, rfl⟩
          · replace h := (if_neg (ne_t hc)).mp h
            refine st_skip ?_
            refine st_env (ρ' := [(0, v1), (4, .bool a4), (10, .slice none 0 0), (11, .string (bstr [])), (12, .pointer (some ⟨b4, 0, none⟩)), (13, .int .i64 s6.1)]) ⟨rfl, rfl, rfl, rfl, rfl, rfl, trivial⟩ ?_
            exact hk7 _ _ _ ⟨(s6.1, s6.2), h, (Sto.Le.refl _), rfl, rfl⟩
        refine st_seq ?_
        refine st_region ?_
        refine o_move rfl rfl rfl rfl ?_
        obtain ⟨r16, hr17, h⟩ := h
        refine st_call (foot := []) rfl rfl rfl rfl rfl rfl (callV_fn z_en106 (internal_strconv_isPowerOfTwo_ok hr17 τ5)) ?_
        rintro vτ18 τ18 gsτ18 hl19 ⟨rfl, rfl⟩
        refine st_end ?_
        refine st_cond rfl (fun hc => ?_) (fun hc => ?_)
        · replace h := (if_pos hc).mp h
          refine st_seq ?_
          refine st_region ?_
          refine o_move rfl rfl rfl rfl ?_
          refine o_conv rfl rfl rfl Tryd.underlying3 Tryd.underlying77 rfl ?_
          obtain ⟨r20, hr21, h⟩ := h
          refine st_call (foot := []) rfl rfl rfl rfl rfl rfl (callV_fn z_en107 (math_bits_TrailingZeros_ok hr21 τ18)) ?_
          rintro vτ22 τ22 gsτ22 hl23 ⟨rfl, rfl⟩
          refine o_conv rfl rfl rfl Tryd.underlying3 Tryd.underlying77 rfl ?_
          refine o_assign rfl rfl rfl rfl ?_
          refine st_end ?_
          refine st_seq ?_
          refine st_region ?_
          refine o_move rfl rfl rfl rfl ?_
          refine o_conv rfl rfl rfl Tryd.underlying3 Tryd.underlying48 rfl ?_
          refine o_assign rfl rfl rfl rfl ?_
          refine st_end ?_
          refine st_seq ?_
          refine st_region ?_
          refine o_move rfl rfl rfl rfl ?_
          refine o_conv rfl rfl rfl Tryd.underlying3 Tryd.underlying77 rfl ?_
          refine o_ibin (v := .int .u64 (IntKind.u64.wrap ((IntKind.u64.wrap a2) - 1))) rfl rfl rfl rfl rfl rfl ?_
          refine o_assign rfl rfl rfl rfl ?_
          refine st_end ?_
          refine st_seq ?_
          refine st_cut (fun ρ τ24 gs => ∃ (s24 : Int × Int × List Int), internal_strconv_formatBits_j5 a3 a4 s24 r ∧ τ22.Le τ24 ∧ ρ = [(0, v1), (1, .int .u64 s24.1), (3, .bool a3), (4, .bool a4), (10, .slice none 0 0), (11, .string (bstr [])), (12, .pointer (some ⟨b4, 0, none⟩)), (13, .int .i64 s24.2.1)] ∧ gs = [[(b4, .cells (cellsN (Value.int .u8) 0 65 s24.2.2).toArray 159 (0, 0))]]) ?_ (fun hk24 => ?_)
          · rintro ρ24 τ24 gs24 ⟨s24, h, hl24, rfl, rfl⟩
            refine st_seq ?_
            refine st_region ?_
            refine o_move rfl rfl rfl rfl ?_
            refine o_ibin (v := .int .i64 (IntKind.i64.wrap (s24.2.1 - 1))) rfl rfl rfl rfl rfl rfl ?_
            refine o_assign rfl rfl rfl rfl ?_
            refine st_end ?_
            refine st_region ?_
            refine o_move rfl rfl rfl rfl ?_
            refine o_move rfl rfl rfl rfl ?_
            obtain ⟨q25, hf26, h⟩ := h
            refine o_indexS rfl rfl rfl Tryd.underlying9 (ev_str z_str1) rfl hf26 ?_
            obtain ⟨hf27, h⟩ := h
            obtain ⟨hf28, h⟩ := h
            refine o_indexA rfl rfl rfl z_arr159 rfl rfl hf27 hf28 ?_
            refine o_storeB (j := 0) (q := (IntKind.i64.wrap (s24.2.1 - 1)).toNat) (f := (Value.int .u8)) (zz := 0) (a := q25) (l := 65) (xs := s24.2.2) rfl rfl rfl z_size5 rfl rfl rfl rfl rfl (by omega) (by omega) ?_
            refine st_gs [[(b4, .cells (cellsN (Value.int .u8) 0 65 (putN 65 0 s24.2.2 ((IntKind.i64.wrap (s24.2.1 - 1)).toNat) q25)).toArray 159 (0, 0))]] rfl ?_
            refine st_end ?_
            refine st_env (ρ' := [(0, v1), (3, .bool a3), (4, .bool a4), (10, .slice none 0 0), (11, .string (bstr [])), (12, .pointer (some ⟨b4, 0, none⟩)), (13, .int .i64 (IntKind.i64.wrap (s24.2.1 - 1)))]) ⟨rfl, rfl, rfl, rfl, rfl, rfl, rfl, trivial⟩ ?_
            exact hk6 _ _ _ ⟨((IntKind.i64.wrap (s24.2.1 - 1)), (putN 65 0 s24.2.2 ((IntKind.i64.wrap (s24.2.1 - 1)).toNat) q25)), h, ((hl19.trans hl23).trans hl24), rfl, rfl⟩
          obtain ⟨e29, hL29, hA29⟩ := h
          refine st_env (ρ' := [(0, v1), (1, .int .u64 s5), (3, .bool a3), (4, .bool a4), (10, .slice none 0 0), (11, .string (bstr [])), (12, .pointer (some ⟨b4, 0, none⟩)), (13, .int .i64 65), (14, .int .u64 (IntKind.u64.wrap r20)), (15, .int .u64 (IntKind.u64.wrap a2)), (16, .int .u64 (IntKind.u64.wrap ((IntKind.u64.wrap a2) - 1)))]) ⟨rfl, rfl, rfl, rfl, rfl, rfl, rfl, rfl, rfl, rfl, rfl, trivial⟩ ?_
          refine st_loop hL29 (fun (s29 : Int × Int × List Int) ρ τ29 gs => τ22.Le τ29 ∧ ρ = [(0, v1), (1, .int .u64 s29.1), (3, .bool a3), (4, .bool a4), (10, .slice none 0 0), (11, .string (bstr [])), (12, .pointer (some ⟨b4, 0, none⟩)), (13, .int .i64 s29.2.1), (14, .int .u64 (IntKind.u64.wrap r20)), (15, .int .u64 (IntKind.u64.wrap a2)), (16, .int .u64 (IntKind.u64.wrap ((IntKind.u64.wrap a2) - 1)))] ∧ gs = [[(b4, .cells (cellsN (Value.int .u8) 0 65 s29.2.2).toArray 159 (0, 0))]]) ⟨Sto.Le.refl _, rfl, rfl⟩ ?_
          rintro s29 o29 h he29 ρ29 τ29 gs29 ⟨hl29, rfl, rfl⟩ hn29
          refine st_seq ?_
          refine st_seq ?_
          refine st_region ?_
          refine o_move rfl rfl rfl rfl ?_
          refine o_move rfl rfl rfl rfl ?_
          refine o_ibin (v := .bool (decide ((IntKind.u64.wrap a2) ≤ s29.1))) rfl rfl rfl rfl rfl rfl ?_
          refine st_end ?_
          refine st_cond rfl (fun hc => ?_) (fun hc => ?_)
          · replace h := (if_pos hc).mp h
            refine st_skip ?_
            refine st_block ?_
            refine st_seq ?_
            refine st_region ?_
            refine o_move rfl rfl rfl rfl ?_
            refine o_ibin (v := .int .i64 (IntKind.i64.wrap (s29.2.1 - 1))) rfl rfl rfl rfl rfl rfl ?_
            refine o_assign rfl rfl rfl rfl ?_
            refine st_end ?_
            refine st_seq ?_
            refine st_region ?_
            refine o_move rfl rfl rfl rfl ?_
            refine o_move rfl rfl rfl rfl ?_
            refine o_move rfl rfl rfl rfl ?_
            refine o_ibin (v := .int .u64 (iand .u64 s29.1 (IntKind.u64.wrap ((IntKind.u64.wrap a2) - 1)))) rfl rfl rfl rfl rfl rfl ?_
            obtain ⟨q30, hf31, h⟩ := h
            refine o_indexS rfl rfl rfl Tryd.underlying9 (ev_str z_str1) rfl hf31 ?_
            obtain ⟨hf32, h⟩ := h
            obtain ⟨hf33, h⟩ := h
            refine o_indexA rfl rfl rfl z_arr159 rfl rfl hf32 hf33 ?_
            refine o_storeB (j := 0) (q := (IntKind.i64.wrap (s29.2.1 - 1)).toNat) (f := (Value.int .u8)) (zz := 0) (a := q30) (l := 65) (xs := s29.2.2) rfl rfl rfl z_size5 rfl rfl rfl rfl rfl (by omega) (by omega) ?_
            refine st_gs [[(b4, .cells (cellsN (Value.int .u8) 0 65 (putN 65 0 s29.2.2 ((IntKind.i64.wrap (s29.2.1 - 1)).toNat) q30)).toArray 159 (0, 0))]] rfl ?_
            refine st_end ?_
            refine st_region ?_
            refine o_move rfl rfl rfl rfl ?_
            refine o_move rfl rfl rfl rfl ?_
            obtain ⟨hf34, h⟩ := h
            refine o_shr rfl rfl rfl rfl rfl hf34 ?_
            refine o_assign rfl rfl rfl rfl ?_
            refine st_end ?_
            refine st_inBlock ?_
            refine st_env (ρ' := [(0, v1), (1, .int .u64 (ishr .u64 s29.1 (IntKind.u64.wrap r20))), (3, .bool a3), (4, .bool a4), (10, .slice none 0 0), (11, .string (bstr [])), (12, .pointer (some ⟨b4, 0, none⟩)), (13, .int .i64 (IntKind.i64.wrap (s29.2.1 - 1))), (14, .int .u64 (IntKind.u64.wrap r20)), (15, .int .u64 (IntKind.u64.wrap a2)), (16, .int .u64 (IntKind.u64.wrap ((IntKind.u64.wrap a2) - 1)))]) ⟨rfl, rfl, rfl, rfl, rfl, rfl, rfl, rfl, rfl, rfl, rfl, trivial⟩ ?_
            exact hn29 _ _ _ _ h ⟨hl29, rfl, rfl⟩
          · replace h := (if_neg (ne_t hc)).mp h
            refine st_exit rfl ?_
            obtain rfl := he29 _ h
            replace h := hA29
            refine st_env (ρ' := [(0, v1), (1, .int .u64 s29.1), (3, .bool a3), (4, .bool a4), (10, .slice none 0 0), (11, .string (bstr [])), (12, .pointer (some ⟨b4, 0, none⟩)), (13, .int .i64 s29.2.1)]) ⟨rfl, rfl, rfl, rfl, rfl, rfl, rfl, rfl, trivial⟩ ?_
            exact hk24 _ _ _ ⟨(s29.1, s29.2.1, s29.2.2), h, hl29, rfl, rfl⟩
        · replace h := (if_neg (ne_t hc)).mp h
          refine st_seq ?_
          refine st_region ?_
          refine o_move rfl rfl rfl rfl ?_
          refine o_conv rfl rfl rfl Tryd.underlying3 Tryd.underlying48 rfl ?_
          refine o_assign rfl rfl rfl rfl ?_
          refine st_end ?_
          refine st_seq ?_
          refine st_cut (fun ρ τ36 gs => ∃ (s36 : Int × Int × List Int), internal_strconv_formatBits_j7 a3 a4 s36 r ∧ τ18.Le τ36 ∧ ρ = [(0, v1), (1, .int .u64 s36.1), (3, .bool a3), (4, .bool a4), (10, .slice none 0 0), (11, .string (bstr [])), (12, .pointer (some ⟨b4, 0, none⟩)), (13, .int .i64 s36.2.1)] ∧ gs = [[(b4, .cells (cellsN (Value.int .u8) 0 65 s36.2.2).toArray 159 (0, 0))]]) ?_ (fun hk36 => ?_)
          · rintro ρ36 τ36 gs36 ⟨s36, h, hl36, rfl, rfl⟩
            refine st_seq ?_
            refine st_region ?_
            refine o_move rfl rfl rfl rfl ?_
            refine o_ibin (v := .int .i64 (IntKind.i64.wrap (s36.2.1 - 1))) rfl rfl rfl rfl rfl rfl ?_
            refine o_assign rfl rfl rfl rfl ?_
            refine st_end ?_
            refine st_region ?_
            refine o_move rfl rfl rfl rfl ?_
            refine o_move rfl rfl rfl rfl ?_
            obtain ⟨q37, hf38, h⟩ := h
            refine o_indexS rfl rfl rfl Tryd.underlying9 (ev_str z_str1) rfl hf38 ?_
            obtain ⟨hf39, h⟩ := h
            obtain ⟨hf40, h⟩ := h
            refine o_indexA rfl rfl rfl z_arr159 rfl rfl hf39 hf40 ?_
            refine o_storeB (j := 0) (q := (IntKind.i64.wrap (s36.2.1 - 1)).toNat) (f := (Value.int .u8)) (zz := 0) (a := q37) (l := 65) (xs := s36.2.2) rfl rfl rfl z_size5 rfl rfl rfl rfl rfl (by omega) (by omega) ?_
            refine st_gs [[(b4, .cells (cellsN (Value.int .u8) 0 65 (putN 65 0 s36.2.2 ((IntKind.i64.wrap (s36.2.1 - 1)).toNat) q37)).toArray 159 (0, 0))]] rfl ?_
            refine st_end ?_
            refine st_env (ρ' := [(0, v1), (3, .bool a3), (4, .bool a4), (10, .slice none 0 0), (11, .string (bstr [])), (12, .pointer (some ⟨b4, 0, none⟩)), (13, .int .i64 (IntKind.i64.wrap (s36.2.1 - 1)))]) ⟨rfl, rfl, rfl, rfl, rfl, rfl, rfl, trivial⟩ ?_
            exact hk6 _ _ _ ⟨((IntKind.i64.wrap (s36.2.1 - 1)), (putN 65 0 s36.2.2 ((IntKind.i64.wrap (s36.2.1 - 1)).toNat) q37)), h, (hl19.trans hl36), rfl, rfl⟩
          obtain ⟨e41, hL41, hA41⟩ := h
          refine st_env (ρ' := [(0, v1), (1, .int .u64 s5), (3, .bool a3), (4, .bool a4), (10, .slice none 0 0), (11, .string (bstr [])), (12, .pointer (some ⟨b4, 0, none⟩)), (13, .int .i64 65), (17, .int .u64 (IntKind.u64.wrap a2))]) ⟨rfl, rfl, rfl, rfl, rfl, rfl, rfl, rfl, rfl, trivial⟩ ?_
          refine st_loop hL41 (fun (s41 : Int × Int × List Int) ρ τ41 gs => τ18.Le τ41 ∧ ρ = [(0, v1), (1, .int .u64 s41.1), (3, .bool a3), (4, .bool a4), (10, .slice none 0 0), (11, .string (bstr [])), (12, .pointer (some ⟨b4, 0, none⟩)), (13, .int .i64 s41.2.1), (17, .int .u64 (IntKind.u64.wrap a2))] ∧ gs = [[(b4, .cells (cellsN (Value.int .u8) 0 65 s41.2.2).toArray 159 (0, 0))]]) ⟨Sto.Le.refl _, rfl, rfl⟩ ?_
          rintro s41 o41 h he41 ρ41 τ41 gs41 ⟨hl41, rfl, rfl⟩ hn41
          refine st_seq ?_
          refine st_seq ?_
          refine st_region ?_
          refine o_move rfl rfl rfl rfl ?_
          refine o_move rfl rfl rfl rfl ?_
          refine o_ibin (v := .bool (decide ((IntKind.u64.wrap a2) ≤ s41.1))) rfl rfl rfl rfl rfl rfl ?_
          refine st_end ?_
          refine st_cond rfl (fun hc => ?_) (fun hc => ?_)
          · replace h := (if_pos hc).mp h
            refine st_skip ?_
            refine st_block ?_
            refine st_seq ?_
            refine st_region ?_
            refine o_move rfl rfl rfl rfl ?_
            refine o_ibin (v := .int .i64 (IntKind.i64.wrap (s41.2.1 - 1))) rfl rfl rfl rfl rfl rfl ?_
            refine o_assign rfl rfl rfl rfl ?_
            refine st_end ?_
            refine st_seq ?_
            refine st_region ?_
            refine o_move rfl rfl rfl rfl ?_
            refine o_move rfl rfl rfl rfl ?_
            obtain ⟨hf42, h⟩ := h
            refine o_quo rfl rfl rfl rfl rfl hf42 ?_
            refine o_assign rfl rfl rfl rfl ?_
            refine st_end ?_
            refine st_seq ?_
            refine st_region ?_
            refine o_move rfl rfl rfl rfl ?_
            refine o_move rfl rfl rfl rfl ?_
            refine o_move rfl rfl rfl rfl ?_
            refine o_move rfl rfl rfl rfl ?_
            refine o_ibin (v := .int .u64 (IntKind.u64.wrap ((IntKind.u64.wrap (s41.1.tdiv (IntKind.u64.wrap a2))) * (IntKind.u64.wrap a2)))) rfl rfl rfl rfl rfl rfl ?_
            refine o_ibin (v := .int .u64 (IntKind.u64.wrap (s41.1 - (IntKind.u64.wrap ((IntKind.u64.wrap (s41.1.tdiv (IntKind.u64.wrap a2))) * (IntKind.u64.wrap a2)))))) rfl rfl rfl rfl rfl rfl ?_
            obtain ⟨q43, hf44, h⟩ := h
            refine o_indexS rfl rfl rfl Tryd.underlying9 (ev_str z_str1) rfl hf44 ?_
            obtain ⟨hf45, h⟩ := h
            obtain ⟨hf46, h⟩ := h
            refine o_indexA rfl rfl rfl z_arr159 rfl rfl hf45 hf46 ?_
            refine o_storeB (j := 0) (q := (IntKind.i64.wrap (s41.2.1 - 1)).toNat) (f := (Value.int .u8)) (zz := 0) (a := q43) (l := 65) (xs := s41.2.2) rfl rfl rfl z_size5 rfl rfl rfl rfl rfl (by omega) (by omega) ?_
            refine st_gs [[(b4, .cells (cellsN (Value.int .u8) 0 65 (putN 65 0 s41.2.2 ((IntKind.i64.wrap (s41.2.1 - 1)).toNat) q43)).toArray 159 (0, 0))]] rfl ?_
            refine st_end ?_
            refine st_region ?_
            refine o_move rfl rfl rfl rfl ?_
            refine o_assign rfl rfl rfl rfl ?_
            refine st_end ?_
            refine st_inBlock ?_
            refine st_env (ρ' := [(0, v1), (1, .int .u64 (IntKind.u64.wrap (s41.1.tdiv (IntKind.u64.wrap a2)))), (3, .bool a3), (4, .bool a4), (10, .slice none 0 0), (11, .string (bstr [])), (12, .pointer (some ⟨b4, 0, none⟩)), (13, .int .i64 (IntKind.i64.wrap (s41.2.1 - 1))), (17, .int .u64 (IntKind.u64.wrap a2))]) ⟨rfl, rfl, rfl, rfl, rfl, rfl, rfl, rfl, rfl, trivial⟩ ?_
            exact hn41 _ _ _ _ h ⟨hl41, rfl, rfl⟩
          · replace h := (if_neg (ne_t hc)).mp h
            refine st_exit rfl ?_
            obtain rfl := he41 _ h
            replace h := hA41
            refine st_env (ρ' := [(0, v1), (1, .int .u64 s41.1), (3, .bool a3), (4, .bool a4), (10, .slice none 0 0), (11, .string (bstr [])), (12, .pointer (some ⟨b4, 0, none⟩)), (13, .int .i64 s41.2.1)]) ⟨rfl, rfl, rfl, rfl, rfl, rfl, rfl, rfl, trivial⟩ ?_
            exact hk36 _ _ _ ⟨(s41.1, s41.2.1, s41.2.2), h, hl41, rfl, rfl⟩
      refine st_seq ?_
      refine st_region ?_
      refine o_move rfl rfl rfl rfl ?_
      refine st_end ?_
      refine st_cond rfl (fun hc => ?_) (fun hc => ?_)
      · replace h := (if_pos hc).mp h
        refine st_region ?_
        refine o_move rfl rfl rfl rfl ?_
        refine o_neg rfl rfl rfl rfl ?_
        refine o_assign rfl rfl rfl rfl ?_
        refine st_end ?_
        refine st_env (ρ' := [(0, v1), (1, .int .u64 (IntKind.u64.wrap (0 - a1))), (2, .int .i64 a2), (3, .bool a3), (4, .bool a4), (10, .slice none 0 0), (11, .string (bstr [])), (12, .pointer (some ⟨b4, 0, none⟩)), (13, .int .i64 65)]) ⟨rfl, rfl, rfl, rfl, rfl, rfl, rfl, rfl, rfl, trivial⟩ ?_
        exact hk5 _ _ _ ⟨(IntKind.u64.wrap (0 - a1)), h, (Sto.Le.refl _), rfl, rfl⟩
      · replace h := (if_neg (ne_t hc)).mp h
        refine st_skip ?_
        refine st_env (ρ' := [(0, v1), (1, .int .u64 a1), (2, .int .i64 a2), (3, .bool a3), (4, .bool a4), (10, .slice none 0 0), (11, .string (bstr [])), (12, .pointer (some ⟨b4, 0, none⟩)), (13, .int .i64 65)]) ⟨rfl, rfl, rfl, rfl, rfl, rfl, rfl, rfl, rfl, trivial⟩ ?_
        exact hk5 _ _ _ ⟨a1, h, (Sto.Le.refl _), rfl, rfl⟩
  refine st_region ?_
  refine o_move rfl rfl rfl rfl ?_
  refine o_ibin (v := .bool (decide (a2 < 2))) rfl rfl rfl rfl rfl rfl ?_
  refine o_moveB rfl rfl rfl rfl (fun hc => ?_) (fun hc => ?_)
  · replace h := (if_pos hc).mp h
    refine st_pass rfl rfl rfl rfl rfl rfl ?_
    refine st_pass rfl rfl rfl rfl rfl rfl ?_
    refine o_pick rfl rfl rfl rfl rfl ?_
    refine o_move rfl rfl rfl rfl ?_
    refine st_pass rfl rfl rfl rfl rfl rfl ?_
    refine st_pass rfl rfl rfl rfl rfl rfl ?_
    refine o_pick rfl rfl rfl rfl rfl ?_
    refine st_end ?_
    refine st_env (ρ' := [(0, v1), (1, .int .u64 a1), (2, .int .i64 a2), (3, .bool a3), (4, .bool a4), (10, .slice none 0 0), (11, .string (bstr [])), (28, .bool true)]) ⟨rfl, rfl, rfl, rfl, rfl, rfl, rfl, rfl, trivial⟩ ?_
    exact hk3 _ _ _ ⟨true, h, (Sto.Le.refl _), rfl, rfl⟩
  · replace h := (if_neg (ne_t hc)).mp h
    refine o_move rfl rfl rfl rfl ?_
    refine o_ibin (v := .bool (decide (a2 = 10))) rfl rfl rfl rfl rfl rfl ?_
    refine o_pick rfl rfl rfl rfl rfl ?_
    refine o_moveB rfl rfl rfl rfl (fun hc => ?_) (fun hc => ?_)
    · replace h := (if_pos hc).mp h
      refine st_pass rfl rfl rfl rfl rfl rfl ?_
      refine st_pass rfl rfl rfl rfl rfl rfl ?_
      refine o_pick rfl rfl rfl rfl rfl ?_
      refine st_end ?_
      refine st_env (ρ' := [(0, v1), (1, .int .u64 a1), (2, .int .i64 a2), (3, .bool a3), (4, .bool a4), (10, .slice none 0 0), (11, .string (bstr [])), (28, .bool true)]) ⟨rfl, rfl, rfl, rfl, rfl, rfl, rfl, rfl, trivial⟩ ?_
      exact hk3 _ _ _ ⟨true, h, (Sto.Le.refl _), rfl, rfl⟩
    · replace h := (if_neg (ne_t hc)).mp h
      refine o_move rfl rfl rfl rfl ?_
      refine o_ibin (v := .bool (decide (36 < a2))) rfl rfl rfl rfl rfl rfl ?_
      refine o_pick rfl rfl rfl rfl rfl ?_
      refine st_end ?_
      refine st_env (ρ' := [(0, v1), (1, .int .u64 a1), (2, .int .i64 a2), (3, .bool a3), (4, .bool a4), (10, .slice none 0 0), (11, .string (bstr [])), (28, .bool (decide (36 < a2)))]) ⟨rfl, rfl, rfl, rfl, rfl, rfl, rfl, rfl, trivial⟩ ?_
      exact hk3 _ _ _ ⟨(decide (36 < a2)), h, (Sto.Le.refl _), rfl, rfl⟩
theorem internal_strconv_FormatInt_ok {a0 : Int} {a1 : Int} {r : ByteArray} (h : internal_strconv_FormatInt a0 a1 r) (σ : Sto)  :
    Does Tryd.prog 93 [.int .i64 a0, .int .i64 a1] σ [] (fun v τ gs => gs = [] ∧ .string r = v) := by
  refine call_of Tryd.func93 Tryd.ntmps93 rfl rfl (fun cs fs => ?_)
  refine st_seq ?_
  refine st_region ?_
  refine o_assign rfl rfl rfl (ev_str z_str0) ?_
  refine st_end ?_
  refine st_seq ?_
  refine st_seq ?_
  refine st_region ?_
  refine o_move rfl rfl rfl rfl ?_
  refine o_ibin (v := .bool (decide (a1 = 10))) rfl rfl rfl rfl rfl rfl ?_
  refine st_end ?_
  refine st_cond rfl (fun hc => ?_) (fun hc => ?_)
  · replace h := (if_pos hc).mp h
    refine st_seq ?_
    refine st_seq ?_
    refine st_cut (fun ρ τ1 gs => ∃ (s1 : Bool), internal_strconv_FormatInt_j1 a0 s1 r ∧ σ.Le τ1 ∧ ρ = [(0, .int .i64 a0), (1, .int .i64 a1), (4, .string (bstr [])), (17, .bool s1)] ∧ gs = []) ?_ (fun hk1 => ?_)
    · rintro ρ1 τ1 gs1 ⟨s1, h, hl1, rfl, rfl⟩
      refine st_cond rfl (fun hc => ?_) (fun hc => ?_)
      · replace h := (if_pos hc).mp h
        refine st_seq ?_
        refine st_region ?_
        refine o_move rfl rfl rfl rfl ?_
        obtain ⟨r2, hr3, h⟩ := h
        refine st_call (foot := []) rfl rfl rfl rfl rfl rfl (callV_fn z_en94 (internal_strconv_small_ok hr3 τ1)) ?_
        rintro vτ4 τ4 gsτ4 hl5 ⟨rfl, rfl⟩
        refine o_assign rfl rfl rfl rfl ?_
        refine st_end ?_
        obtain rfl := Eq.symm h
        exact st_ret (gs' := []) Tryd.func93 rfl (List.Sublist.refl _) (hl1.trans hl5) ⟨rfl, rfl⟩
      · replace h := (if_neg (ne_t hc)).mp h
        refine st_skip ?_
        refine st_seq ?_
        refine st_region ?_
        refine o_alloc rfl rfl rfl z_zero147 (fun b6 => ?_)
        refine st_end ?_
        refine st_seq ?_
        refine st_region ?_
        refine o_move rfl rfl rfl rfl ?_
        refine o_conv rfl rfl rfl Tryd.underlying2 Tryd.underlying48 rfl ?_
        refine o_assign rfl rfl rfl rfl ?_
        refine st_end ?_
        refine st_seq ?_
        refine st_cut (fun ρ τ7 gs => ∃ (s7 : Int), internal_strconv_FormatInt_j2 s7 r ∧ τ1.Le τ7 ∧ ρ = [(0, .int .i64 a0), (1, .int .i64 a1), (4, .string (bstr [])), (5, .pointer (some ⟨b6, 0, none⟩)), (6, .int .u64 s7)] ∧ gs = [[(b6, .cells (cellsN (Value.int .u8) 0 24 (List.replicate 24 0)).toArray 147 (0, 0))]]) ?_ (fun hk7 => ?_)
        · rintro ρ7 τ7 gs7 ⟨s7, h, hl7, rfl, rfl⟩
          refine st_seq ?_
          refine st_region ?_
          refine o_move rfl rfl rfl rfl ?_
          obtain ⟨r8, hr9, h⟩ := h
          refine st_call (foot := []) rfl rfl rfl rfl rfl rfl (callV_fn z_en95 (internal_strconv_numDigits_ok hr9 τ7)) ?_
          rintro vτ10 τ10 gsτ10 hl11 ⟨rfl, rfl⟩
          refine o_assign rfl rfl rfl rfl ?_
          refine st_end ?_
          refine st_seq ?_
          refine st_region ?_
          refine o_move rfl rfl rfl rfl ?_
          refine o_ibin (v := .int .i64 (IntKind.i64.wrap (1 + r8))) rfl rfl rfl rfl rfl rfl ?_
          exact h.elim
        refine st_seq ?_
        refine st_region ?_
        refine o_move rfl rfl rfl rfl ?_
        refine o_ibin (v := .bool (decide (a0 < 0))) rfl rfl rfl rfl rfl rfl ?_
        refine st_end ?_
        refine st_cond rfl (fun hc => ?_) (fun hc => ?_)
        · replace h := (if_pos hc).mp h
          refine st_region ?_
          refine o_move rfl rfl rfl rfl ?_
          refine o_neg rfl rfl rfl rfl ?_
          refine o_assign rfl rfl rfl rfl ?_
          refine st_end ?_
          refine st_env (ρ' := [(0, .int .i64 a0), (1, .int .i64 a1), (4, .string (bstr [])), (5, .pointer (some ⟨b6, 0, none⟩)), (6, .int .u64 (IntKind.u64.wrap (0 - (IntKind.u64.wrap a0))))]) ⟨rfl, rfl, rfl, rfl, rfl, trivial⟩ ?_
          exact hk7 _ _ _ ⟨(IntKind.u64.wrap (0 - (IntKind.u64.wrap a0))), h, (Sto.Le.refl _), rfl, rfl⟩
        · replace h := (if_neg (ne_t hc)).mp h
          refine st_skip ?_
          refine st_env (ρ' := [(0, .int .i64 a0), (1, .int .i64 a1), (4, .string (bstr [])), (5, .pointer (some ⟨b6, 0, none⟩)), (6, .int .u64 (IntKind.u64.wrap a0))]) ⟨rfl, rfl, rfl, rfl, rfl, trivial⟩ ?_
          exact hk7 _ _ _ ⟨(IntKind.u64.wrap a0), h, (Sto.Le.refl _), rfl, rfl⟩
    refine st_region ?_
    refine o_move rfl rfl rfl rfl ?_
    refine o_ibin (v := .bool (decide (0 ≤ a0))) rfl rfl rfl rfl rfl rfl ?_
    refine o_moveB rfl rfl rfl rfl (fun hc => ?_) (fun hc => ?_)
    · replace h := (if_pos hc).mp h
      refine o_move rfl rfl rfl rfl ?_
      refine o_ibin (v := .bool (decide (a0 < 100))) rfl rfl rfl rfl rfl rfl ?_
      refine o_pick rfl rfl rfl rfl rfl ?_
      refine st_end ?_
      refine st_env (ρ' := [(0, .int .i64 a0), (1, .int .i64 a1), (4, .string (bstr [])), (17, .bool (decide (a0 < 100)))]) ⟨rfl, rfl, rfl, rfl, trivial⟩ ?_
      exact hk1 _ _ _ ⟨(decide (a0 < 100)), h, (Sto.Le.refl _), rfl, rfl⟩
    · replace h := (if_neg (ne_t hc)).mp h
      refine st_pass rfl rfl rfl rfl rfl rfl ?_
      refine st_pass rfl rfl rfl rfl rfl rfl ?_
      refine o_pick rfl rfl rfl rfl rfl ?_
      refine st_end ?_
      refine st_env (ρ' := [(0, .int .i64 a0), (1, .int .i64 a1), (4, .string (bstr [])), (17, .bool false)]) ⟨rfl, rfl, rfl, rfl, trivial⟩ ?_
      exact hk1 _ _ _ ⟨false, h, (Sto.Le.refl _), rfl, rfl⟩
  · replace h := (if_neg (ne_t hc)).mp h
    refine st_skip ?_
    refine st_seq ?_
    refine st_region ?_
    refine o_move rfl rfl rfl rfl ?_
    refine o_conv rfl rfl rfl Tryd.underlying2 Tryd.underlying48 rfl ?_
    refine o_move rfl rfl rfl rfl ?_
    refine o_move rfl rfl rfl rfl ?_
    refine o_ibin (v := .bool (decide (a0 < 0))) rfl rfl rfl rfl rfl rfl ?_
    obtain ⟨r15, hr16, h⟩ := h
    refine st_call (foot := []) rfl rfl rfl rfl rfl rfl (callV_fn z_en97 (internal_strconv_formatBits_ok hr16 σ Sl.nil)) ?_
    rintro vτ17 τ17 gsτ17 hl18 ⟨v19, rfl, rfl, hs20, hF21⟩
    refine o_move rfl rfl rfl rfl ?_
    refine o_extract rfl rfl rfl rfl rfl ?_
    refine o_extract rfl rfl rfl rfl rfl ?_
    refine o_assign rfl rfl rfl rfl ?_
    refine o_assign rfl rfl rfl rfl ?_
    refine st_end ?_
    refine st_seq ?_
    refine st_region ?_
    refine o_move rfl rfl rfl rfl ?_
    refine o_assign rfl rfl rfl rfl ?_
    refine st_end ?_
    obtain rfl := Eq.symm h
    exact st_ret (gs' := []) Tryd.func93 rfl (List.Sublist.refl _) hl18 ⟨rfl, rfl⟩
theorem internal_strconv_Itoa_ok {a0 : Int} {r : ByteArray} (h : internal_strconv_Itoa a0 r) (σ : Sto)  :
    Does Tryd.prog 72 [.int .i64 a0] σ [] (fun v τ gs => gs = [] ∧ .string r = v) := by
  refine call_of Tryd.func72 Tryd.ntmps72 rfl rfl (fun cs fs => ?_)
  refine st_seq ?_
  refine st_region ?_
  refine o_assign rfl rfl rfl (ev_str z_str0) ?_
  refine st_end ?_
  refine st_seq ?_
  refine st_region ?_
  refine o_move rfl rfl rfl rfl ?_
  obtain ⟨r1, hr2, h⟩ := h
  refine st_call (foot := []) rfl rfl rfl rfl rfl rfl (callV_fn z_en93 (internal_strconv_FormatInt_ok hr2 σ)) ?_
  rintro vτ3 τ3 gsτ3 hl4 ⟨rfl, rfl⟩
  refine o_assign rfl rfl rfl rfl ?_
  refine st_end ?_
  obtain rfl := Eq.symm h
  exact st_ret (gs' := []) Tryd.func72 rfl (List.Sublist.refl _) hl4 ⟨rfl, rfl⟩
theorem strconv_Itoa_ok {a0 : Int} {r : ByteArray} (h : strconv_Itoa a0 r) (σ : Sto)  :
    Does Tryd.prog 43 [.int .i64 a0] σ [] (fun v τ gs => gs = [] ∧ .string r = v) := by
  refine call_of Tryd.func43 Tryd.ntmps43 rfl rfl (fun cs fs => ?_)
  refine st_seq ?_
  refine st_region ?_
  refine o_assign rfl rfl rfl (ev_str z_str0) ?_
  refine st_end ?_
  refine st_seq ?_
  refine st_region ?_
  refine o_move rfl rfl rfl rfl ?_
  obtain ⟨r1, hr2, h⟩ := h
  refine st_call (foot := []) rfl rfl rfl rfl rfl rfl (callV_fn z_en72 (internal_strconv_Itoa_ok hr2 σ)) ?_
  rintro vτ3 τ3 gsτ3 hl4 ⟨rfl, rfl⟩
  refine o_assign rfl rfl rfl rfl ?_
  refine st_end ?_
  obtain rfl := Eq.symm h
  exact st_ret (gs' := []) Tryd.func43 rfl (List.Sublist.refl _) hl4 ⟨rfl, rfl⟩
theorem cobs_Most_ok {a0 : Int} {r : Int} (h : cobs_Most a0 r) (σ : Sto)  :
    Does Tryd.prog 88 [.int .i64 a0] σ [] (fun v τ gs => gs = [] ∧ .int .i64 r = v) := by
  refine call_of Tryd.func88 Tryd.ntmps88 rfl rfl (fun cs fs => ?_)
  refine st_seq ?_
  refine st_region ?_
  refine o_assign rfl rfl rfl rfl ?_
  refine st_end ?_
  refine st_seq ?_
  refine st_seq ?_
  refine st_region ?_
  refine o_move rfl rfl rfl rfl ?_
  refine o_ibin (v := .bool (decide (a0 < 0))) rfl rfl rfl rfl rfl rfl ?_
  refine st_end ?_
  refine st_cond rfl (fun hc => ?_) (fun hc => ?_)
  · replace h := (if_pos hc).mp h
    refine st_seq ?_
    refine st_region ?_
    refine o_assign rfl rfl rfl rfl ?_
    refine st_end ?_
    obtain rfl := Eq.symm h
    exact st_ret (gs' := []) Tryd.func88 rfl (List.Sublist.refl _) (Sto.Le.refl _) ⟨rfl, rfl⟩
  · replace h := (if_neg (ne_t hc)).mp h
    refine st_skip ?_
    refine st_seq ?_
    refine st_region ?_
    refine o_move rfl rfl rfl rfl ?_
    refine o_quo rfl rfl rfl rfl rfl (by decide) ?_
    refine o_assign rfl rfl rfl rfl ?_
    refine st_end ?_
    refine st_seq ?_
    refine st_cut (fun ρ τ1 gs => ∃ (s1 : Int), cobs_Most_j1 a0 s1 r ∧ σ.Le τ1 ∧ ρ = [(0, .int .i64 a0), (2, .int .i64 0), (3, .int .i64 s1)] ∧ gs = []) ?_ (fun hk1 => ?_)
    · rintro ρ1 τ1 gs1 ⟨s1, h, hl1, rfl, rfl⟩
      refine st_seq ?_
      refine st_region ?_
      refine o_move rfl rfl rfl rfl ?_
      refine o_move rfl rfl rfl rfl ?_
      refine o_max2 rfl rfl rfl rfl rfl ?_
      refine o_ibin (v := .int .i64 (IntKind.i64.wrap (a0 + (max s1 1)))) rfl rfl rfl rfl rfl rfl ?_
      refine o_assign rfl rfl rfl rfl ?_
      refine st_end ?_
      obtain rfl := Eq.symm h
      exact st_ret (gs' := []) Tryd.func88 rfl (List.Sublist.refl _) hl1 ⟨rfl, rfl⟩
    refine st_seq ?_
    refine st_region ?_
    refine o_move rfl rfl rfl rfl ?_
    refine o_rem rfl rfl rfl rfl rfl (by decide) ?_
    refine o_ibin (v := .bool (!(decide ((a0.tmod 254) = 0)))) rfl rfl rfl rfl rfl rfl ?_
    refine st_end ?_
    refine st_cond rfl (fun hc => ?_) (fun hc => ?_)
    · replace h := (if_pos hc).mp h
      refine st_region ?_
      refine o_move rfl rfl rfl rfl ?_
      refine o_ibin (v := .int .i64 (IntKind.i64.wrap ((IntKind.i64.wrap (a0.tdiv 254)) + 1))) rfl rfl rfl rfl rfl rfl ?_
      refine o_assign rfl rfl rfl rfl ?_
      refine st_end ?_
      refine st_env (ρ' := [(0, .int .i64 a0), (2, .int .i64 0), (3, .int .i64 (IntKind.i64.wrap ((IntKind.i64.wrap (a0.tdiv 254)) + 1)))]) ⟨rfl, rfl, rfl, trivial⟩ ?_
      exact hk1 _ _ _ ⟨(IntKind.i64.wrap ((IntKind.i64.wrap (a0.tdiv 254)) + 1)), h, (Sto.Le.refl _), rfl, rfl⟩
    · replace h := (if_neg (ne_t hc)).mp h
      refine st_skip ?_
      refine st_env (ρ' := [(0, .int .i64 a0), (2, .int .i64 0), (3, .int .i64 (IntKind.i64.wrap (a0.tdiv 254)))]) ⟨rfl, rfl, rfl, trivial⟩ ?_
      exact hk1 _ _ _ ⟨(IntKind.i64.wrap (a0.tdiv 254)), h, (Sto.Le.refl _), rfl, rfl⟩
theorem frame_Wire_ok {a0 : Int} {r : Int} (h : frame_Wire a0 r) (σ : Sto)  :
    Does Tryd.prog 64 [.int .i64 a0] σ [] (fun v τ gs => gs = [] ∧ .int .i64 r = v) := by
  refine call_of Tryd.func64 Tryd.ntmps64 rfl rfl (fun cs fs => ?_)
  refine st_seq ?_
  refine st_region ?_
  refine o_assign rfl rfl rfl rfl ?_
  refine st_end ?_
  refine st_seq ?_
  refine st_seq ?_
  refine st_cut (fun ρ τ1 gs => ∃ (s1 : Bool), frame_Wire_j1 a0 s1 r ∧ σ.Le τ1 ∧ ρ = [(0, .int .i64 a0), (2, .int .i64 0), (8, .bool s1)] ∧ gs = []) ?_ (fun hk1 => ?_)
  · rintro ρ1 τ1 gs1 ⟨s1, h, hl1, rfl, rfl⟩
    refine st_cond rfl (fun hc => ?_) (fun hc => ?_)
    · replace h := (if_pos hc).mp h
      refine st_seq ?_
      refine st_region ?_
      refine o_assign rfl rfl rfl rfl ?_
      refine st_end ?_
      obtain rfl := Eq.symm h
      exact st_ret (gs' := []) Tryd.func64 rfl (List.Sublist.refl _) hl1 ⟨rfl, rfl⟩
    · replace h := (if_neg (ne_t hc)).mp h
      refine st_skip ?_
      refine st_seq ?_
      refine st_region ?_
      refine o_move rfl rfl rfl rfl ?_
      refine o_ibin (v := .int .i64 (IntKind.i64.wrap (a0 + 12))) rfl rfl rfl rfl rfl rfl ?_
      obtain ⟨r2, hr3, h⟩ := h
      refine st_call (foot := []) rfl rfl rfl rfl rfl rfl (callV_fn z_en88 (cobs_Most_ok hr3 τ1)) ?_
      rintro vτ4 τ4 gsτ4 hl5 ⟨rfl, rfl⟩
      refine o_ibin (v := .int .i64 (IntKind.i64.wrap (r2 + 2))) rfl rfl rfl rfl rfl rfl ?_
      refine o_assign rfl rfl rfl rfl ?_
      refine st_end ?_
      obtain rfl := Eq.symm h
      exact st_ret (gs' := []) Tryd.func64 rfl (List.Sublist.refl _) (hl1.trans hl5) ⟨rfl, rfl⟩
  refine st_region ?_
  refine o_move rfl rfl rfl rfl ?_
  refine o_ibin (v := .bool (decide (a0 < 1))) rfl rfl rfl rfl rfl rfl ?_
  refine o_moveB rfl rfl rfl rfl (fun hc => ?_) (fun hc => ?_)
  · replace h := (if_pos hc).mp h
    refine st_pass rfl rfl rfl rfl rfl rfl ?_
    refine st_pass rfl rfl rfl rfl rfl rfl ?_
    refine o_pick rfl rfl rfl rfl rfl ?_
    refine st_end ?_
    refine st_env (ρ' := [(0, .int .i64 a0), (2, .int .i64 0), (8, .bool true)]) ⟨rfl, rfl, rfl, trivial⟩ ?_
    exact hk1 _ _ _ ⟨true, h, (Sto.Le.refl _), rfl, rfl⟩
  · replace h := (if_neg (ne_t hc)).mp h
    refine o_move rfl rfl rfl rfl ?_
    refine o_ibin (v := .bool (decide (242 < a0))) rfl rfl rfl rfl rfl rfl ?_
    refine o_pick rfl rfl rfl rfl rfl ?_
    refine st_end ?_
    refine st_env (ρ' := [(0, .int .i64 a0), (2, .int .i64 0), (8, .bool (decide (242 < a0)))]) ⟨rfl, rfl, rfl, trivial⟩ ?_
    exact hk1 _ _ _ ⟨(decide (242 < a0)), h, (Sto.Le.refl _), rfl, rfl⟩
theorem frame_Room_ok {a0 : Int} {r : Int} (h : frame_Room a0 r) (σ : Sto)  :
    Does Tryd.prog 34 [.int .i64 a0] σ [] (fun v τ gs => gs = [] ∧ .int .i64 r = v) := by
  refine call_of Tryd.func34 Tryd.ntmps34 rfl rfl (fun cs fs => ?_)
  refine st_seq ?_
  refine st_region ?_
  refine o_assign rfl rfl rfl rfl ?_
  refine st_end ?_
  refine st_seq ?_
  refine st_seq ?_
  refine st_region ?_
  refine o_move rfl rfl rfl rfl ?_
  obtain ⟨r1, hr2, h⟩ := h
  refine st_call (foot := []) rfl rfl rfl rfl rfl rfl (callV_fn z_en64 (frame_Wire_ok hr2 σ)) ?_
  rintro vτ3 τ3 gsτ3 hl4 ⟨rfl, rfl⟩
  refine o_ibin (v := .bool (decide (a0 < r1))) rfl rfl rfl rfl rfl rfl ?_
  refine st_end ?_
  refine st_cond rfl (fun hc => ?_) (fun hc => ?_)
  · replace h := (if_pos hc).mp h
    refine st_seq ?_
    refine st_region ?_
    refine o_assign rfl rfl rfl rfl ?_
    refine st_end ?_
    obtain rfl := Eq.symm h
    exact st_ret (gs' := []) Tryd.func34 rfl (List.Sublist.refl _) hl4 ⟨rfl, rfl⟩
  · replace h := (if_neg (ne_t hc)).mp h
    refine st_skip ?_
    refine st_seq ?_
    refine st_region ?_
    refine o_move rfl rfl rfl rfl ?_
    obtain ⟨r5, hr6, h⟩ := h
    refine st_call (foot := []) rfl rfl rfl rfl rfl rfl (callV_fn z_en64 (frame_Wire_ok hr6 τ3)) ?_
    rintro vτ7 τ7 gsτ7 hl8 ⟨rfl, rfl⟩
    refine o_ibin (v := .int .i64 (IntKind.i64.wrap (a0 - r5))) rfl rfl rfl rfl rfl rfl ?_
    refine o_ibin (v := .int .i64 (IntKind.i64.wrap ((IntKind.i64.wrap (a0 - r5)) + 1))) rfl rfl rfl rfl rfl rfl ?_
    refine o_min2 rfl rfl rfl rfl rfl ?_
    refine o_assign rfl rfl rfl rfl ?_
    refine st_end ?_
    obtain rfl := Eq.symm h
    exact st_ret (gs' := []) Tryd.func34 rfl (List.Sublist.refl _) (hl4.trans hl8) ⟨rfl, rfl⟩
theorem conf_Rooms_1_ok  {σ0 : Sto}  :
    IterV Tryd.prog (fun _ x vx => vx = [.int .i64 x.1, .int .i64 x.2]) (.func (.func 33) #[] [].toArray) σ0 [] (fun (_ : Unit) _ f => f = []) (conf_Rooms_1) := by
  intro S Y I y hyc hyo hIm hY s s' o hR σ g hle hIg
  obtain ⟨r, hr0⟩ : ∃ r, r = (s', o) := ⟨_, rfl⟩
  rw [← hr0] at hR
  have h := hR
  refine callV_of (caps := []) z_en33 ?_
  refine call_of Tryd.func33 Tryd.ntmps33 rfl rfl (fun cs fs => ?_)
  refine st_ord [0] [g] rfl ?_
  refine st_seq ?_
  refine st_region ?_
  refine o_assign rfl rfl rfl rfl ?_
  refine st_end ?_
  obtain ⟨e1, hL1, hA1⟩ := h
  refine st_env (ρ' := [(0, y), (2, .int .i64 16)]) ⟨rfl, rfl, trivial⟩ ?_
  refine st_loop hL1 (fun (s1 : S × Int) ρ τ1 gs => σ.Le τ1 ∧ ∃ (g2 : Grp), ρ = [(0, y), (2, .int .i64 s1.2)] ∧ gs = [g2] ∧ I s1.1 τ1 g2) ⟨Sto.Le.refl _, g, rfl, rfl, hIg⟩ ?_
  rintro s1 o1 h he1 ρ1 τ1 gs1 ⟨hl1, g2, rfl, rfl, hI3⟩ hn1
  refine st_seq ?_
  refine st_seq ?_
  refine st_region ?_
  refine o_move rfl rfl rfl rfl ?_
  refine o_ibin (v := .bool (decide (s1.2 ≤ 257))) rfl rfl rfl rfl rfl rfl ?_
  refine st_end ?_
  refine st_cond rfl (fun hc => ?_) (fun hc => ?_)
  · replace h := (if_pos hc).mp h
    refine st_skip ?_
    refine st_seq ?_
    refine st_block ?_
    refine st_seq ?_
    refine st_region ?_
    refine o_move rfl rfl rfl rfl ?_
    refine o_move rfl rfl rfl rfl ?_
    refine o_move rfl rfl rfl rfl ?_
    obtain ⟨r4, hr5, h⟩ := h
    refine st_call (foot := []) rfl rfl rfl rfl rfl rfl (callV_fn z_en34 (frame_Room_ok hr5 τ1)) ?_
    rintro vτ6 τ6 gsτ6 hl7 ⟨rfl, rfl⟩
    obtain ⟨y8, u9, hy10, h⟩ := h
    refine st_call (foot := [g2]) rfl rfl rfl rfl rfl rfl (hY (s1.2, r4) s1.1 _ _ _ _ _ (hle.trans (hl1.trans hl7)) hy10 rfl (hIm _ _ _ _ hl7 hI3)) ?_
    rintro vτ11 τ11 gsτ11 hl12 ⟨rfl, g13, rfl, hI14⟩
    refine o_not rfl rfl rfl rfl ?_
    refine st_end ?_
    refine st_cond rfl (fun hc => ?_) (fun hc => ?_)
    · replace h := (if_pos hc).mp h
      obtain rfl := he1 _ h
      replace h := hA1
      obtain rfl := Eq.symm h
      cases hr0
      exact st_ret (gs' := [g13, []]) Tryd.func33 rfl (by simp) ((hl1.trans hl7).trans hl12) ⟨g13, _, rfl, hI14, rfl⟩
    · replace h := (if_neg (ne_t hc)).mp h
      refine st_skip ?_
      refine st_inBlock ?_
      refine st_region ?_
      refine o_move rfl rfl rfl rfl ?_
      refine o_ibin (v := .int .i64 (IntKind.i64.wrap (s1.2 + 1))) rfl rfl rfl rfl rfl rfl ?_
      refine o_assign rfl rfl rfl rfl ?_
      refine st_end ?_
      refine st_env (ρ' := [(0, y), (2, .int .i64 (IntKind.i64.wrap (s1.2 + 1)))]) ⟨rfl, rfl, trivial⟩ ?_
      exact hn1 _ _ _ _ h ⟨((hl1.trans hl7).trans hl12), g13, rfl, rfl, hI14⟩
  · replace h := (if_neg (ne_t hc)).mp h
    refine st_exit rfl ?_
    obtain rfl := he1 _ h
    replace h := hA1
    obtain rfl := Eq.symm h
    cases hr0
    exact st_fin (gs' := [g2, []]) Tryd.func33 rfl (by simp) hl1 ⟨g2, _, rfl, hI3, rfl⟩
theorem conf_Rooms_ok  {r : (((S : Type) → ((Int × Int) → S → Bool × S → Prop) → S → S × Unit → Prop))} (h : conf_Rooms r) (σ : Sto)  :
    Does Tryd.prog 10 [] σ [] (fun v τ gs => ∃ (f1 : Nat) (q2 : Array Value), gs = [] ∧ .func (.func f1) #[] q2 = v ∧ IterV Tryd.prog (fun _ x vx => vx = [.int .i64 x.1, .int .i64 x.2]) (.func (.func f1) #[] q2) τ [] (fun (_ : Unit) _ f => f = []) r) := by
  refine call_of Tryd.func10 Tryd.ntmps10 rfl rfl (fun cs fs => ?_)
  refine st_seq ?_
  refine st_region ?_
  refine o_assign rfl rfl rfl rfl ?_
  refine st_end ?_
  refine st_seq ?_
  refine st_region ?_
  refine o_assign rfl rfl rfl rfl ?_
  refine st_end ?_
  obtain rfl := Eq.symm h
  exact st_ret (gs' := []) Tryd.func10 rfl (List.Sublist.refl _) (Sto.Le.refl _) ⟨_, _, rfl, rfl, (conf_Rooms_1_ok )⟩
theorem conf_CheckSender_ok {a0 : Int × Int × Int} {r : Int} (h : conf_CheckSender a0 r) (σ : Sto)  :
    Does Tryd.prog 65 [.agg [.int .i64 a0.1, .int .i64 a0.2.1, .int .u32 a0.2.2].toArray] σ [] (fun v τ gs => gs = [] ∧ .int .i64 r = v) := by
  refine call_of Tryd.func65 Tryd.ntmps65 rfl rfl (fun cs fs => ?_)
  refine st_seq ?_
  refine st_region ?_
  refine o_box (cs := [.int .i64 a0.1, .int .i64 a0.2.1, .int .u32 a0.2.2]) rfl rfl rfl rfl rfl (fun b1 => ?_)
  refine o_assign rfl rfl rfl rfl ?_
  refine st_end ?_
  refine st_seq ?_
  refine st_block ?_
  refine st_seq ?_
  refine st_cut (fun ρ τ2 gs => ∃ (s2 : Bool), conf_CheckSender_j1 a0 s2 r ∧ σ.Le τ2 ∧ ρ = [(1, .pointer (some ⟨b1, 0, none⟩)), (2, .int .i64 0), (3, .bool s2)] ∧ gs = [[(b1, .cells [.int .i64 a0.1, .int .i64 a0.2.1, .int .u32 a0.2.2].toArray 66 (0, 0))]]) ?_ (fun hk2 => ?_)
  · rintro ρ2 τ2 gs2 ⟨s2, h, hl2, rfl, rfl⟩
    refine st_cond rfl (fun hc => ?_) (fun hc => ?_)
    · replace h := (if_pos hc).mp h
      refine st_seq ?_
      refine st_region ?_
      refine o_assign rfl rfl rfl rfl ?_
      refine st_end ?_
      refine st_ord [] [] rfl ?_
      obtain rfl := Eq.symm h
      exact st_ret (gs' := []) Tryd.func65 rfl (List.Sublist.refl _) hl2 ⟨rfl, rfl⟩
    · replace h := (if_neg (ne_t hc)).mp h
      refine st_seq ?_
      refine st_cut (fun ρ τ3 gs => ∃ (s3 : Bool), conf_CheckSender_j2 s3 r ∧ τ2.Le τ3 ∧ ρ = [(2, .int .i64 0), (12, .bool s3)] ∧ gs = []) ?_ (fun hk3 => ?_)
      · rintro ρ3 τ3 gs3 ⟨s3, h, hl3, rfl, rfl⟩
        refine st_cond rfl (fun hc => ?_) (fun hc => ?_)
        · replace h := (if_pos hc).mp h
          refine st_seq ?_
          refine st_region ?_
          refine o_assign rfl rfl rfl rfl ?_
          refine st_end ?_
          obtain rfl := Eq.symm h
          exact st_ret (gs' := []) Tryd.func65 rfl (List.Sublist.refl _) (hl2.trans hl3) ⟨rfl, rfl⟩
        · replace h := (if_neg (ne_t hc)).mp h
          refine st_skip ?_
          refine st_inBlock ?_
          refine st_seq ?_
          refine st_region ?_
          refine o_assign rfl rfl rfl rfl ?_
          refine st_end ?_
          obtain rfl := Eq.symm h
          exact st_ret (gs' := []) Tryd.func65 rfl (List.Sublist.refl _) (hl2.trans hl3) ⟨rfl, rfl⟩
      refine st_region ?_
      refine o_fieldAddr rfl rfl rfl z_field66_1 rfl ?_
      refine o_load (j := 0) (v := .int .i64 a0.2.1) rfl rfl rfl z_sc3 rfl rfl rfl ?_
      refine o_ibin (v := .bool (decide (a0.2.1 < 16))) rfl rfl rfl rfl rfl rfl ?_
      refine o_moveB rfl rfl rfl rfl (fun hc => ?_) (fun hc => ?_)
      · replace h := (if_pos hc).mp h
        refine st_pass rfl rfl rfl rfl rfl rfl ?_
        refine st_pass rfl rfl rfl rfl rfl rfl ?_
        refine st_pass rfl rfl rfl rfl rfl rfl ?_
        refine o_pick rfl rfl rfl rfl rfl ?_
        refine o_assign rfl rfl rfl rfl ?_
        refine st_end ?_
        refine st_env (ρ' := [(2, .int .i64 0), (12, .bool true)]) ⟨rfl, rfl, trivial⟩ ?_
        refine st_ord [] [] rfl ?_
        exact hk3 _ _ _ ⟨true, h, (Sto.Le.refl _), rfl, rfl⟩
      · replace h := (if_neg (ne_t hc)).mp h
        refine o_fieldAddr rfl rfl rfl z_field66_1 rfl ?_
        refine o_load (j := 0) (v := .int .i64 a0.2.1) rfl rfl rfl z_sc3 rfl rfl rfl ?_
        refine o_ibin (v := .bool (decide (257 < a0.2.1))) rfl rfl rfl rfl rfl rfl ?_
        refine o_pick rfl rfl rfl rfl rfl ?_
        refine o_assign rfl rfl rfl rfl ?_
        refine st_end ?_
        refine st_env (ρ' := [(2, .int .i64 0), (12, .bool (decide (257 < a0.2.1)))]) ⟨rfl, rfl, trivial⟩ ?_
        refine st_ord [] [] rfl ?_
        exact hk3 _ _ _ ⟨(decide (257 < a0.2.1)), h, (Sto.Le.refl _), rfl, rfl⟩
  refine st_region ?_
  refine o_fieldAddr rfl rfl rfl z_field66_0 rfl ?_
  refine o_load (j := 0) (v := .int .i64 a0.1) rfl rfl rfl z_sc3 rfl rfl rfl ?_
  refine o_ibin (v := .bool (!(decide (a0.1 = 1)))) rfl rfl rfl rfl rfl rfl ?_
  refine o_moveB rfl rfl rfl rfl (fun hc => ?_) (fun hc => ?_)
  · replace h := (if_pos hc).mp h
    refine o_fieldAddr rfl rfl rfl z_field66_0 rfl ?_
    refine o_load (j := 0) (v := .int .i64 a0.1) rfl rfl rfl z_sc3 rfl rfl rfl ?_
    refine o_ibin (v := .bool (!(decide (a0.1 = 2)))) rfl rfl rfl rfl rfl rfl ?_
    refine o_pick rfl rfl rfl rfl rfl ?_
    refine o_assign rfl rfl rfl rfl ?_
    refine st_end ?_
    refine st_env (ρ' := [(1, .pointer (some ⟨b1, 0, none⟩)), (2, .int .i64 0), (3, .bool (!(decide (a0.1 = 2))))]) ⟨rfl, rfl, rfl, trivial⟩ ?_
    exact hk2 _ _ _ ⟨(!(decide (a0.1 = 2))), h, (Sto.Le.refl _), rfl, rfl⟩
  · replace h := (if_neg (ne_t hc)).mp h
    refine st_pass rfl rfl rfl rfl rfl rfl ?_
    refine st_pass rfl rfl rfl rfl rfl rfl ?_
    refine st_pass rfl rfl rfl rfl rfl rfl ?_
    refine o_pick rfl rfl rfl rfl rfl ?_
    refine o_assign rfl rfl rfl rfl ?_
    refine st_end ?_
    refine st_env (ρ' := [(1, .pointer (some ⟨b1, 0, none⟩)), (2, .int .i64 0), (3, .bool false)]) ⟨rfl, rfl, rfl, trivial⟩ ?_
    exact hk2 _ _ _ ⟨false, h, (Sto.Le.refl _), rfl, rfl⟩
theorem conf_CheckReceiver_ok {a0 : Int × Int} {r : Int} (h : conf_CheckReceiver a0 r) (σ : Sto)  :
    Does Tryd.prog 66 [.agg [.int .u32 a0.1, .int .i64 a0.2].toArray] σ [] (fun v τ gs => gs = [] ∧ .int .i64 r = v) := by
  refine call_of Tryd.func66 Tryd.ntmps66 rfl rfl (fun cs fs => ?_)
  refine st_seq ?_
  refine st_region ?_
  refine o_box (cs := [.int .u32 a0.1, .int .i64 a0.2]) rfl rfl rfl rfl rfl (fun b1 => ?_)
  refine o_assign rfl rfl rfl rfl ?_
  refine st_end ?_
  refine st_seq ?_
  refine st_seq ?_
  refine st_cut (fun ρ τ2 gs => ∃ (s2 : Bool), conf_CheckReceiver_j1 s2 r ∧ σ.Le τ2 ∧ ρ = [(2, .int .i64 0), (10, .bool s2)] ∧ gs = []) ?_ (fun hk2 => ?_)
  · rintro ρ2 τ2 gs2 ⟨s2, h, hl2, rfl, rfl⟩
    refine st_cond rfl (fun hc => ?_) (fun hc => ?_)
    · replace h := (if_pos hc).mp h
      refine st_seq ?_
      refine st_region ?_
      refine o_assign rfl rfl rfl rfl ?_
      refine st_end ?_
      obtain rfl := Eq.symm h
      exact st_ret (gs' := []) Tryd.func66 rfl (List.Sublist.refl _) hl2 ⟨rfl, rfl⟩
    · replace h := (if_neg (ne_t hc)).mp h
      refine st_skip ?_
      refine st_seq ?_
      refine st_region ?_
      refine o_assign rfl rfl rfl rfl ?_
      refine st_end ?_
      obtain rfl := Eq.symm h
      exact st_ret (gs' := []) Tryd.func66 rfl (List.Sublist.refl _) hl2 ⟨rfl, rfl⟩
  refine st_region ?_
  refine o_fieldAddr rfl rfl rfl z_field69_1 rfl ?_
  refine o_load (j := 0) (v := .int .i64 a0.2) rfl rfl rfl z_sc3 rfl rfl rfl ?_
  refine o_ibin (v := .bool (decide (a0.2 < 1))) rfl rfl rfl rfl rfl rfl ?_
  refine o_moveB rfl rfl rfl rfl (fun hc => ?_) (fun hc => ?_)
  · replace h := (if_pos hc).mp h
    refine st_pass rfl rfl rfl rfl rfl rfl ?_
    refine st_pass rfl rfl rfl rfl rfl rfl ?_
    refine st_pass rfl rfl rfl rfl rfl rfl ?_
    refine o_pick rfl rfl rfl rfl rfl ?_
    refine st_end ?_
    refine st_env (ρ' := [(2, .int .i64 0), (10, .bool true)]) ⟨rfl, rfl, trivial⟩ ?_
    refine st_ord [] [] rfl ?_
    exact hk2 _ _ _ ⟨true, h, (Sto.Le.refl _), rfl, rfl⟩
  · replace h := (if_neg (ne_t hc)).mp h
    refine o_fieldAddr rfl rfl rfl z_field69_1 rfl ?_
    refine o_load (j := 0) (v := .int .i64 a0.2) rfl rfl rfl z_sc3 rfl rfl rfl ?_
    refine o_ibin (v := .bool (decide (16 < a0.2))) rfl rfl rfl rfl rfl rfl ?_
    refine o_pick rfl rfl rfl rfl rfl ?_
    refine st_end ?_
    refine st_env (ρ' := [(2, .int .i64 0), (10, .bool (decide (16 < a0.2)))]) ⟨rfl, rfl, trivial⟩ ?_
    refine st_ord [] [] rfl ?_
    exact hk2 _ _ _ ⟨(decide (16 < a0.2)), h, (Sto.Le.refl _), rfl, rfl⟩
theorem say_Number_ok {a0 : Int} {r : ByteArray} (h : say_Number a0 r) (σ : Sto)  :
    Does Tryd.prog 63 [.int .i64 a0] σ [] (fun v τ gs => gs = [] ∧ .string r = v) := by
  refine call_of Tryd.func63 Tryd.ntmps63 rfl rfl (fun cs fs => ?_)
  refine st_seq ?_
  refine st_region ?_
  refine o_assign rfl rfl rfl (ev_str z_str0) ?_
  refine st_end ?_
  refine st_seq ?_
  refine st_region ?_
  refine o_move rfl rfl rfl rfl ?_
  obtain ⟨r1, hr2, h⟩ := h
  refine st_call (foot := []) rfl rfl rfl rfl rfl rfl (callV_fn z_en43 (strconv_Itoa_ok hr2 σ)) ?_
  rintro vτ3 τ3 gsτ3 hl4 ⟨rfl, rfl⟩
  refine o_assign rfl rfl rfl rfl ?_
  refine st_end ?_
  obtain rfl := Eq.symm h
  exact st_ret (gs' := []) Tryd.func63 rfl (List.Sublist.refl _) hl4 ⟨rfl, rfl⟩
theorem conf_Line_ok {a0 : Int × Int × Int} {a1 : Int × Int} {r : ByteArray} (h : conf_Line a0 a1 r) (σ : Sto)  :
    Does Tryd.prog 35 [.agg [.int .i64 a0.1, .int .i64 a0.2.1, .int .u32 a0.2.2].toArray, .agg [.int .u32 a1.1, .int .i64 a1.2].toArray] σ [] (fun v τ gs => gs = [] ∧ .string r = v) := by
  refine call_of Tryd.func35 Tryd.ntmps35 rfl rfl (fun cs fs => ?_)
  refine st_seq ?_
  refine st_region ?_
  refine o_box (cs := [.int .i64 a0.1, .int .i64 a0.2.1, .int .u32 a0.2.2]) rfl rfl rfl rfl rfl (fun b1 => ?_)
  refine o_box (cs := [.int .u32 a1.1, .int .i64 a1.2]) rfl rfl rfl rfl rfl (fun b2 => ?_)
  refine o_assign rfl rfl rfl (ev_str z_str0) ?_
  refine st_end ?_
  refine st_seq ?_
  refine st_seq ?_
  refine st_cut (fun ρ τ3 gs => ∃ (s3 : Bool), conf_Line_j1 a0 a1 s3 r ∧ σ.Le τ3 ∧ ρ = [(2, .pointer (some ⟨b1, 0, none⟩)), (3, .pointer (some ⟨b2, 0, none⟩)), (4, .string (bstr [])), (15, .bool s3)] ∧ gs = [[(b1, .cells [.int .i64 a0.1, .int .i64 a0.2.1, .int .u32 a0.2.2].toArray 66 (0, 0))], [(b2, .cells [.int .u32 a1.1, .int .i64 a1.2].toArray 69 (0, 0))]]) ?_ (fun hk3 => ?_)
  · rintro ρ3 τ3 gs3 ⟨s3, h, hl3, rfl, rfl⟩
    refine st_cond rfl (fun hc => ?_) (fun hc => ?_)
    · replace h := (if_pos hc).mp h
      refine st_seq ?_
      refine st_region ?_
      refine o_assign rfl rfl rfl (ev_str z_str0) ?_
      refine st_end ?_
      refine st_ord [] [] rfl ?_
      obtain rfl := Eq.symm h
      exact st_ret (gs' := []) Tryd.func35 rfl (List.Sublist.refl _) hl3 ⟨rfl, rfl⟩
    · replace h := (if_neg (ne_t hc)).mp h
      refine st_skip ?_
      refine st_seq ?_
      refine st_region ?_
      refine o_assign rfl rfl rfl (ev_str z_str9) ?_
      refine st_end ?_
      refine st_seq ?_
      refine st_cut (fun ρ τ4 gs => ∃ (s4 : ByteArray), conf_Line_j2 s4 r ∧ τ3.Le τ4 ∧ ρ = [(4, .string (bstr [])), (5, .string s4)] ∧ gs = []) ?_ (fun hk4 => ?_)
      · rintro ρ4 τ4 gs4 ⟨s4, h, hl4, rfl, rfl⟩
        refine st_seq ?_
        refine st_region ?_
        refine o_move rfl rfl rfl rfl ?_
        refine o_assign rfl rfl rfl rfl ?_
        refine st_end ?_
        obtain rfl := Eq.symm h
        exact st_ret (gs' := []) Tryd.func35 rfl (List.Sublist.refl _) (hl3.trans hl4) ⟨rfl, rfl⟩
      refine st_seq ?_
      refine st_region ?_
      refine o_fieldAddr rfl rfl rfl z_field66_0 rfl ?_
      refine o_load (j := 0) (v := .int .i64 a0.1) rfl rfl rfl z_sc3 rfl rfl rfl ?_
      refine o_fieldAddr rfl rfl rfl z_field66_1 rfl ?_
      refine o_load (j := 0) (v := .int .i64 a0.2.1) rfl rfl rfl z_sc3 rfl rfl rfl ?_
      refine o_fieldAddr rfl rfl rfl z_field66_2 rfl ?_
      refine o_load (j := 0) (v := .int .u32 a0.2.2) rfl rfl rfl z_sc22 rfl rfl rfl ?_
      refine o_conv rfl rfl rfl Tryd.underlying22 Tryd.underlying3 rfl ?_
      refine o_fieldAddr rfl rfl rfl z_field69_0 rfl ?_
      refine o_load (j := 1) (v := .int .u32 a1.1) rfl rfl rfl z_sc22 rfl rfl rfl ?_
      refine o_conv rfl rfl rfl Tryd.underlying22 Tryd.underlying3 rfl ?_
      refine o_fieldAddr rfl rfl rfl z_field69_1 rfl ?_
      refine o_load (j := 1) (v := .int .i64 a1.2) rfl rfl rfl z_sc3 rfl rfl rfl ?_
      refine o_buildA (ps := [(0, [.int .i64 a0.1]), (1, [.int .i64 a0.2.1]), (2, [.int .i64 (IntKind.i64.wrap a0.2.2)]), (3, [.int .i64 (IntKind.i64.wrap a1.1)]), (4, [.int .i64 a1.2])]) (cs := [.int .i64 a0.1, .int .i64 a0.2.1, .int .i64 (IntKind.i64.wrap a0.2.2), .int .i64 (IntKind.i64.wrap a1.1), .int .i64 a1.2]) rfl rfl rfl z_arrz108 ⟨rfl, ⟨_, rfl, rfl⟩, ⟨rfl, ⟨_, rfl, rfl⟩, ⟨rfl, ⟨_, rfl, rfl⟩, ⟨rfl, ⟨_, rfl, rfl⟩, ⟨rfl, ⟨_, rfl, rfl⟩, trivial⟩⟩⟩⟩⟩ (fill_all [.int .i64 a0.1, .int .i64 a0.2.1, .int .i64 (IntKind.i64.wrap a0.2.2), .int .i64 (IntKind.i64.wrap a1.1), .int .i64 a1.2] _ rfl) ?_
      refine o_move rfl rfl rfl rfl ?_
      refine st_end ?_
      obtain ⟨e5, hL5, hA5⟩ := h
      refine st_env (ρ' := [(4, .string (bstr [])), (5, .string (bstr [108, 105, 110, 107])), (28, .agg [.int .i64 a0.1, .int .i64 a0.2.1, .int .i64 (IntKind.i64.wrap a0.2.2), .int .i64 (IntKind.i64.wrap a1.1), .int .i64 a1.2].toArray), (29, .int .i64 0)]) ⟨rfl, rfl, rfl, rfl, trivial⟩ ?_
      refine st_ord [] [] rfl ?_
      refine st_loop hL5 (fun (s5 : ByteArray × Int) ρ τ5 gs => τ3.Le τ5 ∧ ρ = [(4, .string (bstr [])), (5, .string s5.1), (28, .agg [.int .i64 a0.1, .int .i64 a0.2.1, .int .i64 (IntKind.i64.wrap a0.2.2), .int .i64 (IntKind.i64.wrap a1.1), .int .i64 a1.2].toArray), (29, .int .i64 s5.2)] ∧ gs = []) ⟨Sto.Le.refl _, rfl, rfl⟩ ?_
      rintro s5 o5 h he5 ρ5 τ5 gs5 ⟨hl5, rfl, rfl⟩ hn5
      refine st_seq ?_
      refine st_region ?_
      refine o_ibin (v := .bool (decide (s5.2 < 5))) rfl rfl rfl rfl rfl rfl ?_
      refine st_end ?_
      refine st_seq ?_
      refine st_cond rfl (fun hc => ?_) (fun hc => ?_)
      · replace h := (if_pos hc).mp h
        refine st_skip ?_
        refine st_seq ?_
        refine st_block ?_
        refine st_seq ?_
        refine st_region ?_
        obtain ⟨hf6, h⟩ := h
        obtain ⟨hf7, h⟩ := h
        refine o_indexV (f := (Value.int .i64)) (zz := 0) (l := 5) (xs := [a0.1, a0.2.1, (IntKind.i64.wrap a0.2.2), (IntKind.i64.wrap a1.1), a1.2]) (cs := [.int .i64 a0.1, .int .i64 a0.2.1, .int .i64 (IntKind.i64.wrap a0.2.2), .int .i64 (IntKind.i64.wrap a1.1), .int .i64 a1.2]) rfl rfl rfl z_arr108 z_sc3 rfl rfl rfl hf6 hf7 ?_
        refine o_assign rfl rfl rfl rfl ?_
        refine st_end ?_
        refine st_region ?_
        refine o_move rfl rfl rfl rfl ?_
        refine o_move rfl rfl rfl rfl ?_
        obtain ⟨r8, hr9, h⟩ := h
        refine st_call (foot := []) rfl rfl rfl rfl rfl rfl (callV_fn z_en63 (say_Number_ok hr9 τ5)) ?_
        rintro vτ10 τ10 gsτ10 hl11 ⟨rfl, rfl⟩
        obtain ⟨hf12, h⟩ := h
        refine o_sadd rfl rfl rfl (ev_str z_str6) rfl hf12 ?_
        obtain ⟨hf13, h⟩ := h
        refine o_sadd rfl rfl rfl rfl rfl hf13 ?_
        refine o_assign rfl rfl rfl rfl ?_
        refine st_end ?_
        refine st_inBlock ?_
        refine st_region ?_
        refine o_ibin (v := .int .i64 (IntKind.i64.wrap (s5.2 + 1))) rfl rfl rfl rfl rfl rfl ?_
        refine o_move rfl rfl rfl rfl ?_
        refine st_end ?_
        refine st_env (ρ' := [(4, .string (bstr [])), (5, .string (s5.1 ++ ((bstr [32]) ++ r8))), (28, .agg [.int .i64 a0.1, .int .i64 a0.2.1, .int .i64 (IntKind.i64.wrap a0.2.2), .int .i64 (IntKind.i64.wrap a1.1), .int .i64 a1.2].toArray), (29, .int .i64 (IntKind.i64.wrap (s5.2 + 1)))]) ⟨rfl, rfl, rfl, rfl, trivial⟩ ?_
        exact hn5 _ _ _ _ h ⟨(hl5.trans hl11), rfl, rfl⟩
      · replace h := (if_neg (ne_t hc)).mp h
        refine st_exit rfl ?_
        obtain rfl := he5 _ h
        replace h := hA5
        refine st_env (ρ' := [(4, .string (bstr [])), (5, .string s5.1)]) ⟨rfl, rfl, trivial⟩ ?_
        exact hk4 _ _ _ ⟨s5.1, h, hl5, rfl, rfl⟩
  refine st_region ?_
  refine o_loadN (j := 1) (vs := [.int .i64 a0.1, .int .i64 a0.2.1, .int .u32 a0.2.2]) rfl rfl rfl z_agg66 rfl rfl rfl ?_
  obtain ⟨r15, hr16, h⟩ := h
  refine st_call (foot := []) rfl rfl rfl rfl rfl rfl (callV_fn z_en65 (conf_CheckSender_ok hr16 σ)) ?_
  rintro vτ17 τ17 gsτ17 hl18 ⟨rfl, rfl⟩
  refine o_ibin (v := .bool (!(decide (r15 = 0)))) rfl rfl rfl rfl rfl rfl ?_
  refine o_moveB rfl rfl rfl rfl (fun hc => ?_) (fun hc => ?_)
  · replace h := (if_pos hc).mp h
    refine st_pass rfl rfl rfl rfl rfl rfl ?_
    refine st_pass rfl rfl rfl rfl rfl rfl ?_
    refine st_pass rfl rfl rfl rfl rfl rfl ?_
    refine o_pick rfl rfl rfl rfl rfl ?_
    refine st_end ?_
    refine st_env (ρ' := [(2, .pointer (some ⟨b1, 0, none⟩)), (3, .pointer (some ⟨b2, 0, none⟩)), (4, .string (bstr [])), (15, .bool true)]) ⟨rfl, rfl, rfl, rfl, trivial⟩ ?_
    refine st_ord [1, 0] [[(b1, .cells [.int .i64 a0.1, .int .i64 a0.2.1, .int .u32 a0.2.2].toArray 66 (0, 0))], [(b2, .cells [.int .u32 a1.1, .int .i64 a1.2].toArray 69 (0, 0))]] rfl ?_
    exact hk3 _ _ _ ⟨true, h, hl18, rfl, rfl⟩
  · replace h := (if_neg (ne_t hc)).mp h
    refine o_loadN (j := 0) (vs := [.int .u32 a1.1, .int .i64 a1.2]) rfl rfl rfl z_agg69 rfl rfl rfl ?_
    obtain ⟨r19, hr20, h⟩ := h
    refine st_call (foot := []) rfl rfl rfl rfl rfl rfl (callV_fn z_en66 (conf_CheckReceiver_ok hr20 τ17)) ?_
    rintro vτ21 τ21 gsτ21 hl22 ⟨rfl, rfl⟩
    refine o_ibin (v := .bool (!(decide (r19 = 0)))) rfl rfl rfl rfl rfl rfl ?_
    refine o_pick rfl rfl rfl rfl rfl ?_
    refine st_end ?_
    refine st_env (ρ' := [(2, .pointer (some ⟨b1, 0, none⟩)), (3, .pointer (some ⟨b2, 0, none⟩)), (4, .string (bstr [])), (15, .bool (!(decide (r19 = 0))))]) ⟨rfl, rfl, rfl, rfl, trivial⟩ ?_
    refine st_ord [1, 0] [[(b1, .cells [.int .i64 a0.1, .int .i64 a0.2.1, .int .u32 a0.2.2].toArray 66 (0, 0))], [(b2, .cells [.int .u32 a1.1, .int .i64 a1.2].toArray 69 (0, 0))]] rfl ?_
    exact hk3 _ _ _ ⟨(!(decide (r19 = 0))), h, (hl18.trans hl22), rfl, rfl⟩
theorem conf_Room_ok {a0 : Int × Int × Int} {r : Int} (h : conf_Room a0 r) (σ : Sto)  :
    Does Tryd.prog 36 [.agg [.int .i64 a0.1, .int .i64 a0.2.1, .int .u32 a0.2.2].toArray] σ [] (fun v τ gs => gs = [] ∧ .int .i64 r = v) := by
  refine call_of Tryd.func36 Tryd.ntmps36 rfl rfl (fun cs fs => ?_)
  refine st_seq ?_
  refine st_region ?_
  refine o_box (cs := [.int .i64 a0.1, .int .i64 a0.2.1, .int .u32 a0.2.2]) rfl rfl rfl rfl rfl (fun b1 => ?_)
  refine o_assign rfl rfl rfl rfl ?_
  refine st_end ?_
  refine st_seq ?_
  refine st_seq ?_
  refine st_region ?_
  refine o_loadN (j := 0) (vs := [.int .i64 a0.1, .int .i64 a0.2.1, .int .u32 a0.2.2]) rfl rfl rfl z_agg66 rfl rfl rfl ?_
  obtain ⟨r2, hr3, h⟩ := h
  refine st_call (foot := []) rfl rfl rfl rfl rfl rfl (callV_fn z_en65 (conf_CheckSender_ok hr3 σ)) ?_
  rintro vτ4 τ4 gsτ4 hl5 ⟨rfl, rfl⟩
  refine o_ibin (v := .bool (!(decide (r2 = 0)))) rfl rfl rfl rfl rfl rfl ?_
  refine st_end ?_
  refine st_cond rfl (fun hc => ?_) (fun hc => ?_)
  · replace h := (if_pos hc).mp h
    refine st_seq ?_
    refine st_region ?_
    refine o_assign rfl rfl rfl rfl ?_
    refine st_end ?_
    refine st_ord [] [] rfl ?_
    obtain rfl := Eq.symm h
    exact st_ret (gs' := []) Tryd.func36 rfl (List.Sublist.refl _) hl5 ⟨rfl, rfl⟩
  · replace h := (if_neg (ne_t hc)).mp h
    refine st_skip ?_
    refine st_seq ?_
    refine st_region ?_
    refine o_fieldAddr rfl rfl rfl z_field66_1 rfl ?_
    refine o_load (j := 0) (v := .int .i64 a0.2.1) rfl rfl rfl z_sc3 rfl rfl rfl ?_
    obtain ⟨r6, hr7, h⟩ := h
    refine st_call (foot := []) rfl rfl rfl rfl rfl rfl (callV_fn z_en34 (frame_Room_ok hr7 τ4)) ?_
    rintro vτ8 τ8 gsτ8 hl9 ⟨rfl, rfl⟩
    refine o_assign rfl rfl rfl rfl ?_
    refine st_end ?_
    refine st_ord [] [] rfl ?_
    obtain rfl := Eq.symm h
    exact st_ret (gs' := []) Tryd.func36 rfl (List.Sublist.refl _) (hl5.trans hl9) ⟨rfl, rfl⟩
theorem cut_Count_ok {a0 : Int} {a1 : Int} {r : Int} (h : cut_Count a0 a1 r) (σ : Sto)  :
    Does Tryd.prog 67 [.int .i64 a0, .int .i64 a1] σ [] (fun v τ gs => gs = [] ∧ .int .i64 r = v) := by
  refine call_of Tryd.func67 Tryd.ntmps67 rfl rfl (fun cs fs => ?_)
  refine st_seq ?_
  refine st_region ?_
  refine o_assign rfl rfl rfl rfl ?_
  refine st_end ?_
  refine st_seq ?_
  refine st_block ?_
  refine st_seq ?_
  refine st_region ?_
  refine o_move rfl rfl rfl rfl ?_
  refine o_ibin (v := .bool (decide (a1 < 1))) rfl rfl rfl rfl rfl rfl ?_
  refine o_assign rfl rfl rfl rfl ?_
  refine st_end ?_
  refine st_cond rfl (fun hc => ?_) (fun hc => ?_)
  · replace h := (if_pos hc).mp h
    refine st_seq ?_
    refine st_region ?_
    refine o_assign rfl rfl rfl rfl ?_
    refine st_end ?_
    obtain rfl := Eq.symm h
    exact st_ret (gs' := []) Tryd.func67 rfl (List.Sublist.refl _) (Sto.Le.refl _) ⟨rfl, rfl⟩
  · replace h := (if_neg (ne_t hc)).mp h
    refine st_seq ?_
    refine st_region ?_
    refine o_move rfl rfl rfl rfl ?_
    refine o_ibin (v := .bool (decide (a0 < 1))) rfl rfl rfl rfl rfl rfl ?_
    refine o_assign rfl rfl rfl rfl ?_
    refine st_end ?_
    refine st_cond rfl (fun hc => ?_) (fun hc => ?_)
    · replace h := (if_pos hc).mp h
      refine st_seq ?_
      refine st_region ?_
      refine o_assign rfl rfl rfl rfl ?_
      refine st_end ?_
      obtain rfl := Eq.symm h
      exact st_ret (gs' := []) Tryd.func67 rfl (List.Sublist.refl _) (Sto.Le.refl _) ⟨rfl, rfl⟩
    · replace h := (if_neg (ne_t hc)).mp h
      refine st_skip ?_
      refine st_inBlock ?_
      refine st_seq ?_
      refine st_region ?_
      refine o_move rfl rfl rfl rfl ?_
      refine o_ibin (v := .int .i64 (IntKind.i64.wrap (a0 - 1))) rfl rfl rfl rfl rfl rfl ?_
      refine o_move rfl rfl rfl rfl ?_
      obtain ⟨hf1, h⟩ := h
      refine o_quo rfl rfl rfl rfl rfl hf1 ?_
      refine o_ibin (v := .int .i64 (IntKind.i64.wrap ((IntKind.i64.wrap ((IntKind.i64.wrap (a0 - 1)).tdiv a1)) + 1))) rfl rfl rfl rfl rfl rfl ?_
      refine o_assign rfl rfl rfl rfl ?_
      refine st_end ?_
      obtain rfl := Eq.symm h
      exact st_ret (gs' := []) Tryd.func67 rfl (List.Sublist.refl _) (Sto.Le.refl _) ⟨rfl, rfl⟩
theorem conf_Frames_ok {a0 : Int × Int × Int} {a1 : Int} {r : Int} (h : conf_Frames a0 a1 r) (σ : Sto)  :
    Does Tryd.prog 37 [.agg [.int .i64 a0.1, .int .i64 a0.2.1, .int .u32 a0.2.2].toArray, .int .i64 a1] σ [] (fun v τ gs => gs = [] ∧ .int .i64 r = v) := by
  refine call_of Tryd.func37 Tryd.ntmps37 rfl rfl (fun cs fs => ?_)
  refine st_seq ?_
  refine st_region ?_
  refine o_box (cs := [.int .i64 a0.1, .int .i64 a0.2.1, .int .u32 a0.2.2]) rfl rfl rfl rfl rfl (fun b1 => ?_)
  refine o_assign rfl rfl rfl rfl ?_
  refine st_end ?_
  refine st_seq ?_
  refine st_seq ?_
  refine st_cut (fun ρ τ2 gs => ∃ (s2 : Bool), conf_Frames_j1 a0 a1 s2 r ∧ σ.Le τ2 ∧ ρ = [(1, .int .i64 a1), (2, .pointer (some ⟨b1, 0, none⟩)), (4, .int .i64 0), (10, .bool s2)] ∧ gs = [[(b1, .cells [.int .i64 a0.1, .int .i64 a0.2.1, .int .u32 a0.2.2].toArray 66 (0, 0))]]) ?_ (fun hk2 => ?_)
  · rintro ρ2 τ2 gs2 ⟨s2, h, hl2, rfl, rfl⟩
    refine st_cond rfl (fun hc => ?_) (fun hc => ?_)
    · replace h := (if_pos hc).mp h
      refine st_seq ?_
      refine st_region ?_
      refine o_assign rfl rfl rfl rfl ?_
      refine st_end ?_
      refine st_ord [] [] rfl ?_
      obtain rfl := Eq.symm h
      exact st_ret (gs' := []) Tryd.func37 rfl (List.Sublist.refl _) hl2 ⟨rfl, rfl⟩
    · replace h := (if_neg (ne_t hc)).mp h
      refine st_skip ?_
      refine st_seq ?_
      refine st_region ?_
      refine o_move rfl rfl rfl rfl ?_
      refine o_loadN (j := 0) (vs := [.int .i64 a0.1, .int .i64 a0.2.1, .int .u32 a0.2.2]) rfl rfl rfl z_agg66 rfl rfl rfl ?_
      obtain ⟨r3, hr4, h⟩ := h
      refine st_call (foot := []) rfl rfl rfl rfl rfl rfl (callV_fn z_en36 (conf_Room_ok hr4 τ2)) ?_
      rintro vτ5 τ5 gsτ5 hl6 ⟨rfl, rfl⟩
      obtain ⟨r7, hr8, h⟩ := h
      refine st_call (foot := []) rfl rfl rfl rfl rfl rfl (callV_fn z_en67 (cut_Count_ok hr8 τ5)) ?_
      rintro vτ9 τ9 gsτ9 hl10 ⟨rfl, rfl⟩
      refine o_assign rfl rfl rfl rfl ?_
      refine st_end ?_
      refine st_ord [] [] rfl ?_
      obtain rfl := Eq.symm h
      exact st_ret (gs' := []) Tryd.func37 rfl (List.Sublist.refl _) ((hl2.trans hl6).trans hl10) ⟨rfl, rfl⟩
  refine st_region ?_
  refine o_move rfl rfl rfl rfl ?_
  refine o_ibin (v := .bool (decide (a1 < 1))) rfl rfl rfl rfl rfl rfl ?_
  refine o_moveB rfl rfl rfl rfl (fun hc => ?_) (fun hc => ?_)
  · replace h := (if_pos hc).mp h
    refine st_pass rfl rfl rfl rfl rfl rfl ?_
    refine st_pass rfl rfl rfl rfl rfl rfl ?_
    refine o_pick rfl rfl rfl rfl rfl ?_
    refine st_end ?_
    refine st_env (ρ' := [(1, .int .i64 a1), (2, .pointer (some ⟨b1, 0, none⟩)), (4, .int .i64 0), (10, .bool true)]) ⟨rfl, rfl, rfl, rfl, trivial⟩ ?_
    exact hk2 _ _ _ ⟨true, h, (Sto.Le.refl _), rfl, rfl⟩
  · replace h := (if_neg (ne_t hc)).mp h
    refine o_move rfl rfl rfl rfl ?_
    refine o_ibin (v := .bool (decide (192 < a1))) rfl rfl rfl rfl rfl rfl ?_
    refine o_pick rfl rfl rfl rfl rfl ?_
    refine st_end ?_
    refine st_env (ρ' := [(1, .int .i64 a1), (2, .pointer (some ⟨b1, 0, none⟩)), (4, .int .i64 0), (10, .bool (decide (192 < a1)))]) ⟨rfl, rfl, rfl, rfl, trivial⟩ ?_
    exact hk2 _ _ _ ⟨(decide (192 < a1)), h, (Sto.Le.refl _), rfl, rfl⟩
theorem law21_known_ok  {r : Bool} (h : law21_known r) (σ : Sto)  :
    Does Tryd.prog 11 [] σ [] (fun v τ gs => gs = [] ∧ .bool r = v) := by
  refine call_of Tryd.func11 Tryd.ntmps11 rfl rfl (fun cs fs => ?_)
  refine st_seq ?_
  refine st_region ?_
  refine o_assign rfl rfl rfl rfl ?_
  refine st_end ?_
  refine st_seq ?_
  refine st_region ?_
  refine o_build (ps := [(0, [.int .i64 2]), (1, [.int .i64 64]), (2, [.int .u32 10])]) (cs := [.int .i64 2, .int .i64 64, .int .u32 10]) rfl rfl rfl z_struct66 ⟨rfl, ⟨_, rfl, rfl⟩, ⟨rfl, ⟨_, rfl, rfl⟩, ⟨rfl, ⟨_, rfl, rfl⟩, trivial⟩⟩⟩ rfl ?_
  refine o_alloc rfl rfl rfl z_zero66 (fun b1 => ?_)
  refine o_store (j := 0) (vs := [.int .i64 2, .int .i64 64, .int .u32 10]) (cs' := [.int .i64 2, .int .i64 64, .int .u32 10]) rfl rfl rfl z_size66 rfl rfl rfl (ones_cons rfl (ones_cons rfl (ones_cons rfl ones_nil))) rfl rfl rfl ?_
  refine st_gs [[(b1, .cells [.int .i64 2, .int .i64 64, .int .u32 10].toArray 66 (0, 0))]] rfl ?_
  refine st_end ?_
  refine st_seq ?_
  refine st_cut (fun ρ τ2 gs => ∃ (s2 : Bool), law21_known_j1 s2 r ∧ σ.Le τ2 ∧ ρ = [(0, .bool s2)] ∧ gs = []) ?_ (fun hk2 => ?_)
  · rintro ρ2 τ2 gs2 ⟨s2, h, hl2, rfl, rfl⟩
    obtain rfl := Eq.symm h
    exact st_ret (gs' := []) Tryd.func11 rfl (List.Sublist.refl _) hl2 ⟨rfl, rfl⟩
  refine st_region ?_
  refine o_loadN (j := 0) (vs := [.int .i64 2, .int .i64 64, .int .u32 10]) rfl rfl rfl z_agg66 rfl rfl rfl ?_
  refine o_build (ps := [(0, [.int .u32 10]), (1, [.int .i64 4])]) (cs := [.int .u32 10, .int .i64 4]) rfl rfl rfl z_struct69 ⟨rfl, ⟨_, rfl, rfl⟩, ⟨rfl, ⟨_, rfl, rfl⟩, trivial⟩⟩ rfl ?_
  obtain ⟨r3, hr4, h⟩ := h
  refine st_call (foot := []) rfl rfl rfl rfl rfl rfl (callV_fn z_en35 (conf_Line_ok hr4 σ)) ?_
  rintro vτ5 τ5 gsτ5 hl6 ⟨rfl, rfl⟩
  refine o_sbin (v := .bool (decide (r3 = (bstr [108, 105, 110, 107, 32, 50, 32, 54, 52, 32, 49, 48, 32, 49, 48, 32, 52])))) rfl rfl rfl rfl (ev_str z_str10) rfl ?_
  refine o_moveB rfl rfl rfl rfl (fun hc => ?_) (fun hc => ?_)
  · replace h := (if_pos hc).mp h
    refine o_loadN (j := 0) (vs := [.int .i64 2, .int .i64 64, .int .u32 10]) rfl rfl rfl z_agg66 rfl rfl rfl ?_
    obtain ⟨r7, hr8, h⟩ := h
    refine st_call (foot := []) rfl rfl rfl rfl rfl rfl (callV_fn z_en36 (conf_Room_ok hr8 τ5)) ?_
    rintro vτ9 τ9 gsτ9 hl10 ⟨rfl, rfl⟩
    refine o_ibin (v := .bool (decide (r7 = 49))) rfl rfl rfl rfl rfl rfl ?_
    refine o_pick rfl rfl rfl rfl rfl ?_
    refine o_moveB rfl rfl rfl rfl (fun hc => ?_) (fun hc => ?_)
    · replace h := (if_pos hc).mp h
      refine o_loadN (j := 0) (vs := [.int .i64 2, .int .i64 64, .int .u32 10]) rfl rfl rfl z_agg66 rfl rfl rfl ?_
      obtain ⟨r11, hr12, h⟩ := h
      refine st_call (foot := []) rfl rfl rfl rfl rfl rfl (callV_fn z_en37 (conf_Frames_ok hr12 τ9)) ?_
      rintro vτ13 τ13 gsτ13 hl14 ⟨rfl, rfl⟩
      refine o_ibin (v := .bool (decide (r11 = 3))) rfl rfl rfl rfl rfl rfl ?_
      refine o_pick rfl rfl rfl rfl rfl ?_
      refine o_assign rfl rfl rfl rfl ?_
      refine st_end ?_
      refine st_env (ρ' := [(0, .bool (decide (r11 = 3)))]) ⟨rfl, trivial⟩ ?_
      refine st_ord [] [] rfl ?_
      exact hk2 _ _ _ ⟨(decide (r11 = 3)), h, ((hl6.trans hl10).trans hl14), rfl, rfl⟩
    · replace h := (if_neg (ne_t hc)).mp h
      refine st_pass rfl rfl rfl rfl rfl rfl ?_
      refine st_pass rfl rfl rfl rfl rfl rfl ?_
      refine st_pass rfl rfl rfl rfl rfl rfl ?_
      refine o_pick rfl rfl rfl rfl rfl ?_
      refine o_assign rfl rfl rfl rfl ?_
      refine st_end ?_
      refine st_env (ρ' := [(0, .bool false)]) ⟨rfl, trivial⟩ ?_
      refine st_ord [] [] rfl ?_
      exact hk2 _ _ _ ⟨false, h, (hl6.trans hl10), rfl, rfl⟩
  · replace h := (if_neg (ne_t hc)).mp h
    refine st_pass rfl rfl rfl rfl rfl rfl ?_
    refine st_pass rfl rfl rfl rfl rfl rfl ?_
    refine st_pass rfl rfl rfl rfl rfl rfl ?_
    refine o_pick rfl rfl rfl rfl rfl ?_
    refine o_move rfl rfl rfl rfl ?_
    refine st_pass rfl rfl rfl rfl rfl rfl ?_
    refine st_pass rfl rfl rfl rfl rfl rfl ?_
    refine st_pass rfl rfl rfl rfl rfl rfl ?_
    refine o_pick rfl rfl rfl rfl rfl ?_
    refine o_assign rfl rfl rfl rfl ?_
    refine st_end ?_
    refine st_env (ρ' := [(0, .bool false)]) ⟨rfl, trivial⟩ ?_
    refine st_ord [] [] rfl ?_
    exact hk2 _ _ _ ⟨false, h, hl6, rfl, rfl⟩
theorem law21_ConfRooms_ok {a0 : Int} {r : Bool} (h : law21_ConfRooms a0 r) (σ : Sto)  :
    Does Tryd.prog 4 [.int .i64 a0] σ [] (fun v τ gs => gs = [] ∧ .bool r = v) := by
  refine call_of Tryd.func4 Tryd.ntmps4 rfl rfl (fun cs fs => ?_)
  refine st_seq ?_
  refine st_region ?_
  refine o_box (cs := [.int .i64 a0]) rfl rfl rfl rfl rfl (fun b1 => ?_)
  refine o_alloc rfl rfl rfl z_zero4 (fun b2 => ?_)
  refine st_end ?_
  refine st_seq ?_
  refine st_region ?_
  refine o_alloc rfl rfl rfl z_zero3 (fun b3 => ?_)
  refine o_store (j := 0) (vs := [.int .i64 0]) (cs' := [.int .i64 0]) rfl rfl rfl z_size3 rfl rfl rfl (ones_cons rfl ones_nil) rfl rfl rfl ?_
  refine st_gs [[(b3, .cells [.int .i64 0].toArray 3 (0, 0))], [(b2, .cells [.bool false].toArray 4 (0, 0))], [(b1, .cells [.int .i64 a0].toArray 3 (0, 0))]] rfl ?_
  refine st_end ?_
  refine st_seq ?_
  refine st_region ?_
  obtain ⟨r4, hr5, h⟩ := h
  refine st_call (foot := []) rfl rfl rfl rfl rfl rfl (callV_fn z_en10 (conf_Rooms_ok hr5 σ)) ?_
  rintro vτ6 τ6 gsτ6 hl7 ⟨f8, q9, rfl, rfl, hit10⟩
  refine o_assign rfl rfl rfl rfl ?_
  refine st_end ?_
  refine st_seq ?_
  refine st_seq ?_
  refine st_region ?_
  refine o_move rfl rfl rfl rfl ?_
  refine o_fnNil (b := false) rfl rfl rfl Tryd.underlying28 rfl rfl rfl ?_
  refine st_end ?_
  refine st_condF rfl ?_
  refine st_skip ?_
  refine st_seq ?_
  refine st_seq ?_
  refine st_region ?_
  refine o_move rfl rfl rfl rfl ?_
  refine st_end ?_
  refine st_block ?_
  obtain ⟨t11, w11, hR11, hA11⟩ := h
  refine st_env (ρ' := [(1, .pointer (some ⟨b1, 0, none⟩)), (2, .pointer (some ⟨b2, 0, none⟩)), (3, .pointer (some ⟨b3, 0, none⟩)), (12, .func (.func f8) #[] q9)]) ⟨rfl, rfl, rfl, rfl, trivial⟩ ?_
  refine st_ord [2, 1, 0] [[(b1, .cells [.int .i64 a0].toArray 3 (0, 0))], [(b2, .cells [.bool false].toArray 4 (0, 0))], [(b3, .cells [.int .i64 0].toArray 3 (0, 0))]] rfl ?_
  refine st_addNil ?_
  refine st_range (B := law21_ConfRooms_l1) (s0 := 0) ranges_fctx rfl hit10 (Sto.Le.refl _) hR11 rfl (fun _ _ _ h => by cases h; rfl) (fun (s11 : Int) τ11 gs => τ6.Le τ11 ∧ gs = [[(b1, .cells [.int .i64 a0].toArray 3 (0, 0))], [(b2, .cells [.bool false].toArray 4 (0, 0))], [(b3, .cells [.int .i64 s11].toArray 3 (0, 0))]]) (fun (p13 : Int) cd τ14 gs => cd = .ret ∧ τ6.Le τ14 ∧ gs = [[(b1, .cells [.int .i64 a0].toArray 3 (0, 0))], [(b2, .cells [.bool false].toArray 4 (0, 0))], [(b3, .cells [.int .i64 p13].toArray 3 (0, 0))]]) (fun _ _ _ _ hl ⟨hb, hg⟩ => ⟨hb.trans hl, hg⟩) (fun _ _ _ _ _ hl ⟨hc, hb, hg⟩ => ⟨hc, hb.trans hl, hg⟩) ⟨Sto.Le.refl _, rfl⟩ ?_ ?_ ?_
  · rintro x11 s11 o11 τ11 gs11 vx11 hl11 h rfl ⟨hb11, rfl⟩ l11 rc11 caller11 cs11 fs11
    refine st_seq ?_
    refine st_region ?_
    refine o_assign rfl rfl rfl rfl ?_
    refine st_end ?_
    refine st_region ?_
    refine o_assign rfl rfl rfl rfl ?_
    refine st_end ?_
    refine st_begin ?_
    refine st_block ?_
    refine st_seq ?_
    refine st_seq ?_
    refine st_cut (fun ρ τ12 gs => ∃ (s12 : Bool), law21_ConfRooms_j2 s11 s12 o11 ∧ τ11.Le τ12 ∧ ρ = [(1, .pointer (some ⟨b1, 0, none⟩)), (2, .pointer (some ⟨b2, 0, none⟩)), (3, .pointer (some ⟨b3, 0, none⟩)), (13, .int .i64 x11.1), (14, .int .i64 x11.2), (5, .int .i64 x11.1), (6, .int .i64 x11.2), (24, .bool s12)] ∧ gs = [[(b1, .cells [.int .i64 a0].toArray 3 (0, 0))], [(b2, .cells [.bool false].toArray 4 (0, 0))], [(b3, .cells [.int .i64 s11].toArray 3 (0, 0))]]) ?_ (fun hk12 => ?_)
    · rintro ρ12 τ12 gs12 ⟨s12, h, hl12, rfl, rfl⟩
      refine st_cond rfl (fun hc => ?_) (fun hc => ?_)
      · replace h := (if_pos hc).mp h
        refine st_seq ?_
        refine st_region ?_
        refine o_store (j := 1) (vs := [.bool false]) (cs' := [.bool false]) rfl rfl rfl z_size4 rfl rfl rfl (ones_cons rfl ones_nil) rfl rfl rfl ?_
        refine st_gs [[(b1, .cells [.int .i64 a0].toArray 3 (0, 0))], [(b2, .cells [.bool false].toArray 4 (0, 0))], [(b3, .cells [.int .i64 s11].toArray 3 (0, 0))]] rfl ?_
        refine st_end ?_
        exact st_rret (List.Sublist.refl _) hl12 ⟨_, h, rfl, (hl11.trans hl12), rfl⟩
      · replace h := (if_neg (ne_t hc)).mp h
        refine st_skip ?_
        refine st_region ?_
        refine o_load (j := 2) (v := .int .i64 s11) rfl rfl rfl z_sc3 rfl rfl rfl ?_
        refine o_ibin (v := .int .i64 (IntKind.i64.wrap (s11 + 1))) rfl rfl rfl rfl rfl rfl ?_
        refine o_store (j := 2) (vs := [.int .i64 (IntKind.i64.wrap (s11 + 1))]) (cs' := [.int .i64 (IntKind.i64.wrap (s11 + 1))]) rfl rfl rfl z_size3 rfl rfl rfl (ones_cons rfl ones_nil) rfl rfl rfl ?_
        refine st_gs [[(b1, .cells [.int .i64 a0].toArray 3 (0, 0))], [(b2, .cells [.bool false].toArray 4 (0, 0))], [(b3, .cells [.int .i64 (IntKind.i64.wrap (s11 + 1))].toArray 3 (0, 0))]] rfl ?_
        refine st_end ?_
        refine st_inBlock ?_
        exact st_rend (List.Sublist.refl _) hl12 ⟨_, h, (hl11.trans hl12), rfl⟩
    refine st_region ?_
    refine o_move rfl rfl rfl rfl ?_
    refine o_load (j := 2) (v := .int .i64 s11) rfl rfl rfl z_sc3 rfl rfl rfl ?_
    refine o_ibin (v := .int .i64 (IntKind.i64.wrap (16 + s11))) rfl rfl rfl rfl rfl rfl ?_
    refine o_ibin (v := .bool (!(decide (x11.1 = (IntKind.i64.wrap (16 + s11)))))) rfl rfl rfl rfl rfl rfl ?_
    refine o_moveB rfl rfl rfl rfl (fun hc => ?_) (fun hc => ?_)
    · replace h := (if_pos hc).mp h
      refine st_pass rfl rfl rfl rfl rfl rfl ?_
      refine st_pass rfl rfl rfl rfl rfl rfl ?_
      refine st_pass rfl rfl rfl rfl rfl rfl ?_
      refine st_pass rfl rfl rfl rfl rfl rfl ?_
      refine o_pick rfl rfl rfl rfl rfl ?_
      refine st_end ?_
      refine st_env (ρ' := [(1, .pointer (some ⟨b1, 0, none⟩)), (2, .pointer (some ⟨b2, 0, none⟩)), (3, .pointer (some ⟨b3, 0, none⟩)), (13, .int .i64 x11.1), (14, .int .i64 x11.2), (5, .int .i64 x11.1), (6, .int .i64 x11.2), (24, .bool true)]) ⟨rfl, rfl, rfl, rfl, rfl, rfl, rfl, rfl, trivial⟩ ?_
      exact hk12 _ _ _ ⟨true, h, (Sto.Le.refl _), rfl, rfl⟩
    · replace h := (if_neg (ne_t hc)).mp h
      refine o_move rfl rfl rfl rfl ?_
      refine o_load (j := 2) (v := .int .i64 s11) rfl rfl rfl z_sc3 rfl rfl rfl ?_
      refine o_ibin (v := .int .i64 (IntKind.i64.wrap (1 + s11))) rfl rfl rfl rfl rfl rfl ?_
      refine o_ibin (v := .bool (!(decide (x11.2 = (IntKind.i64.wrap (1 + s11)))))) rfl rfl rfl rfl rfl rfl ?_
      refine o_pick rfl rfl rfl rfl rfl ?_
      refine st_end ?_
      refine st_env (ρ' := [(1, .pointer (some ⟨b1, 0, none⟩)), (2, .pointer (some ⟨b2, 0, none⟩)), (3, .pointer (some ⟨b3, 0, none⟩)), (13, .int .i64 x11.1), (14, .int .i64 x11.2), (5, .int .i64 x11.1), (6, .int .i64 x11.2), (24, .bool (!(decide (x11.2 = (IntKind.i64.wrap (1 + s11))))))]) ⟨rfl, rfl, rfl, rfl, rfl, rfl, rfl, rfl, trivial⟩ ?_
      exact hk12 _ _ _ ⟨(!(decide (x11.2 = (IntKind.i64.wrap (1 + s11))))), h, (Sto.Le.refl _), rfl, rfl⟩
  · rintro p16 τ17 gs11 f11 ht hl18 ⟨hb, rfl⟩ rfl
    subst ht
    replace h := hA11
    refine st_ord [1, 1, 1] [[(b1, .cells [.int .i64 a0].toArray 3 (0, 0))], [(b2, .cells [.bool false].toArray 4 (0, 0))], [(b3, .cells [.int .i64 p16].toArray 3 (0, 0))]] rfl ?_
    refine st_inBlock ?_
    refine st_seq ?_
    refine st_region ?_
    refine o_alloc rfl rfl rfl z_zero3 (fun b19 => ?_)
    refine o_store (j := 0) (vs := [.int .i64 0]) (cs' := [.int .i64 0]) rfl rfl rfl z_size3 rfl rfl rfl (ones_cons rfl ones_nil) rfl rfl rfl ?_
    refine st_gs [[(b19, .cells [.int .i64 0].toArray 3 (0, 0))], [(b1, .cells [.int .i64 a0].toArray 3 (0, 0))], [(b2, .cells [.bool false].toArray 4 (0, 0))], [(b3, .cells [.int .i64 p16].toArray 3 (0, 0))]] rfl ?_
    refine st_end ?_
    refine st_seq ?_
    refine st_region ?_
    obtain ⟨r20, hr21, h⟩ := h
    refine st_call (foot := []) rfl rfl rfl rfl rfl rfl (callV_fn z_en10 (conf_Rooms_ok hr21 τ17)) ?_
    rintro vτ22 τ22 gsτ22 hl23 ⟨f24, q25, rfl, rfl, hit26⟩
    refine o_assign rfl rfl rfl rfl ?_
    refine st_end ?_
    refine st_seq ?_
    refine st_seq ?_
    refine st_region ?_
    refine o_move rfl rfl rfl rfl ?_
    refine o_fnNil (b := false) rfl rfl rfl Tryd.underlying28 rfl rfl rfl ?_
    refine st_end ?_
    refine st_condF rfl ?_
    refine st_skip ?_
    refine st_seq ?_
    refine st_cut (fun ρ τ27 gs => ∃ (s27 : Int), law21_ConfRooms_j3 a0 p16 s27 r ∧ τ22.Le τ27 ∧ ρ = [(1, .pointer (some ⟨b1, 0, none⟩)), (2, .pointer (some ⟨b2, 0, none⟩)), (3, .pointer (some ⟨b3, 0, none⟩)), (7, .pointer (some ⟨b19, 0, none⟩))] ∧ gs = [[(b1, .cells [.int .i64 a0].toArray 3 (0, 0))], [(b2, .cells [.bool false].toArray 4 (0, 0))], [(b3, .cells [.int .i64 p16].toArray 3 (0, 0))], [(b19, .cells [.int .i64 s27].toArray 3 (0, 0))]]) ?_ (fun hk27 => ?_)
    · rintro ρ27 τ27 gs27 ⟨s27, h, hl27, rfl, rfl⟩
      refine st_seq ?_
      refine st_cut (fun ρ τ28 gs => ∃ (s28 : Bool), law21_ConfRooms_j4 s28 r ∧ τ27.Le τ28 ∧ ρ = [(2, .pointer (some ⟨b2, 0, none⟩))] ∧ gs = [[(b2, .cells [.bool s28].toArray 4 (0, 0))]]) ?_ (fun hk28 => ?_)
      · rintro ρ28 τ28 gs28 ⟨s28, h, hl28, rfl, rfl⟩
        obtain rfl := Eq.symm h
        exact st_retC (gs' := []) [.bool s28] Tryd.func4 ⟨⟨_, _, _, _, rfl, mem_flat 0 rfl, fun w hw => cellOf z_sc4 rfl w hw⟩, trivial⟩ (by simp) ((((hl7.trans hl18).trans hl23).trans hl27).trans hl28) ⟨rfl, rfl⟩
      refine st_region ?_
      obtain ⟨r29, hr30, h⟩ := h
      refine st_call (foot := []) rfl rfl rfl rfl rfl rfl (callV_fn z_en11 (law21_known_ok hr30 τ27)) ?_
      rintro vτ31 τ31 gsτ31 hl32 ⟨rfl, rfl⟩
      refine o_moveB rfl rfl rfl rfl (fun hc => ?_) (fun hc => ?_)
      · replace h := (if_pos hc).mp h
        refine o_load (j := 2) (v := .int .i64 p16) rfl rfl rfl z_sc3 rfl rfl rfl ?_
        refine o_ibin (v := .bool (decide (p16 = 242))) rfl rfl rfl rfl rfl rfl ?_
        refine o_pick rfl rfl rfl rfl rfl ?_
        refine o_moveB rfl rfl rfl rfl (fun hc => ?_) (fun hc => ?_)
        · replace h := (if_pos hc).mp h
          refine o_load (j := 3) (v := .int .i64 s27) rfl rfl rfl z_sc3 rfl rfl rfl ?_
          refine o_ibin (v := .bool (decide (s27 = 242))) rfl rfl rfl rfl rfl rfl ?_
          refine o_moveB rfl rfl rfl rfl (fun hc => ?_) (fun hc => ?_)
          · replace h := (if_pos hc).mp h
            refine st_pass rfl rfl rfl rfl rfl rfl ?_
            refine st_pass rfl rfl rfl rfl rfl rfl ?_
            refine st_pass rfl rfl rfl rfl rfl rfl ?_
            refine o_pick rfl rfl rfl rfl rfl ?_
            refine o_pick rfl rfl rfl rfl rfl ?_
            refine o_store (j := 1) (vs := [.bool true]) (cs' := [.bool true]) rfl rfl rfl z_size4 rfl rfl rfl (ones_cons rfl ones_nil) rfl rfl rfl ?_
            refine st_gs [[(b1, .cells [.int .i64 a0].toArray 3 (0, 0))], [(b2, .cells [.bool true].toArray 4 (0, 0))], [(b3, .cells [.int .i64 p16].toArray 3 (0, 0))], [(b19, .cells [.int .i64 s27].toArray 3 (0, 0))]] rfl ?_
            refine st_end ?_
            refine st_env (ρ' := [(2, .pointer (some ⟨b2, 0, none⟩))]) ⟨rfl, trivial⟩ ?_
            refine st_ord [1] [[(b2, .cells [.bool true].toArray 4 (0, 0))]] rfl ?_
            exact hk28 _ _ _ ⟨true, h, hl32, rfl, rfl⟩
          · replace h := (if_neg (ne_t hc)).mp h
            refine o_load (j := 3) (v := .int .i64 s27) rfl rfl rfl z_sc3 rfl rfl rfl ?_
            refine o_load (j := 0) (v := .int .i64 a0) rfl rfl rfl z_sc3 rfl rfl rfl ?_
            refine o_ibin (v := .bool (decide (s27 = a0))) rfl rfl rfl rfl rfl rfl ?_
            refine o_pick rfl rfl rfl rfl rfl ?_
            refine o_pick rfl rfl rfl rfl rfl ?_
            refine o_store (j := 1) (vs := [.bool (decide (s27 = a0))]) (cs' := [.bool (decide (s27 = a0))]) rfl rfl rfl z_size4 rfl rfl rfl (ones_cons rfl ones_nil) rfl rfl rfl ?_
            refine st_gs [[(b1, .cells [.int .i64 a0].toArray 3 (0, 0))], [(b2, .cells [.bool (decide (s27 = a0))].toArray 4 (0, 0))], [(b3, .cells [.int .i64 p16].toArray 3 (0, 0))], [(b19, .cells [.int .i64 s27].toArray 3 (0, 0))]] rfl ?_
            refine st_end ?_
            refine st_env (ρ' := [(2, .pointer (some ⟨b2, 0, none⟩))]) ⟨rfl, trivial⟩ ?_
            refine st_ord [1] [[(b2, .cells [.bool (decide (s27 = a0))].toArray 4 (0, 0))]] rfl ?_
            exact hk28 _ _ _ ⟨(decide (s27 = a0)), h, hl32, rfl, rfl⟩
        · replace h := (if_neg (ne_t hc)).mp h
          refine st_pass rfl rfl rfl rfl rfl rfl ?_
          refine st_pass rfl rfl rfl rfl rfl rfl ?_
          refine st_pass rfl rfl rfl rfl rfl rfl ?_
          refine st_passU rfl rfl rfl rfl rfl ?_
          refine st_passU rfl rfl rfl rfl rfl ?_
          refine st_passU rfl rfl rfl rfl rfl ?_
          refine st_pass rfl rfl rfl rfl rfl rfl ?_
          refine o_pick rfl rfl rfl rfl rfl ?_
          refine o_store (j := 1) (vs := [.bool false]) (cs' := [.bool false]) rfl rfl rfl z_size4 rfl rfl rfl (ones_cons rfl ones_nil) rfl rfl rfl ?_
          refine st_gs [[(b1, .cells [.int .i64 a0].toArray 3 (0, 0))], [(b2, .cells [.bool false].toArray 4 (0, 0))], [(b3, .cells [.int .i64 p16].toArray 3 (0, 0))], [(b19, .cells [.int .i64 s27].toArray 3 (0, 0))]] rfl ?_
          refine st_end ?_
          refine st_env (ρ' := [(2, .pointer (some ⟨b2, 0, none⟩))]) ⟨rfl, trivial⟩ ?_
          refine st_ord [1] [[(b2, .cells [.bool false].toArray 4 (0, 0))]] rfl ?_
          exact hk28 _ _ _ ⟨false, h, hl32, rfl, rfl⟩
      · replace h := (if_neg (ne_t hc)).mp h
        refine st_pass rfl rfl rfl rfl rfl rfl ?_
        refine st_pass rfl rfl rfl rfl rfl rfl ?_
        refine o_pick rfl rfl rfl rfl rfl ?_
        refine o_move rfl rfl rfl rfl ?_
        refine st_pass rfl rfl rfl rfl rfl rfl ?_
        refine st_pass rfl rfl rfl rfl rfl rfl ?_
        refine st_pass rfl rfl rfl rfl rfl rfl ?_
        refine st_passU rfl rfl rfl rfl rfl ?_
        refine st_passU rfl rfl rfl rfl rfl ?_
        refine st_passU rfl rfl rfl rfl rfl ?_
        refine st_pass rfl rfl rfl rfl rfl rfl ?_
        refine o_pick rfl rfl rfl rfl rfl ?_
        refine o_store (j := 1) (vs := [.bool false]) (cs' := [.bool false]) rfl rfl rfl z_size4 rfl rfl rfl (ones_cons rfl ones_nil) rfl rfl rfl ?_
        refine st_gs [[(b1, .cells [.int .i64 a0].toArray 3 (0, 0))], [(b2, .cells [.bool false].toArray 4 (0, 0))], [(b3, .cells [.int .i64 p16].toArray 3 (0, 0))], [(b19, .cells [.int .i64 s27].toArray 3 (0, 0))]] rfl ?_
        refine st_end ?_
        refine st_env (ρ' := [(2, .pointer (some ⟨b2, 0, none⟩))]) ⟨rfl, trivial⟩ ?_
        refine st_ord [1] [[(b2, .cells [.bool false].toArray 4 (0, 0))]] rfl ?_
        exact hk28 _ _ _ ⟨false, h, hl32, rfl, rfl⟩
    refine st_seq ?_
    refine st_region ?_
    refine o_move rfl rfl rfl rfl ?_
    refine st_end ?_
    refine st_block ?_
    obtain ⟨t33, w33, hR33, hA33⟩ := h
    refine st_env (ρ' := [(1, .pointer (some ⟨b1, 0, none⟩)), (2, .pointer (some ⟨b2, 0, none⟩)), (3, .pointer (some ⟨b3, 0, none⟩)), (7, .pointer (some ⟨b19, 0, none⟩)), (30, .func (.func f24) #[] q25)]) ⟨rfl, rfl, rfl, rfl, rfl, trivial⟩ ?_
    refine st_ord [1, 1, 1, 0] [[(b1, .cells [.int .i64 a0].toArray 3 (0, 0))], [(b2, .cells [.bool false].toArray 4 (0, 0))], [(b3, .cells [.int .i64 p16].toArray 3 (0, 0))], [(b19, .cells [.int .i64 0].toArray 3 (0, 0))]] rfl ?_
    refine st_addNil ?_
    refine st_range (B := law21_ConfRooms_l5 a0) (s0 := 0) ranges_fctx rfl hit26 (Sto.Le.refl _) hR33 rfl (fun _ _ _ h => by cases h; rfl) (fun (s33 : Int) τ33 gs => τ22.Le τ33 ∧ gs = [[(b1, .cells [.int .i64 a0].toArray 3 (0, 0))], [(b2, .cells [.bool false].toArray 4 (0, 0))], [(b3, .cells [.int .i64 p16].toArray 3 (0, 0))], [(b19, .cells [.int .i64 s33].toArray 3 (0, 0))]]) (fun (p34 : Int) cd τ35 gs => cd = .exit 2 ∧ τ22.Le τ35 ∧ gs = [[(b1, .cells [.int .i64 a0].toArray 3 (0, 0))], [(b2, .cells [.bool false].toArray 4 (0, 0))], [(b3, .cells [.int .i64 p16].toArray 3 (0, 0))], [(b19, .cells [.int .i64 p34].toArray 3 (0, 0))]]) (fun _ _ _ _ hl ⟨hb, hg⟩ => ⟨hb.trans hl, hg⟩) (fun _ _ _ _ _ hl ⟨hc, hb, hg⟩ => ⟨hc, hb.trans hl, hg⟩) ⟨Sto.Le.refl _, rfl⟩ ?_ ?_ ?_
    · rintro x33 s33 o33 τ33 gs33 vx33 hl33 h rfl ⟨hb33, rfl⟩ l33 rc33 caller33 cs33 fs33
      refine st_skip ?_
      refine st_begin ?_
      refine st_block ?_
      refine st_seq ?_
      refine st_seq ?_
      refine st_region ?_
      refine o_load (j := 3) (v := .int .i64 s33) rfl rfl rfl z_sc3 rfl rfl rfl ?_
      refine o_load (j := 0) (v := .int .i64 a0) rfl rfl rfl z_sc3 rfl rfl rfl ?_
      refine o_ibin (v := .bool (decide (s33 = a0))) rfl rfl rfl rfl rfl rfl ?_
      refine st_end ?_
      refine st_cond rfl (fun hc => ?_) (fun hc => ?_)
      · replace h := (if_pos hc).mp h
        exact st_rexit rfl (List.Sublist.refl _) (Sto.Le.refl _) ⟨_, h, rfl, hl33, rfl⟩
      · replace h := (if_neg (ne_t hc)).mp h
        refine st_skip ?_
        refine st_region ?_
        refine o_load (j := 3) (v := .int .i64 s33) rfl rfl rfl z_sc3 rfl rfl rfl ?_
        refine o_ibin (v := .int .i64 (IntKind.i64.wrap (s33 + 1))) rfl rfl rfl rfl rfl rfl ?_
        refine o_store (j := 3) (vs := [.int .i64 (IntKind.i64.wrap (s33 + 1))]) (cs' := [.int .i64 (IntKind.i64.wrap (s33 + 1))]) rfl rfl rfl z_size3 rfl rfl rfl (ones_cons rfl ones_nil) rfl rfl rfl ?_
        refine st_gs [[(b1, .cells [.int .i64 a0].toArray 3 (0, 0))], [(b2, .cells [.bool false].toArray 4 (0, 0))], [(b3, .cells [.int .i64 p16].toArray 3 (0, 0))], [(b19, .cells [.int .i64 (IntKind.i64.wrap (s33 + 1))].toArray 3 (0, 0))]] rfl ?_
        refine st_end ?_
        refine st_inBlock ?_
        exact st_rend (List.Sublist.refl _) (Sto.Le.refl _) ⟨_, h, hl33, rfl⟩
    · rintro p37 τ38 gs33 f33 ht hl39 ⟨hb, rfl⟩ rfl
      subst ht
      replace h := hA33
      refine st_ord [1, 1, 1, 1] [[(b1, .cells [.int .i64 a0].toArray 3 (0, 0))], [(b2, .cells [.bool false].toArray 4 (0, 0))], [(b3, .cells [.int .i64 p16].toArray 3 (0, 0))], [(b19, .cells [.int .i64 p37].toArray 3 (0, 0))]] rfl ?_
      refine st_inBlock ?_
      refine st_env (ρ' := [(1, .pointer (some ⟨b1, 0, none⟩)), (2, .pointer (some ⟨b2, 0, none⟩)), (3, .pointer (some ⟨b3, 0, none⟩)), (7, .pointer (some ⟨b19, 0, none⟩))]) ⟨rfl, rfl, rfl, rfl, trivial⟩ ?_
      exact hk27 _ _ _ ⟨p37, h, hl39, rfl, rfl⟩
    · rintro p34 cd33 τ35 gs33 f33 ht hl36 ⟨rfl, hb, rfl⟩ rfl
      subst ht
      replace h := hA33
      refine st_ord [1, 1, 1, 1] [[(b1, .cells [.int .i64 a0].toArray 3 (0, 0))], [(b2, .cells [.bool false].toArray 4 (0, 0))], [(b3, .cells [.int .i64 p16].toArray 3 (0, 0))], [(b19, .cells [.int .i64 p34].toArray 3 (0, 0))]] rfl ?_
      refine st_exit rfl ?_
      refine st_env (ρ' := [(1, .pointer (some ⟨b1, 0, none⟩)), (2, .pointer (some ⟨b2, 0, none⟩)), (3, .pointer (some ⟨b3, 0, none⟩)), (7, .pointer (some ⟨b19, 0, none⟩))]) ⟨rfl, rfl, rfl, rfl, trivial⟩ ?_
      exact hk27 _ _ _ ⟨p34, h, hl36, rfl, rfl⟩
  · rintro p13 cd11 τ14 gs11 f11 ht hl15 ⟨rfl, hb, rfl⟩ rfl
    subst ht
    replace h := hA11
    refine st_ord [1, 1, 1] [[(b1, .cells [.int .i64 a0].toArray 3 (0, 0))], [(b2, .cells [.bool false].toArray 4 (0, 0))], [(b3, .cells [.int .i64 p13].toArray 3 (0, 0))]] rfl ?_
    obtain rfl := Eq.symm h
    exact st_retC (gs' := []) [.bool false] Tryd.func4 ⟨⟨_, _, _, _, rfl, mem_flat 1 rfl, fun w hw => cellOf z_sc4 rfl w hw⟩, trivial⟩ (by simp) (hl7.trans hl15) ⟨rfl, rfl⟩
end Go.Rel
