import Derived.Test.YtgokdchgjpneoaaDoorURel
import Derived.Test.YtgokdchgjpneoaaDoorUFacts
/-! The walks. -/
set_option linter.unusedVariables false
set_option linter.unusedSimpArgs false
set_option maxRecDepth 4000
set_option maxHeartbeats 4000000
namespace Go.Rel
open Go Go.Eng Go.Proofs
theorem strconv_Itoa_ok {a0 : Int} {r : ByteArray} (h : strconv_Itoa a0 r) (σ : Sto) (hT : Tab Tryd.prog σ) :
    Does Tryd.prog 93 [.int .i64 a0] σ [] (fun v τ gs => gs = [] ∧ .string r = v) := by
  obtain ⟨hk, rfl⟩ := h
  rw [itoa_lib]
  exact does_grow fun w hw => Tryd.strconv_Itoa a0 (i64_lo hk) (i64_hi hk) w (hT w hw)
theorem ref07_Digits_ok {a0 : Int} {r : ByteArray} (h : ref07_Digits a0 r) (σ : Sto)  :
    Does Tryd.prog 78 [.int .i64 a0] σ [] (fun v τ gs => gs = [] ∧ .string r = v) := by
  refine call_of Tryd.func78 Tryd.ntmps78 rfl rfl (fun cs fs => ?_)
  refine st_seq ?_
  refine st_region ?_
  refine o_assign rfl rfl rfl (ev_str z_str19) ?_
  refine st_end ?_
  refine st_seq ?_
  refine st_seq ?_
  refine st_region ?_
  refine o_move rfl rfl rfl rfl ?_
  refine o_ibin (v := .bool (decide (a0 < 0))) rfl rfl rfl rfl rfl rfl ?_
  refine st_end ?_
  refine st_cond rfl (fun hc => ?_) (fun hc => ?_)
  · replace h := (if_pos hc).mp h
    refine st_seq ?_
    refine st_region ?_
    refine o_assign rfl rfl rfl (ev_str z_str19) ?_
    refine st_end ?_
    refine st_seq ?_
    refine st_cut (fun ρ τ1 gs => ∃ (s1 : Int × ByteArray), ref07_Digits_j1 s1 r ∧ σ.Le τ1 ∧ ρ = [(0, .int .i64 s1.1), (2, .string (bstr [])), (3, .string s1.2)] ∧ gs = []) ?_ (fun hk1 => ?_)
    · rintro ρ1 τ1 gs1 ⟨s1, h, hl1, rfl, rfl⟩
      refine st_seq ?_
      refine st_region ?_
      refine o_move rfl rfl rfl rfl ?_
      obtain ⟨hf2, h⟩ := h
      refine o_sadd rfl rfl rfl (ev_str z_str28) rfl hf2 ?_
      refine o_assign rfl rfl rfl rfl ?_
      refine st_end ?_
      obtain rfl := Eq.symm h
      exact st_ret (gs' := []) Tryd.func78 rfl (List.Sublist.refl _) hl1 ⟨rfl, rfl⟩
    obtain ⟨e3, hL3, hA3⟩ := h
    refine st_env (ρ' := [(0, .int .i64 a0), (2, .string (bstr [])), (3, .string (bstr []))]) ⟨rfl, rfl, rfl, trivial⟩ ?_
    refine st_loop hL3 (fun (s3 : Int × ByteArray) ρ τ3 gs => σ.Le τ3 ∧ ρ = [(0, .int .i64 s3.1), (2, .string (bstr [])), (3, .string s3.2)] ∧ gs = []) ⟨Sto.Le.refl _, rfl, rfl⟩ ?_
    rintro s3 o3 h he3 ρ3 τ3 gs3 ⟨hl3, rfl, rfl⟩ hn3
    refine st_seq ?_
    refine st_seq ?_
    refine st_region ?_
    refine o_move rfl rfl rfl rfl ?_
    refine o_ibin (v := .bool (decide (s3.1 < 0))) rfl rfl rfl rfl rfl rfl ?_
    refine st_end ?_
    refine st_cond rfl (fun hc => ?_) (fun hc => ?_)
    · replace h := (if_pos hc).mp h
      refine st_skip ?_
      refine st_block ?_
      refine st_seq ?_
      refine st_region ?_
      refine o_move rfl rfl rfl rfl ?_
      refine o_rem rfl rfl rfl rfl rfl (by decide) ?_
      refine o_ibin (v := .int .i64 (IntKind.i64.wrap (48 - (s3.1.tmod 10)))) rfl rfl rfl rfl rfl rfl ?_
      refine o_conv rfl rfl rfl Tryd.underlying3 Tryd.underlying5 rfl ?_
      refine o_lit (dk := (kI .u8)) (xs := [(IntKind.u8.wrap (IntKind.i64.wrap (48 - (s3.1.tmod 10))))]) (ps := [(0, [.int .u8 (IntKind.u8.wrap (IntKind.i64.wrap (48 - (s3.1.tmod 10))))])]) (cs := [.int .u8 (IntKind.u8.wrap (IntKind.i64.wrap (48 - (s3.1.tmod 10))))]) rfl rfl rfl z_slT67 z_zero5 ⟨rfl, ⟨_, rfl, rfl⟩, trivial⟩ rfl rfl rfl rfl (Kd.Many.cons (d := (kI .u8)) (x := (IntKind.u8.wrap (IntKind.i64.wrap (48 - (s3.1.tmod 10))))) (a := [.int .u8 (IntKind.u8.wrap (IntKind.i64.wrap (48 - (s3.1.tmod 10))))]) rfl Kd.Many.nil) (fun v4 g5 ho6 => ?_)
      refine st_freeze (fun τ7 hl8 hg9 => ?_)
      have hs10 := ho6.freeze hl8 hg9
      refine o_bstr (xs := [(IntKind.u8.wrap (IntKind.i64.wrap (48 - (s3.1.tmod 10))))]) rfl rfl rfl Tryd.underlying67 Tryd.underlying5 Tryd.underlying9 rfl hs10 ?_
      refine o_move rfl rfl rfl rfl ?_
      obtain ⟨hf11, h⟩ := h
      refine o_sadd rfl rfl rfl rfl rfl hf11 ?_
      refine o_assign rfl rfl rfl rfl ?_
      refine st_end ?_
      refine st_region ?_
      refine o_move rfl rfl rfl rfl ?_
      refine o_quo rfl rfl rfl rfl rfl (by decide) ?_
      refine o_assign rfl rfl rfl rfl ?_
      refine st_end ?_
      refine st_inBlock ?_
      refine st_env (ρ' := [(0, .int .i64 (IntKind.i64.wrap (s3.1.tdiv 10))), (2, .string (bstr [])), (3, .string ((bstr [(IntKind.u8.wrap (IntKind.i64.wrap (48 - (s3.1.tmod 10))))]) ++ s3.2))]) ⟨rfl, rfl, rfl, trivial⟩ ?_
      exact hn3 _ _ _ _ h ⟨(hl3.trans hl8), rfl, rfl⟩
    · replace h := (if_neg (ne_t hc)).mp h
      refine st_exit rfl ?_
      obtain rfl := he3 _ h
      replace h := hA3
      refine st_env (ρ' := [(0, .int .i64 s3.1), (2, .string (bstr [])), (3, .string s3.2)]) ⟨rfl, rfl, rfl, trivial⟩ ?_
      exact hk1 _ _ _ ⟨(s3.1, s3.2), h, hl3, rfl, rfl⟩
  · replace h := (if_neg (ne_t hc)).mp h
    refine st_skip ?_
    refine st_seq ?_
    refine st_region ?_
    refine o_assign rfl rfl rfl (ev_str z_str19) ?_
    refine st_end ?_
    refine st_seq ?_
    refine st_cut (fun ρ τ13 gs => ∃ (s13 : Int × ByteArray), ref07_Digits_j3 s13 r ∧ σ.Le τ13 ∧ ρ = [(0, .int .i64 s13.1), (2, .string (bstr [])), (4, .string s13.2)] ∧ gs = []) ?_ (fun hk13 => ?_)
    · rintro ρ13 τ13 gs13 ⟨s13, h, hl13, rfl, rfl⟩
      refine st_seq ?_
      refine st_region ?_
      refine o_move rfl rfl rfl rfl ?_
      refine o_ibin (v := .int .i64 (IntKind.i64.wrap (48 + s13.1))) rfl rfl rfl rfl rfl rfl ?_
      refine o_conv rfl rfl rfl Tryd.underlying3 Tryd.underlying5 rfl ?_
      refine o_lit (dk := (kI .u8)) (xs := [(IntKind.u8.wrap (IntKind.i64.wrap (48 + s13.1)))]) (ps := [(0, [.int .u8 (IntKind.u8.wrap (IntKind.i64.wrap (48 + s13.1)))])]) (cs := [.int .u8 (IntKind.u8.wrap (IntKind.i64.wrap (48 + s13.1)))]) rfl rfl rfl z_slT67 z_zero5 ⟨rfl, ⟨_, rfl, rfl⟩, trivial⟩ rfl rfl rfl rfl (Kd.Many.cons (d := (kI .u8)) (x := (IntKind.u8.wrap (IntKind.i64.wrap (48 + s13.1)))) (a := [.int .u8 (IntKind.u8.wrap (IntKind.i64.wrap (48 + s13.1)))]) rfl Kd.Many.nil) (fun v14 g15 ho16 => ?_)
      refine st_freeze (fun τ17 hl18 hg19 => ?_)
      have hs20 := ho16.freeze hl18 hg19
      refine o_bstr (xs := [(IntKind.u8.wrap (IntKind.i64.wrap (48 + s13.1)))]) rfl rfl rfl Tryd.underlying67 Tryd.underlying5 Tryd.underlying9 rfl hs20 ?_
      refine o_move rfl rfl rfl rfl ?_
      obtain ⟨hf21, h⟩ := h
      refine o_sadd rfl rfl rfl rfl rfl hf21 ?_
      refine o_assign rfl rfl rfl rfl ?_
      refine st_end ?_
      obtain rfl := Eq.symm h
      exact st_ret (gs' := []) Tryd.func78 rfl (List.Sublist.refl _) (hl13.trans hl18) ⟨rfl, rfl⟩
    obtain ⟨e22, hL22, hA22⟩ := h
    refine st_env (ρ' := [(0, .int .i64 a0), (2, .string (bstr [])), (4, .string (bstr []))]) ⟨rfl, rfl, rfl, trivial⟩ ?_
    refine st_loop hL22 (fun (s22 : Int × ByteArray) ρ τ22 gs => σ.Le τ22 ∧ ρ = [(0, .int .i64 s22.1), (2, .string (bstr [])), (4, .string s22.2)] ∧ gs = []) ⟨Sto.Le.refl _, rfl, rfl⟩ ?_
    rintro s22 o22 h he22 ρ22 τ22 gs22 ⟨hl22, rfl, rfl⟩ hn22
    refine st_seq ?_
    refine st_seq ?_
    refine st_region ?_
    refine o_move rfl rfl rfl rfl ?_
    refine o_ibin (v := .bool (decide (10 ≤ s22.1))) rfl rfl rfl rfl rfl rfl ?_
    refine st_end ?_
    refine st_cond rfl (fun hc => ?_) (fun hc => ?_)
    · replace h := (if_pos hc).mp h
      refine st_skip ?_
      refine st_block ?_
      refine st_seq ?_
      refine st_region ?_
      refine o_move rfl rfl rfl rfl ?_
      refine o_rem rfl rfl rfl rfl rfl (by decide) ?_
      refine o_ibin (v := .int .i64 (IntKind.i64.wrap (48 + (s22.1.tmod 10)))) rfl rfl rfl rfl rfl rfl ?_
      refine o_conv rfl rfl rfl Tryd.underlying3 Tryd.underlying5 rfl ?_
      refine o_lit (dk := (kI .u8)) (xs := [(IntKind.u8.wrap (IntKind.i64.wrap (48 + (s22.1.tmod 10))))]) (ps := [(0, [.int .u8 (IntKind.u8.wrap (IntKind.i64.wrap (48 + (s22.1.tmod 10))))])]) (cs := [.int .u8 (IntKind.u8.wrap (IntKind.i64.wrap (48 + (s22.1.tmod 10))))]) rfl rfl rfl z_slT67 z_zero5 ⟨rfl, ⟨_, rfl, rfl⟩, trivial⟩ rfl rfl rfl rfl (Kd.Many.cons (d := (kI .u8)) (x := (IntKind.u8.wrap (IntKind.i64.wrap (48 + (s22.1.tmod 10))))) (a := [.int .u8 (IntKind.u8.wrap (IntKind.i64.wrap (48 + (s22.1.tmod 10))))]) rfl Kd.Many.nil) (fun v23 g24 ho25 => ?_)
      refine st_freeze (fun τ26 hl27 hg28 => ?_)
      have hs29 := ho25.freeze hl27 hg28
      refine o_bstr (xs := [(IntKind.u8.wrap (IntKind.i64.wrap (48 + (s22.1.tmod 10))))]) rfl rfl rfl Tryd.underlying67 Tryd.underlying5 Tryd.underlying9 rfl hs29 ?_
      refine o_move rfl rfl rfl rfl ?_
      obtain ⟨hf30, h⟩ := h
      refine o_sadd rfl rfl rfl rfl rfl hf30 ?_
      refine o_assign rfl rfl rfl rfl ?_
      refine st_end ?_
      refine st_region ?_
      refine o_move rfl rfl rfl rfl ?_
      refine o_quo rfl rfl rfl rfl rfl (by decide) ?_
      refine o_assign rfl rfl rfl rfl ?_
      refine st_end ?_
      refine st_inBlock ?_
      refine st_env (ρ' := [(0, .int .i64 (IntKind.i64.wrap (s22.1.tdiv 10))), (2, .string (bstr [])), (4, .string ((bstr [(IntKind.u8.wrap (IntKind.i64.wrap (48 + (s22.1.tmod 10))))]) ++ s22.2))]) ⟨rfl, rfl, rfl, trivial⟩ ?_
      exact hn22 _ _ _ _ h ⟨(hl22.trans hl27), rfl, rfl⟩
    · replace h := (if_neg (ne_t hc)).mp h
      refine st_exit rfl ?_
      obtain rfl := he22 _ h
      replace h := hA22
      refine st_env (ρ' := [(0, .int .i64 s22.1), (2, .string (bstr [])), (4, .string s22.2)]) ⟨rfl, rfl, rfl, trivial⟩ ?_
      exact hk13 _ _ _ ⟨(s22.1, s22.2), h, hl22, rfl, rfl⟩
theorem ref05_Blocks_ok {a0 : List Int} {v1 : Value} {r : List (List Int)} (h : ref05_Blocks a0 r) (σ : Sto) (hs2 : Sl (kI .u8) σ v1 a0) :
    Does Tryd.prog 166 [v1] σ [] (fun v τ gs => ∃ (v94 : Value), gs = [] ∧ v94 = v ∧ Sl (kSl (kI .u8)) τ v94 r) := by
  refine call_of Tryd.func166 Tryd.ntmps166 rfl rfl (fun cs fs => ?_)
  refine st_seq ?_
  refine st_region ?_
  refine o_assign rfl rfl rfl rfl ?_
  refine st_end ?_
  refine st_seq ?_
  refine st_region ?_
  refine o_assign rfl rfl rfl rfl ?_
  refine st_end ?_
  refine st_seq ?_
  refine st_region ?_
  refine o_assign rfl rfl rfl rfl ?_
  refine st_end ?_
  refine st_seq ?_
  refine st_region ?_
  refine o_assign rfl rfl rfl rfl ?_
  refine st_end ?_
  refine st_seq ?_
  refine st_cut (fun ρ τ3 gs => ∃ (s3 : List (List Int) × List Int × Bool) (v4 : Value) (g5 : Grp) (v7 : Value) (g8 : Grp), ref05_Blocks_j1 s3 r ∧ σ.Le τ3 ∧ ρ = [(2, .slice none 0 0), (3, v4), (4, v7), (5, .bool s3.2.2)] ∧ gs = [g5, g8] ∧ Ow (kSl (kI .u8)) 67 τ3 v4 s3.1 g5 ∧ Ow (kI .u8) 5 τ3 v7 s3.2.1 g8) ?_ (fun hk3 => ?_)
  · rintro ρ3 τ3 gs3 ⟨s3, v4, g5, v7, g8, h, hl3, rfl, rfl, ho6, ho9⟩
    refine st_seq ?_
    refine st_cut (fun ρ τ10 gs => ∃ (s10 : List (List Int)) (v11 : Value) (g12 : Grp), ref05_Blocks_j2 s10 r ∧ τ3.Le τ10 ∧ ρ = [(2, .slice none 0 0), (3, v11)] ∧ gs = [g12] ∧ Ow (kSl (kI .u8)) 67 τ10 v11 s10 g12) ?_ (fun hk10 => ?_)
    · rintro ρ10 τ10 gs10 ⟨s10, v11, g12, h, hl10, rfl, rfl, ho13⟩
      refine st_seq ?_
      refine st_region ?_
      refine o_move rfl rfl rfl rfl ?_
      refine o_assign rfl rfl rfl rfl ?_
      refine st_end ?_
      refine st_freeze (fun τ14 hl15 hg16 => ?_)
      have hs17 := ho13.freeze hl15 hg16
      obtain rfl := Eq.symm h
      exact st_ret (gs' := []) Tryd.func166 rfl (List.Sublist.refl _) ((hl3.trans hl10).trans hl15) ⟨_, rfl, rfl, hs17⟩
    refine st_seq ?_
    refine st_region ?_
    refine o_move rfl rfl rfl rfl ?_
    refine o_not rfl rfl rfl rfl ?_
    refine st_end ?_
    refine st_cond rfl (fun hc => ?_) (fun hc => ?_)
    · replace h := (if_pos hc).mp h
      refine st_region ?_
      refine o_move rfl rfl rfl rfl ?_
      refine o_move rfl rfl rfl rfl ?_
      refine st_ord [1, 0] [g8, g5] rfl ?_
      refine st_freeze (fun τ20 hl21 hg22 => ?_)
      have hs23 := ho9.freeze hl21 hg22
      refine o_lit (dk := (kSl (kI .u8))) (xs := [s3.2.1]) (ps := [(0, [v7])]) (cs := [v7]) rfl rfl rfl z_slT137 z_zero67 ⟨rfl, ⟨_, rfl, (oneL_sl hs23)⟩, trivial⟩ rfl rfl rfl rfl (Kd.Many.cons (d := (kSl (kI .u8))) (x := s3.2.1) (a := [v7]) ⟨_, rfl, hs23⟩ Kd.Many.nil) (fun v25 g26 ho27 => ?_)
      obtain ⟨hf31, h⟩ := h
      obtain ⟨hf32, h⟩ := h
      refine st_ord [1, 0] [g5, g26] rfl ?_
      refine o_append (dk := (kSl (kI .u8))) (xs := s3.1) (ys := [s3.2.1]) rfl rfl rfl rfl z_slT137 rfl (ho6.up hl21) rfl (Ow.src (j := 1) ho27 rfl) hf31 hf32 (fun v28 g29 ho30 => ?_)
      refine o_assign rfl rfl rfl rfl ?_
      refine st_end ?_
      refine st_env (ρ' := [(2, .slice none 0 0), (3, v28)]) ⟨rfl, rfl, trivial⟩ ?_
      refine st_ord [0] [g29] rfl ?_
      exact hk10 _ _ _ ⟨(s3.1 ++ [s3.2.1]), _, _, h, hl21, rfl, rfl, ho30⟩
    · replace h := (if_neg (ne_t hc)).mp h
      refine st_skip ?_
      refine st_env (ρ' := [(2, .slice none 0 0), (3, v4)]) ⟨rfl, rfl, trivial⟩ ?_
      refine st_ord [0] [g5] rfl ?_
      exact hk10 _ _ _ ⟨s3.1, _, _, h, (Sto.Le.refl _), rfl, rfl, ho6⟩
  refine st_seq ?_
  refine st_region ?_
  refine o_assign rfl rfl rfl rfl ?_
  refine st_end ?_
  obtain ⟨e33, hL33, hA33⟩ := h
  refine st_env (ρ' := [(0, v1), (2, .slice none 0 0), (3, .slice none 0 0), (4, .slice none 0 0), (5, .bool false), (6, .int .i64 0)]) ⟨rfl, rfl, rfl, rfl, rfl, rfl, trivial⟩ ?_
  refine st_addNil ?_
  refine st_addNil ?_
  refine st_loop hL33 (fun (s33 : List (List Int) × List Int × Bool × Int) ρ τ33 gs => σ.Le τ33 ∧ ∃ (v34 : Value) (g35 : Grp) (v37 : Value) (g38 : Grp), ρ = [(0, v1), (2, .slice none 0 0), (3, v34), (4, v37), (5, .bool s33.2.2.1), (6, .int .i64 s33.2.2.2)] ∧ gs = [g35, g38] ∧ Ow (kSl (kI .u8)) 67 τ33 v34 s33.1 g35 ∧ Ow (kI .u8) 5 τ33 v37 s33.2.1 g38) ⟨Sto.Le.refl _, _, _, _, _, rfl, rfl, Ow.nil, Ow.nil⟩ ?_
  rintro s33 o33 h he33 ρ33 τ33 gs33 ⟨hl33, v34, g35, v37, g38, rfl, rfl, ho36, ho39⟩ hn33
  refine st_seq ?_
  refine st_seq ?_
  refine st_region ?_
  refine o_move rfl rfl rfl rfl ?_
  refine o_move rfl rfl rfl rfl ?_
  refine o_lenI rfl rfl rfl z_slT67 rfl (hs2.up hl33) ?_
  refine o_ibin (v := .bool (decide (s33.2.2.2 < (a0.length : Int)))) rfl rfl rfl rfl rfl rfl ?_
  refine st_end ?_
  refine st_cond rfl (fun hc => ?_) (fun hc => ?_)
  · replace h := (if_pos hc).mp h
    refine st_skip ?_
    refine st_seq ?_
    refine st_cut (fun ρ τ40 gs => ∃ (s40 : List (List Int) × List Int × Bool) (v41 : Value) (g42 : Grp) (v44 : Value) (g45 : Grp), ref05_Blocks_j4 s33 s40 o33 ∧ τ33.Le τ40 ∧ ρ = [(0, v1), (2, .slice none 0 0), (3, v41), (4, v44), (5, .bool s40.2.2), (6, .int .i64 s33.2.2.2)] ∧ gs = [g42, g45] ∧ Ow (kSl (kI .u8)) 67 τ40 v41 s40.1 g42 ∧ Ow (kI .u8) 5 τ40 v44 s40.2.1 g45) ?_ (fun hk40 => ?_)
    · rintro ρ40 τ40 gs40 ⟨s40, v41, g42, v44, g45, h, hl40, rfl, rfl, ho43, ho46⟩
      refine st_region ?_
      refine o_move rfl rfl rfl rfl ?_
      refine o_ibin (v := .int .i64 (IntKind.i64.wrap (s33.2.2.2 + 1))) rfl rfl rfl rfl rfl rfl ?_
      refine o_assign rfl rfl rfl rfl ?_
      refine st_end ?_
      refine st_env (ρ' := [(0, v1), (2, .slice none 0 0), (3, v41), (4, v44), (5, .bool s40.2.2), (6, .int .i64 (IntKind.i64.wrap (s33.2.2.2 + 1)))]) ⟨rfl, rfl, rfl, rfl, rfl, rfl, trivial⟩ ?_
      exact hn33 _ _ _ _ h ⟨(hl33.trans hl40), _, _, _, _, rfl, rfl, ho43, ho46⟩
    refine st_block ?_
    refine st_seq ?_
    refine st_region ?_
    refine o_assign rfl rfl rfl rfl ?_
    refine st_end ?_
    refine st_seq ?_
    refine st_seq ?_
    refine st_region ?_
    refine o_move rfl rfl rfl rfl ?_
    refine o_move rfl rfl rfl rfl ?_
    obtain ⟨q47, hf48, h⟩ := h
    refine o_index rfl rfl rfl z_slT67 rfl rfl (hs2.up hl33) rfl hf48 (fun b49 of50 vs hc51 hrep => ?_)
    obtain rfl := hrep
    refine o_loadI (v := .int .u8 q47) rfl rfl rfl z_sc5 rfl (hc51 0 _ rfl) ?_
    refine o_ibin (v := .bool (decide (q47 = 0))) rfl rfl rfl rfl rfl rfl ?_
    refine st_end ?_
    refine st_cond rfl (fun hc => ?_) (fun hc => ?_)
    · replace h := (if_pos hc).mp h
      refine st_seq ?_
      refine st_region ?_
      refine o_move rfl rfl rfl rfl ?_
      refine o_move rfl rfl rfl rfl ?_
      refine st_ord [1, 0] [g38, g35] rfl ?_
      refine st_freeze (fun τ52 hl53 hg54 => ?_)
      have hs55 := ho39.freeze hl53 hg54
      refine o_lit (dk := (kSl (kI .u8))) (xs := [s33.2.1]) (ps := [(0, [v37])]) (cs := [v37]) rfl rfl rfl z_slT137 z_zero67 ⟨rfl, ⟨_, rfl, (oneL_sl hs55)⟩, trivial⟩ rfl rfl rfl rfl (Kd.Many.cons (d := (kSl (kI .u8))) (x := s33.2.1) (a := [v37]) ⟨_, rfl, hs55⟩ Kd.Many.nil) (fun v57 g58 ho59 => ?_)
      obtain ⟨hf63, h⟩ := h
      obtain ⟨hf64, h⟩ := h
      refine st_ord [1, 0] [g35, g58] rfl ?_
      refine o_append (dk := (kSl (kI .u8))) (xs := s33.1) (ys := [s33.2.1]) rfl rfl rfl rfl z_slT137 rfl (ho36.up hl53) rfl (Ow.src (j := 1) ho59 rfl) hf63 hf64 (fun v60 g61 ho62 => ?_)
      refine o_assign rfl rfl rfl rfl ?_
      refine st_end ?_
      refine st_seq ?_
      refine st_region ?_
      refine o_assign rfl rfl rfl rfl ?_
      refine st_end ?_
      refine st_exit rfl ?_
      refine st_env (ρ' := [(0, v1), (2, .slice none 0 0), (3, v60), (4, .slice none 0 0), (5, .bool false), (6, .int .i64 s33.2.2.2)]) ⟨rfl, rfl, rfl, rfl, rfl, rfl, trivial⟩ ?_
      refine st_addNil ?_
      refine st_ord [1, 0] [g61, []] rfl ?_
      exact hk40 _ _ _ ⟨((s33.1 ++ [s33.2.1]), [], false), _, _, _, _, h, hl53, rfl, rfl, ho62, Ow.nil⟩
    · replace h := (if_neg (ne_t hc)).mp h
      refine st_skip ?_
      refine st_seq ?_
      refine st_region ?_
      refine o_move rfl rfl rfl rfl ?_
      refine o_move rfl rfl rfl rfl ?_
      refine o_move rfl rfl rfl rfl ?_
      obtain ⟨q65, hf66, h⟩ := h
      refine o_index rfl rfl rfl z_slT67 rfl rfl (hs2.up hl33) rfl hf66 (fun b67 of68 vs hc69 hrep => ?_)
      obtain rfl := hrep
      refine o_loadI (v := .int .u8 q65) rfl rfl rfl z_sc5 rfl (hc69 0 _ rfl) ?_
      refine o_lit (dk := (kI .u8)) (xs := [q65]) (ps := [(0, [.int .u8 q65])]) (cs := [.int .u8 q65]) rfl rfl rfl z_slT67 z_zero5 ⟨rfl, ⟨_, rfl, rfl⟩, trivial⟩ rfl rfl rfl rfl (Kd.Many.cons (d := (kI .u8)) (x := q65) (a := [.int .u8 q65]) rfl Kd.Many.nil) (fun v70 g71 ho72 => ?_)
      obtain ⟨hf76, h⟩ := h
      obtain ⟨hf77, h⟩ := h
      refine st_ord [2, 0, 0] [g38, g71, g35] rfl ?_
      refine o_append (dk := (kI .u8)) (xs := s33.2.1) (ys := [q65]) rfl rfl rfl rfl z_slT67 rfl ho39 rfl (Ow.src (j := 1) ho72 rfl) hf76 hf77 (fun v73 g74 ho75 => ?_)
      refine o_assign rfl rfl rfl rfl ?_
      refine st_end ?_
      refine st_seq ?_
      refine st_region ?_
      refine o_move rfl rfl rfl rfl ?_
      refine o_lenO rfl rfl rfl z_slT67 rfl ho75 ?_
      refine o_ibin (v := .bool (decide (((s33.2.1 ++ [q65]).length : Int) = 254))) rfl rfl rfl rfl rfl rfl ?_
      refine st_end ?_
      refine st_cond rfl (fun hc => ?_) (fun hc => ?_)
      · replace h := (if_pos hc).mp h
        refine st_seq ?_
        refine st_region ?_
        refine o_move rfl rfl rfl rfl ?_
        refine o_move rfl rfl rfl rfl ?_
        refine st_freeze (fun τ78 hl79 hg80 => ?_)
        have hs81 := ho75.freeze hl79 hg80
        refine o_lit (dk := (kSl (kI .u8))) (xs := [(s33.2.1 ++ [q65])]) (ps := [(0, [v73])]) (cs := [v73]) rfl rfl rfl z_slT137 z_zero67 ⟨rfl, ⟨_, rfl, (oneL_sl hs81)⟩, trivial⟩ rfl rfl rfl rfl (Kd.Many.cons (d := (kSl (kI .u8))) (x := (s33.2.1 ++ [q65])) (a := [v73]) ⟨_, rfl, hs81⟩ Kd.Many.nil) (fun v85 g86 ho87 => ?_)
        obtain ⟨hf91, h⟩ := h
        obtain ⟨hf92, h⟩ := h
        refine st_ord [2, 0, 0] [g35, g86, g71] rfl ?_
        refine o_append (dk := (kSl (kI .u8))) (xs := s33.1) (ys := [(s33.2.1 ++ [q65])]) rfl rfl rfl rfl z_slT137 rfl (ho36.up hl79) rfl (Ow.src (j := 1) ho87 rfl) hf91 hf92 (fun v88 g89 ho90 => ?_)
        refine o_assign rfl rfl rfl rfl ?_
        refine st_end ?_
        refine st_seq ?_
        refine st_region ?_
        refine o_assign rfl rfl rfl rfl ?_
        refine st_end ?_
        refine st_region ?_
        refine o_assign rfl rfl rfl rfl ?_
        refine st_end ?_
        refine st_inBlock ?_
        refine st_env (ρ' := [(0, v1), (2, .slice none 0 0), (3, v88), (4, .slice none 0 0), (5, .bool true), (6, .int .i64 s33.2.2.2)]) ⟨rfl, rfl, rfl, rfl, rfl, rfl, trivial⟩ ?_
        refine st_addNil ?_
        refine st_ord [1, 0] [g89, []] rfl ?_
        exact hk40 _ _ _ ⟨((s33.1 ++ [(s33.2.1 ++ [q65])]), [], true), _, _, _, _, h, hl79, rfl, rfl, ho90, Ow.nil⟩
      · replace h := (if_neg (ne_t hc)).mp h
        refine st_skip ?_
        refine st_inBlock ?_
        refine st_env (ρ' := [(0, v1), (2, .slice none 0 0), (3, v34), (4, v73), (5, .bool false), (6, .int .i64 s33.2.2.2)]) ⟨rfl, rfl, rfl, rfl, rfl, rfl, trivial⟩ ?_
        refine st_ord [2, 0] [g35, g74] rfl ?_
        exact hk40 _ _ _ ⟨(s33.1, (s33.2.1 ++ [q65]), false), _, _, _, _, h, (Sto.Le.refl _), rfl, rfl, ho36, ho75⟩
  · replace h := (if_neg (ne_t hc)).mp h
    refine st_exit rfl ?_
    obtain rfl := he33 _ h
    replace h := hA33
    refine st_env (ρ' := [(2, .slice none 0 0), (3, v34), (4, v37), (5, .bool s33.2.2.1)]) ⟨rfl, rfl, rfl, rfl, trivial⟩ ?_
    exact hk3 _ _ _ ⟨(s33.1, s33.2.1, s33.2.2.1), _, _, _, _, h, hl33, rfl, rfl, ho36, ho39⟩
theorem ref05_Encode_ok {a0 : List Int} {v1 : Value} {r : List Int} (h : ref05_Encode a0 r) (σ : Sto) (hs2 : Sl (kI .u8) σ v1 a0) :
    Does Tryd.prog 138 [v1] σ [] (fun v τ gs => ∃ (v51 : Value), gs = [] ∧ v51 = v ∧ Sl (kI .u8) τ v51 r) := by
  refine call_of Tryd.func138 Tryd.ntmps138 rfl rfl (fun cs fs => ?_)
  refine st_seq ?_
  refine st_region ?_
  refine o_assign rfl rfl rfl rfl ?_
  refine st_end ?_
  refine st_seq ?_
  refine st_region ?_
  refine o_assign rfl rfl rfl rfl ?_
  refine st_end ?_
  refine st_seq ?_
  refine st_region ?_
  refine o_move rfl rfl rfl rfl ?_
  obtain ⟨r3, hr4, h⟩ := h
  refine st_call (foot := []) rfl rfl rfl rfl rfl rfl (callV_fn z_en166 (ref05_Blocks_ok hr4 σ hs2)) ?_
  rintro vτ5 τ5 gsτ5 hl6 ⟨v7, rfl, rfl, hs8⟩
  refine o_assign rfl rfl rfl rfl ?_
  refine st_end ?_
  refine st_seq ?_
  refine st_cut (fun ρ τ9 gs => ∃ (s9 : List Int) (v10 : Value) (g11 : Grp), ref05_Encode_j1 s9 r ∧ τ5.Le τ9 ∧ ρ = [(2, .slice none 0 0), (3, v10)] ∧ gs = [g11] ∧ Ow (kI .u8) 5 τ9 v10 s9 g11) ?_ (fun hk9 => ?_)
  · rintro ρ9 τ9 gs9 ⟨s9, v10, g11, h, hl9, rfl, rfl, ho12⟩
    refine st_seq ?_
    refine st_region ?_
    refine o_move rfl rfl rfl rfl ?_
    refine o_assign rfl rfl rfl rfl ?_
    refine st_end ?_
    refine st_freeze (fun τ13 hl14 hg15 => ?_)
    have hs16 := ho12.freeze hl14 hg15
    obtain rfl := Eq.symm h
    exact st_ret (gs' := []) Tryd.func138 rfl (List.Sublist.refl _) ((hl6.trans hl9).trans hl14) ⟨_, rfl, rfl, hs16⟩
  refine st_seq ?_
  refine st_region ?_
  refine o_assign rfl rfl rfl rfl ?_
  refine st_end ?_
  obtain ⟨e19, hL19, hA19⟩ := h
  refine st_env (ρ' := [(2, .slice none 0 0), (3, .slice none 0 0), (4, v7), (5, .int .i64 0)]) ⟨rfl, rfl, rfl, rfl, trivial⟩ ?_
  refine st_addNil ?_
  refine st_loop hL19 (fun (s19 : List Int × Int) ρ τ19 gs => τ5.Le τ19 ∧ ∃ (v20 : Value) (g21 : Grp), ρ = [(2, .slice none 0 0), (3, v20), (4, v7), (5, .int .i64 s19.2)] ∧ gs = [g21] ∧ Ow (kI .u8) 5 τ19 v20 s19.1 g21) ⟨Sto.Le.refl _, _, _, rfl, rfl, Ow.nil⟩ ?_
  rintro s19 o19 h he19 ρ19 τ19 gs19 ⟨hl19, v20, g21, rfl, rfl, ho22⟩ hn19
  refine st_seq ?_
  refine st_seq ?_
  refine st_region ?_
  refine o_move rfl rfl rfl rfl ?_
  refine o_move rfl rfl rfl rfl ?_
  refine o_lenI rfl rfl rfl z_slT137 rfl (hs8.up hl19) ?_
  refine o_ibin (v := .bool (decide (s19.2 < (r3.length : Int)))) rfl rfl rfl rfl rfl rfl ?_
  refine st_end ?_
  refine st_cond rfl (fun hc => ?_) (fun hc => ?_)
  · replace h := (if_pos hc).mp h
    refine st_skip ?_
    refine st_seq ?_
    refine st_block ?_
    refine st_seq ?_
    refine st_region ?_
    refine o_move rfl rfl rfl rfl ?_
    refine o_move rfl rfl rfl rfl ?_
    refine o_move rfl rfl rfl rfl ?_
    obtain ⟨q23, hf24, h⟩ := h
    refine o_index rfl rfl rfl z_slT137 rfl rfl (hs8.up hl19) rfl hf24 (fun b25 of26 vs hc28 hrep => ?_)
    obtain ⟨v27, rfl, hs29⟩ := hrep
    refine o_loadI (v := v27) rfl rfl rfl z_sc67 rfl (hc28 0 _ rfl) ?_
    refine o_lenI rfl rfl rfl z_slT67 rfl hs29 ?_
    refine o_ibin (v := .int .i64 (IntKind.i64.wrap ((q23.length : Int) + 1))) rfl rfl rfl rfl rfl rfl ?_
    refine o_conv rfl rfl rfl Tryd.underlying3 Tryd.underlying5 rfl ?_
    refine o_lit (dk := (kI .u8)) (xs := [(IntKind.u8.wrap (IntKind.i64.wrap ((q23.length : Int) + 1)))]) (ps := [(0, [.int .u8 (IntKind.u8.wrap (IntKind.i64.wrap ((q23.length : Int) + 1)))])]) (cs := [.int .u8 (IntKind.u8.wrap (IntKind.i64.wrap ((q23.length : Int) + 1)))]) rfl rfl rfl z_slT67 z_zero5 ⟨rfl, ⟨_, rfl, rfl⟩, trivial⟩ rfl rfl rfl rfl (Kd.Many.cons (d := (kI .u8)) (x := (IntKind.u8.wrap (IntKind.i64.wrap ((q23.length : Int) + 1)))) (a := [.int .u8 (IntKind.u8.wrap (IntKind.i64.wrap ((q23.length : Int) + 1)))]) rfl Kd.Many.nil) (fun v30 g31 ho32 => ?_)
    obtain ⟨hf36, h⟩ := h
    obtain ⟨hf37, h⟩ := h
    refine st_ord [1, 0] [g21, g31] rfl ?_
    refine o_append (dk := (kI .u8)) (xs := s19.1) (ys := [(IntKind.u8.wrap (IntKind.i64.wrap ((q23.length : Int) + 1)))]) rfl rfl rfl rfl z_slT67 rfl ho22 rfl (Ow.src (j := 1) ho32 rfl) hf36 hf37 (fun v33 g34 ho35 => ?_)
    refine o_assign rfl rfl rfl rfl ?_
    refine st_end ?_
    refine st_region ?_
    refine o_move rfl rfl rfl rfl ?_
    refine o_move rfl rfl rfl rfl ?_
    refine o_move rfl rfl rfl rfl ?_
    obtain ⟨q38, hf39, h⟩ := h
    refine o_index rfl rfl rfl z_slT137 rfl rfl (hs8.up hl19) rfl hf39 (fun b40 of41 vs hc43 hrep => ?_)
    obtain ⟨v42, rfl, hs44⟩ := hrep
    refine o_loadI (v := v42) rfl rfl rfl z_sc67 rfl (hc43 0 _ rfl) ?_
    obtain ⟨hf48, h⟩ := h
    obtain ⟨hf49, h⟩ := h
    refine o_append (dk := (kI .u8)) (xs := (s19.1 ++ [(IntKind.u8.wrap (IntKind.i64.wrap ((q23.length : Int) + 1)))])) (ys := q38) rfl rfl rfl rfl z_slT67 rfl ho35 rfl (Sl.src hs44) hf48 hf49 (fun v45 g46 ho47 => ?_)
    refine o_assign rfl rfl rfl rfl ?_
    refine st_end ?_
    refine st_inBlock ?_
    refine st_region ?_
    refine o_move rfl rfl rfl rfl ?_
    refine o_ibin (v := .int .i64 (IntKind.i64.wrap (s19.2 + 1))) rfl rfl rfl rfl rfl rfl ?_
    refine o_assign rfl rfl rfl rfl ?_
    refine st_end ?_
    refine st_env (ρ' := [(2, .slice none 0 0), (3, v45), (4, v7), (5, .int .i64 (IntKind.i64.wrap (s19.2 + 1)))]) ⟨rfl, rfl, rfl, rfl, trivial⟩ ?_
    refine st_ord [0] [g46] rfl ?_
    exact hn19 _ _ _ _ h ⟨hl19, _, _, rfl, rfl, ho47⟩
  · replace h := (if_neg (ne_t hc)).mp h
    refine st_exit rfl ?_
    obtain rfl := he19 _ h
    replace h := hA19
    refine st_env (ρ' := [(2, .slice none 0 0), (3, v20)]) ⟨rfl, rfl, trivial⟩ ?_
    exact hk9 _ _ _ ⟨s19.1, _, _, h, hl19, rfl, rfl, ho22⟩
theorem ref01_Same_ok {a0 : List Int} {a1 : List Int} {v1 : Value} {v3 : Value} {r : Bool} (h : ref01_Same a0 a1 r) (σ : Sto) (hs2 : Sl (kI .u8) σ v1 a0) (hs4 : Sl (kI .u8) σ v3 a1) :
    Does Tryd.prog 39 [v1, v3] σ [] (fun v τ gs => gs = [] ∧ .bool r = v) := by
  refine call_of Tryd.func39 Tryd.ntmps39 rfl rfl (fun cs fs => ?_)
  refine st_seq ?_
  refine st_region ?_
  refine o_assign rfl rfl rfl rfl ?_
  refine st_end ?_
  refine st_seq ?_
  refine st_seq ?_
  refine st_region ?_
  refine o_move rfl rfl rfl rfl ?_
  refine o_lenI rfl rfl rfl z_slT67 rfl hs2 ?_
  refine o_move rfl rfl rfl rfl ?_
  refine o_lenI rfl rfl rfl z_slT67 rfl hs4 ?_
  refine o_ibin (v := .bool (!(decide ((a0.length : Int) = (a1.length : Int))))) rfl rfl rfl rfl rfl rfl ?_
  refine st_end ?_
  refine st_cond rfl (fun hc => ?_) (fun hc => ?_)
  · replace h := (if_pos hc).mp h
    refine st_seq ?_
    refine st_region ?_
    refine o_assign rfl rfl rfl rfl ?_
    refine st_end ?_
    obtain rfl := Eq.symm h
    exact st_ret (gs' := []) Tryd.func39 rfl (List.Sublist.refl _) (Sto.Le.refl _) ⟨rfl, rfl⟩
  · replace h := (if_neg (ne_t hc)).mp h
    refine st_skip ?_
    refine st_seq ?_
    refine st_cut (fun ρ τ5 gs => ∃ (s5 : Unit), ref01_Same_j1 s5 r ∧ σ.Le τ5 ∧ ρ = [(4, .bool false)] ∧ gs = []) ?_ (fun hk5 => ?_)
    · rintro ρ5 τ5 gs5 ⟨s5, h, hl5, rfl, rfl⟩
      refine st_seq ?_
      refine st_region ?_
      refine o_assign rfl rfl rfl rfl ?_
      refine st_end ?_
      obtain rfl := Eq.symm h
      exact st_ret (gs' := []) Tryd.func39 rfl (List.Sublist.refl _) hl5 ⟨rfl, rfl⟩
    refine st_seq ?_
    refine st_region ?_
    refine o_assign rfl rfl rfl rfl ?_
    refine st_end ?_
    obtain ⟨e6, hL6, hA6⟩ := h
    refine st_env (ρ' := [(0, v1), (1, v3), (4, .bool false), (5, .int .i64 0)]) ⟨rfl, rfl, rfl, rfl, trivial⟩ ?_
    refine st_loop hL6 (fun (s6 : Int) ρ τ6 gs => σ.Le τ6 ∧ ρ = [(0, v1), (1, v3), (4, .bool false), (5, .int .i64 s6)] ∧ gs = []) ⟨Sto.Le.refl _, rfl, rfl⟩ ?_
    rintro s6 o6 h he6 ρ6 τ6 gs6 ⟨hl6, rfl, rfl⟩ hn6
    refine st_seq ?_
    refine st_seq ?_
    refine st_region ?_
    refine o_move rfl rfl rfl rfl ?_
    refine o_move rfl rfl rfl rfl ?_
    refine o_lenI rfl rfl rfl z_slT67 rfl (hs2.up hl6) ?_
    refine o_ibin (v := .bool (decide (s6 < (a0.length : Int)))) rfl rfl rfl rfl rfl rfl ?_
    refine st_end ?_
    refine st_cond rfl (fun hc => ?_) (fun hc => ?_)
    · replace h := (if_pos hc).mp h
      refine st_skip ?_
      refine st_seq ?_
      refine st_block ?_
      refine st_seq ?_
      obtain ⟨q7, hf8, h⟩ := h
      obtain ⟨q12, hf13, h⟩ := h
      refine st_draw 9 (tl [fun τ v => (v1 : Value) = v,
    fun τ v => (.int .i64 s6 : Value) = v,
    fun τ v => ∃ (b9 : Nat) (of10 : Nat) (vsb9 : List Value), (.pointer (some ⟨b9, of10, none⟩) : Value) = v ∧ CelN τ ⟨b9, of10, none⟩ vsb9 ∧ (kI .u8).rep τ vsb9 q7,
    fun τ v => (.int .u8 q7 : Value) = v,
    fun τ v => (v3 : Value) = v,
    fun τ v => (.int .i64 s6 : Value) = v,
    fun τ v => ∃ (b14 : Nat) (of15 : Nat) (vsb14 : List Value), (.pointer (some ⟨b14, of15, none⟩) : Value) = v ∧ CelN τ ⟨b14, of15, none⟩ vsb14 ∧ (kI .u8).rep τ vsb14 q12,
    fun τ v => (.int .u8 q12 : Value) = v,
    fun τ v => (.bool (!(decide (q7 = q12))) : Value) = v]) (fun _ _ => []) z_mix rfl (tl_mono ⟨fun _ _ _ _ h => h, ⟨fun _ _ _ _ h => h, ⟨fun _ _ _ hl ⟨b9, of10, vsb9, hv, hc11, hrepb9⟩ => ⟨b9, of10, vsb9, hv, hc11.up hl, Kd.mono _ hl hrepb9⟩, ⟨fun _ _ _ _ h => h, ⟨fun _ _ _ _ h => h, ⟨fun _ _ _ _ h => h, ⟨fun _ _ _ hl ⟨b14, of15, vsb14, hv, hc16, hrepb14⟩ => ⟨b14, of15, vsb14, hv, hc16.up hl, Kd.mono _ hl hrepb14⟩, ⟨fun _ _ _ _ h => h, ⟨fun _ _ _ _ h => h, trivial⟩⟩⟩⟩⟩⟩⟩⟩⟩) (allB_cons (allB_cons (allB_cons (allB_cons (allB_cons (allB_cons (allB_cons (allB_cons (allB_cons allB_nil ?_) ?_) ?_) ?_) ?_) ?_) ?_) ?_) ?_) ?_
      · intro ρ' τ pool rs hl hd hout hk
        refine o_move rfl rfl rfl ((hout 0 rfl).trans rfl) ?_
        exact st_addNil (hk _ _ (Sto.Le.refl _) rfl)
      · intro ρ' τ pool rs hl hd hout hk
        refine o_move rfl rfl rfl ((hout 5 rfl).trans rfl) ?_
        exact st_addNil (hk _ _ (Sto.Le.refl _) rfl)
      · intro ρ' τ pool rs hl hd hout hk
        obtain ⟨_, e0, rfl⟩ := hd 0 rfl
        obtain ⟨_, e1, rfl⟩ := hd 1 rfl
        refine o_index rfl rfl rfl z_slT67 rfl e0 (hs2.up (hl6.trans hl)) e1 hf8 (fun b9 of10 vsb9 hc11 hrepb9 => ?_)
        exact st_addNil (hk _ _ (Sto.Le.refl _) ⟨b9, of10, _, rfl, hc11, hrepb9⟩)
      · intro ρ' τ pool rs hl hd hout hk
        obtain ⟨_, e2, b9, of10, vsb9, rfl, hc11, hrepb9⟩ := hd 2 rfl
        have hrepb9 := hrepb9
        obtain rfl := hrepb9
        refine o_loadI (v := .int .u8 q7) rfl rfl rfl z_sc5 e2 (hc11 0 _ rfl) ?_
        exact st_addNil (hk _ _ (Sto.Le.refl _) rfl)
      · intro ρ' τ pool rs hl hd hout hk
        refine o_move rfl rfl rfl ((hout 1 rfl).trans rfl) ?_
        exact st_addNil (hk _ _ (Sto.Le.refl _) rfl)
      · intro ρ' τ pool rs hl hd hout hk
        refine o_move rfl rfl rfl ((hout 5 rfl).trans rfl) ?_
        exact st_addNil (hk _ _ (Sto.Le.refl _) rfl)
      · intro ρ' τ pool rs hl hd hout hk
        obtain ⟨_, e4, rfl⟩ := hd 4 rfl
        obtain ⟨_, e5, rfl⟩ := hd 5 rfl
        refine o_index rfl rfl rfl z_slT67 rfl e4 (hs4.up (hl6.trans hl)) e5 hf13 (fun b14 of15 vsb14 hc16 hrepb14 => ?_)
        exact st_addNil (hk _ _ (Sto.Le.refl _) ⟨b14, of15, _, rfl, hc16, hrepb14⟩)
      · intro ρ' τ pool rs hl hd hout hk
        obtain ⟨_, e6, b14, of15, vsb14, rfl, hc16, hrepb14⟩ := hd 6 rfl
        have hrepb14 := hrepb14
        obtain rfl := hrepb14
        refine o_loadI (v := .int .u8 q12) rfl rfl rfl z_sc5 e6 (hc16 0 _ rfl) ?_
        exact st_addNil (hk _ _ (Sto.Le.refl _) rfl)
      · intro ρ' τ pool rs hl hd hout hk
        obtain ⟨_, e3, rfl⟩ := hd 3 rfl
        obtain ⟨_, e7, rfl⟩ := hd 7 rfl
        refine o_ibin (v := .bool (!(decide (q7 = q12)))) rfl rfl rfl e3 e7 rfl ?_
        exact st_addNil (hk _ _ (Sto.Le.refl _) rfl)
      intro ρ' τ17 vals hl17 hv hout
      have l8 : Eng.look ρ' 25 = some (.bool (!(decide (q7 = q12)))) := ((hv 8 (by decide)).1).trans (congrArg some (show vals 8 = .bool (!(decide (q7 = q12))) from Eq.symm (hv 8 (by decide)).2))
      refine st_ord [] [] rfl ?_
      refine st_env (ρ' := [(25, .bool (!(decide (q7 = q12)))), (0, v1), (1, v3), (4, .bool false), (5, .int .i64 s6)]) ⟨l8, (hout 0 rfl).trans rfl, (hout 1 rfl).trans rfl, (hout 4 rfl).trans rfl, (hout 5 rfl).trans rfl, trivial⟩ ?_
      refine st_end ?_
      refine st_cond rfl (fun hc => ?_) (fun hc => ?_)
      · replace h := (if_pos hc).mp h
        refine st_seq ?_
        refine st_region ?_
        refine o_assign rfl rfl rfl rfl ?_
        refine st_end ?_
        obtain rfl := he6 _ h
        replace h := hA6
        obtain rfl := Eq.symm h
        exact st_ret (gs' := []) Tryd.func39 rfl (List.Sublist.refl _) (hl6.trans hl17) ⟨rfl, rfl⟩
      · replace h := (if_neg (ne_t hc)).mp h
        refine st_skip ?_
        refine st_inBlock ?_
        refine st_region ?_
        refine o_move rfl rfl rfl rfl ?_
        refine o_ibin (v := .int .i64 (IntKind.i64.wrap (s6 + 1))) rfl rfl rfl rfl rfl rfl ?_
        refine o_assign rfl rfl rfl rfl ?_
        refine st_end ?_
        refine st_env (ρ' := [(0, v1), (1, v3), (4, .bool false), (5, .int .i64 (IntKind.i64.wrap (s6 + 1)))]) ⟨rfl, rfl, rfl, rfl, trivial⟩ ?_
        exact hn6 _ _ _ _ h ⟨(hl6.trans hl17), rfl, rfl⟩
    · replace h := (if_neg (ne_t hc)).mp h
      refine st_exit rfl ?_
      obtain rfl := he6 _ h
      replace h := hA6
      refine st_env (ρ' := [(4, .bool false)]) ⟨rfl, trivial⟩ ?_
      exact hk5 _ _ _ ⟨(), h, hl6, rfl, rfl⟩
theorem ref04_Of_ok {a0 : Int} {r : List Bool} (h : ref04_Of a0 r) (σ : Sto)  :
    Does Tryd.prog 167 [.int .u32 a0] σ [] (fun v τ gs => gs = [] ∧ .agg (cellsN Value.bool false 32 r).toArray = v) := by
  refine call_of Tryd.func167 Tryd.ntmps167 rfl rfl (fun cs fs => ?_)
  refine st_seq ?_
  refine st_region ?_
  refine o_alloc rfl rfl rfl z_zero248 (fun b1 => ?_)
  refine st_end ?_
  refine st_seq ?_
  refine st_region ?_
  refine o_alloc rfl rfl rfl z_zero248 (fun b2 => ?_)
  refine st_end ?_
  refine st_seq ?_
  refine st_cut (fun ρ τ3 gs => ∃ (s3 : List Bool), ref04_Of_j1 s3 r ∧ σ.Le τ3 ∧ ρ = [(2, .pointer (some ⟨b1, 0, none⟩)), (3, .pointer (some ⟨b2, 0, none⟩))] ∧ gs = [[(b1, .cells (cellsN Value.bool false 32 (List.replicate 32 false)).toArray 248 (0, 0))], [(b2, .cells (cellsN Value.bool false 32 s3).toArray 248 (0, 0))]]) ?_ (fun hk3 => ?_)
  · rintro ρ3 τ3 gs3 ⟨s3, h, hl3, rfl, rfl⟩
    refine st_seq ?_
    refine st_region ?_
    refine o_loadN (j := 1) (vs := (cellsN Value.bool false 32 s3)) rfl rfl rfl z_agg248 rfl rfl rfl ?_
    refine o_store (j := 0) (vs := (cellsN Value.bool false 32 s3)) (cs' := (cellsN Value.bool false 32 s3)) rfl rfl rfl z_size248 rfl rfl rfl ones_cellsNB rfl rfl rfl ?_
    refine st_gs [[(b1, .cells (cellsN Value.bool false 32 s3).toArray 248 (0, 0))], [(b2, .cells (cellsN Value.bool false 32 s3).toArray 248 (0, 0))]] rfl ?_
    refine st_end ?_
    obtain rfl := Eq.symm h
    exact st_retC (gs' := []) [.agg (cellsN Value.bool false 32 s3).toArray] Tryd.func167 ⟨⟨_, _, _, _, rfl, mem_flat 0 rfl, fun w hw => cellOfN (vs := (cellsN Value.bool false 32 s3)) z_agg248 rfl w hw⟩, trivial⟩ (by simp) hl3 ⟨rfl, rfl⟩
  refine st_seq ?_
  refine st_region ?_
  refine o_assign rfl rfl rfl rfl ?_
  refine st_end ?_
  obtain ⟨e4, hL4, hA4⟩ := h
  refine st_env (ρ' := [(0, .int .u32 a0), (2, .pointer (some ⟨b1, 0, none⟩)), (3, .pointer (some ⟨b2, 0, none⟩)), (4, .int .i64 0)]) ⟨rfl, rfl, rfl, rfl, trivial⟩ ?_
  refine st_ord [1, 0] [[(b1, .cells (cellsN Value.bool false 32 (List.replicate 32 false)).toArray 248 (0, 0))], [(b2, .cells (cellsN Value.bool false 32 (List.replicate 32 false)).toArray 248 (0, 0))]] rfl ?_
  refine st_loop hL4 (fun (s4 : Int × Int × List Bool) ρ τ4 gs => σ.Le τ4 ∧ ρ = [(0, .int .u32 s4.1), (2, .pointer (some ⟨b1, 0, none⟩)), (3, .pointer (some ⟨b2, 0, none⟩)), (4, .int .i64 s4.2.1)] ∧ gs = [[(b1, .cells (cellsN Value.bool false 32 (List.replicate 32 false)).toArray 248 (0, 0))], [(b2, .cells (cellsN Value.bool false 32 s4.2.2).toArray 248 (0, 0))]]) ⟨Sto.Le.refl _, rfl, rfl⟩ ?_
  rintro s4 o4 h he4 ρ4 τ4 gs4 ⟨hl4, rfl, rfl⟩ hn4
  refine st_seq ?_
  refine st_seq ?_
  refine st_region ?_
  refine o_move rfl rfl rfl rfl ?_
  refine o_ibin (v := .bool (decide (s4.2.1 < 32))) rfl rfl rfl rfl rfl rfl ?_
  refine st_end ?_
  refine st_cond rfl (fun hc => ?_) (fun hc => ?_)
  · replace h := (if_pos hc).mp h
    refine st_skip ?_
    refine st_seq ?_
    refine st_block ?_
    refine st_seq ?_
    refine st_region ?_
    refine o_move rfl rfl rfl rfl ?_
    refine o_move rfl rfl rfl rfl ?_
    refine o_rem rfl rfl rfl rfl rfl (by decide) ?_
    refine o_ibin (v := .bool (decide ((s4.1.tmod 2) = 1))) rfl rfl rfl rfl rfl rfl ?_
    obtain ⟨hf5, h⟩ := h
    obtain ⟨hf6, h⟩ := h
    refine o_indexA rfl rfl rfl z_arr248 rfl rfl hf5 hf6 ?_
    refine o_storeB (j := 1) (q := s4.2.1.toNat) (f := Value.bool) (zz := false) (a := (decide ((s4.1.tmod 2) = 1))) (l := 32) (xs := s4.2.2) rfl rfl rfl z_size4 rfl rfl rfl rfl rfl (by omega) (by omega) ?_
    refine st_gs [[(b1, .cells (cellsN Value.bool false 32 (List.replicate 32 false)).toArray 248 (0, 0))], [(b2, .cells (cellsN Value.bool false 32 (putN 32 false s4.2.2 s4.2.1.toNat (decide ((s4.1.tmod 2) = 1)))).toArray 248 (0, 0))]] rfl ?_
    refine st_end ?_
    refine st_region ?_
    refine o_move rfl rfl rfl rfl ?_
    refine o_quo rfl rfl rfl rfl rfl (by decide) ?_
    refine o_assign rfl rfl rfl rfl ?_
    refine st_end ?_
    refine st_inBlock ?_
    refine st_region ?_
    refine o_move rfl rfl rfl rfl ?_
    refine o_ibin (v := .int .i64 (IntKind.i64.wrap (s4.2.1 + 1))) rfl rfl rfl rfl rfl rfl ?_
    refine o_assign rfl rfl rfl rfl ?_
    refine st_end ?_
    refine st_env (ρ' := [(0, .int .u32 (IntKind.u32.wrap (s4.1.tdiv 2))), (2, .pointer (some ⟨b1, 0, none⟩)), (3, .pointer (some ⟨b2, 0, none⟩)), (4, .int .i64 (IntKind.i64.wrap (s4.2.1 + 1)))]) ⟨rfl, rfl, rfl, rfl, trivial⟩ ?_
    exact hn4 _ _ _ _ h ⟨hl4, rfl, rfl⟩
  · replace h := (if_neg (ne_t hc)).mp h
    refine st_exit rfl ?_
    obtain rfl := he4 _ h
    replace h := hA4
    refine st_env (ρ' := [(2, .pointer (some ⟨b1, 0, none⟩)), (3, .pointer (some ⟨b2, 0, none⟩))]) ⟨rfl, rfl, trivial⟩ ?_
    exact hk3 _ _ _ ⟨s4.2.2, h, hl4, rfl, rfl⟩
theorem ref04_Xor_ok {a0 : List Bool} {a1 : List Bool} {r : List Bool} (h : ref04_Xor a0 a1 r) (σ : Sto)  :
    Does Tryd.prog 169 [.agg (cellsN Value.bool false 32 a0).toArray, .agg (cellsN Value.bool false 32 a1).toArray] σ [] (fun v τ gs => gs = [] ∧ .agg (cellsN Value.bool false 32 r).toArray = v) := by
  refine call_of Tryd.func169 Tryd.ntmps169 rfl rfl (fun cs fs => ?_)
  refine st_seq ?_
  refine st_region ?_
  refine o_box (cs := (cellsN Value.bool false 32 a0)) rfl rfl rfl rfl rfl (fun b1 => ?_)
  refine o_box (cs := (cellsN Value.bool false 32 a1)) rfl rfl rfl rfl rfl (fun b2 => ?_)
  refine o_alloc rfl rfl rfl z_zero248 (fun b3 => ?_)
  refine st_end ?_
  refine st_seq ?_
  refine st_cut (fun ρ τ4 gs => ∃ (s4 : List Bool), ref04_Xor_j1 s4 r ∧ σ.Le τ4 ∧ ρ = [(2, .pointer (some ⟨b1, 0, none⟩)), (4, .pointer (some ⟨b3, 0, none⟩))] ∧ gs = [[(b1, .cells (cellsN Value.bool false 32 s4).toArray 248 (0, 0))], [(b3, .cells (cellsN Value.bool false 32 (List.replicate 32 false)).toArray 248 (0, 0))]]) ?_ (fun hk4 => ?_)
  · rintro ρ4 τ4 gs4 ⟨s4, h, hl4, rfl, rfl⟩
    refine st_seq ?_
    refine st_region ?_
    refine o_loadN (j := 0) (vs := (cellsN Value.bool false 32 s4)) rfl rfl rfl z_agg248 rfl rfl rfl ?_
    refine o_store (j := 1) (vs := (cellsN Value.bool false 32 s4)) (cs' := (cellsN Value.bool false 32 s4)) rfl rfl rfl z_size248 rfl rfl rfl ones_cellsNB rfl rfl rfl ?_
    refine st_gs [[(b1, .cells (cellsN Value.bool false 32 s4).toArray 248 (0, 0))], [(b3, .cells (cellsN Value.bool false 32 s4).toArray 248 (0, 0))]] rfl ?_
    refine st_end ?_
    obtain rfl := Eq.symm h
    exact st_retC (gs' := []) [.agg (cellsN Value.bool false 32 s4).toArray] Tryd.func169 ⟨⟨_, _, _, _, rfl, mem_flat 1 rfl, fun w hw => cellOfN (vs := (cellsN Value.bool false 32 s4)) z_agg248 rfl w hw⟩, trivial⟩ (by simp) hl4 ⟨rfl, rfl⟩
  refine st_seq ?_
  refine st_region ?_
  refine o_assign rfl rfl rfl rfl ?_
  refine st_end ?_
  obtain ⟨e5, hL5, hA5⟩ := h
  refine st_env (ρ' := [(2, .pointer (some ⟨b1, 0, none⟩)), (3, .pointer (some ⟨b2, 0, none⟩)), (4, .pointer (some ⟨b3, 0, none⟩)), (5, .int .i64 0)]) ⟨rfl, rfl, rfl, rfl, trivial⟩ ?_
  refine st_ord [2, 1, 0] [[(b1, .cells (cellsN Value.bool false 32 a0).toArray 248 (0, 0))], [(b2, .cells (cellsN Value.bool false 32 a1).toArray 248 (0, 0))], [(b3, .cells (cellsN Value.bool false 32 (List.replicate 32 false)).toArray 248 (0, 0))]] rfl ?_
  refine st_loop hL5 (fun (s5 : Int × List Bool) ρ τ5 gs => σ.Le τ5 ∧ ρ = [(2, .pointer (some ⟨b1, 0, none⟩)), (3, .pointer (some ⟨b2, 0, none⟩)), (4, .pointer (some ⟨b3, 0, none⟩)), (5, .int .i64 s5.1)] ∧ gs = [[(b1, .cells (cellsN Value.bool false 32 s5.2).toArray 248 (0, 0))], [(b2, .cells (cellsN Value.bool false 32 a1).toArray 248 (0, 0))], [(b3, .cells (cellsN Value.bool false 32 (List.replicate 32 false)).toArray 248 (0, 0))]]) ⟨Sto.Le.refl _, rfl, rfl⟩ ?_
  rintro s5 o5 h he5 ρ5 τ5 gs5 ⟨hl5, rfl, rfl⟩ hn5
  refine st_seq ?_
  refine st_seq ?_
  refine st_region ?_
  refine o_move rfl rfl rfl rfl ?_
  refine o_ibin (v := .bool (decide (s5.1 < 32))) rfl rfl rfl rfl rfl rfl ?_
  refine st_end ?_
  refine st_cond rfl (fun hc => ?_) (fun hc => ?_)
  · replace h := (if_pos hc).mp h
    refine st_skip ?_
    refine st_seq ?_
    refine st_block ?_
    obtain ⟨hf6, h⟩ := h
    obtain ⟨hf7, h⟩ := h
    obtain ⟨hf8, h⟩ := h
    obtain ⟨hf9, h⟩ := h
    refine st_draw 8 (tl [fun τ v => (.int .i64 s5.1 : Value) = v,
    fun τ v => (.int .i64 s5.1 : Value) = v,
    fun τ v => (.pointer (some ⟨b1, 0 + s5.1.toNat * 1, none⟩) : Value) = v,
    fun τ v => (.bool (s5.2.getD s5.1.toNat false) : Value) = v,
    fun τ v => (.int .i64 s5.1 : Value) = v,
    fun τ v => (.pointer (some ⟨b2, 0 + s5.1.toNat * 1, none⟩) : Value) = v,
    fun τ v => (.bool (a1.getD s5.1.toNat false) : Value) = v,
    fun τ v => (.bool (!(decide ((s5.2.getD s5.1.toNat false) = (a1.getD s5.1.toNat false)))) : Value) = v]) (fun _ _ => []) z_mix rfl (tl_mono ⟨fun _ _ _ _ h => h, ⟨fun _ _ _ _ h => h, ⟨fun _ _ _ _ h => h, ⟨fun _ _ _ _ h => h, ⟨fun _ _ _ _ h => h, ⟨fun _ _ _ _ h => h, ⟨fun _ _ _ _ h => h, ⟨fun _ _ _ _ h => h, trivial⟩⟩⟩⟩⟩⟩⟩⟩) (allB_cons (allB_cons (allB_cons (allB_cons (allB_cons (allB_cons (allB_cons (allB_cons allB_nil ?_) ?_) ?_) ?_) ?_) ?_) ?_) ?_) ?_
    · intro ρ' τ pool rs hl hd hout hk
      refine o_move rfl rfl rfl ((hout 5 rfl).trans rfl) ?_
      exact st_addNil (hk _ _ (Sto.Le.refl _) rfl)
    · intro ρ' τ pool rs hl hd hout hk
      refine o_move rfl rfl rfl ((hout 5 rfl).trans rfl) ?_
      exact st_addNil (hk _ _ (Sto.Le.refl _) rfl)
    · intro ρ' τ pool rs hl hd hout hk
      obtain ⟨_, e1, rfl⟩ := hd 1 rfl
      refine o_indexA rfl rfl rfl z_arr248 ((hout 2 rfl).trans rfl) e1 hf6 hf7 ?_
      exact st_addNil (hk _ _ (Sto.Le.refl _) rfl)
    · intro ρ' τ pool rs hl hd hout hk
      obtain ⟨_, e2, rfl⟩ := hd 2 rfl
      refine o_loadB (j := 0) (q := s5.1.toNat) (f := Value.bool) (zz := false) (l := 32) (xs := s5.2) rfl rfl rfl z_sc4 e2 rfl (by omega) (by omega) ?_
      exact st_addNil (hk _ _ (Sto.Le.refl _) rfl)
    · intro ρ' τ pool rs hl hd hout hk
      refine o_move rfl rfl rfl ((hout 5 rfl).trans rfl) ?_
      exact st_addNil (hk _ _ (Sto.Le.refl _) rfl)
    · intro ρ' τ pool rs hl hd hout hk
      obtain ⟨_, e4, rfl⟩ := hd 4 rfl
      refine o_indexA rfl rfl rfl z_arr248 ((hout 3 rfl).trans rfl) e4 hf8 hf9 ?_
      exact st_addNil (hk _ _ (Sto.Le.refl _) rfl)
    · intro ρ' τ pool rs hl hd hout hk
      obtain ⟨_, e5, rfl⟩ := hd 5 rfl
      refine o_loadB (j := 1) (q := s5.1.toNat) (f := Value.bool) (zz := false) (l := 32) (xs := a1) rfl rfl rfl z_sc4 e5 rfl (by omega) (by omega) ?_
      exact st_addNil (hk _ _ (Sto.Le.refl _) rfl)
    · intro ρ' τ pool rs hl hd hout hk
      obtain ⟨_, e3, rfl⟩ := hd 3 rfl
      obtain ⟨_, e6, rfl⟩ := hd 6 rfl
      refine o_beq (e := (!(decide ((s5.2.getD s5.1.toNat false) = (a1.getD s5.1.toNat false))))) rfl rfl rfl Tryd.underlying4 e3 e6 rfl ?_
      exact st_addNil (hk _ _ (Sto.Le.refl _) rfl)
    intro ρ' τ10 vals hl10 hv hout
    have l0 : Eng.look ρ' 10 = some (.int .i64 s5.1) := ((hv 0 (by decide)).1).trans (congrArg some (show vals 0 = .int .i64 s5.1 from Eq.symm (hv 0 (by decide)).2))
    have l7 : Eng.look ρ' 17 = some (.bool (!(decide ((s5.2.getD s5.1.toNat false) = (a1.getD s5.1.toNat false))))) := ((hv 7 (by decide)).1).trans (congrArg some (show vals 7 = .bool (!(decide ((s5.2.getD s5.1.toNat false) = (a1.getD s5.1.toNat false)))) from Eq.symm (hv 7 (by decide)).2))
    refine st_ord [0, 0, 0] [[(b1, .cells (cellsN Value.bool false 32 s5.2).toArray 248 (0, 0))], [(b2, .cells (cellsN Value.bool false 32 a1).toArray 248 (0, 0))], [(b3, .cells (cellsN Value.bool false 32 (List.replicate 32 false)).toArray 248 (0, 0))]] rfl ?_
    refine st_env (ρ' := [(10, .int .i64 s5.1), (17, .bool (!(decide ((s5.2.getD s5.1.toNat false) = (a1.getD s5.1.toNat false))))), (2, .pointer (some ⟨b1, 0, none⟩)), (3, .pointer (some ⟨b2, 0, none⟩)), (4, .pointer (some ⟨b3, 0, none⟩)), (5, .int .i64 s5.1)]) ⟨l0, l7, (hout 2 rfl).trans rfl, (hout 3 rfl).trans rfl, (hout 4 rfl).trans rfl, (hout 5 rfl).trans rfl, trivial⟩ ?_
    obtain ⟨hf11, h⟩ := h
    obtain ⟨hf12, h⟩ := h
    refine o_indexA rfl rfl rfl z_arr248 rfl rfl hf11 hf12 ?_
    refine o_storeB (j := 0) (q := s5.1.toNat) (f := Value.bool) (zz := false) (a := (!(decide ((s5.2.getD s5.1.toNat false) = (a1.getD s5.1.toNat false))))) (l := 32) (xs := s5.2) rfl rfl rfl z_size4 rfl rfl rfl rfl rfl (by omega) (by omega) ?_
    refine st_gs [[(b1, .cells (cellsN Value.bool false 32 (putN 32 false s5.2 s5.1.toNat (!(decide ((s5.2.getD s5.1.toNat false) = (a1.getD s5.1.toNat false)))))).toArray 248 (0, 0))], [(b2, .cells (cellsN Value.bool false 32 a1).toArray 248 (0, 0))], [(b3, .cells (cellsN Value.bool false 32 (List.replicate 32 false)).toArray 248 (0, 0))]] rfl ?_
    refine st_end ?_
    refine st_inBlock ?_
    refine st_region ?_
    refine o_move rfl rfl rfl rfl ?_
    refine o_ibin (v := .int .i64 (IntKind.i64.wrap (s5.1 + 1))) rfl rfl rfl rfl rfl rfl ?_
    refine o_assign rfl rfl rfl rfl ?_
    refine st_end ?_
    refine st_env (ρ' := [(2, .pointer (some ⟨b1, 0, none⟩)), (3, .pointer (some ⟨b2, 0, none⟩)), (4, .pointer (some ⟨b3, 0, none⟩)), (5, .int .i64 (IntKind.i64.wrap (s5.1 + 1)))]) ⟨rfl, rfl, rfl, rfl, trivial⟩ ?_
    exact hn5 _ _ _ _ h ⟨(hl5.trans hl10), rfl, rfl⟩
  · replace h := (if_neg (ne_t hc)).mp h
    refine st_exit rfl ?_
    obtain rfl := he5 _ h
    replace h := hA5
    refine st_env (ρ' := [(2, .pointer (some ⟨b1, 0, none⟩)), (4, .pointer (some ⟨b3, 0, none⟩))]) ⟨rfl, rfl, trivial⟩ ?_
    refine st_ord [0, 1] [[(b1, .cells (cellsN Value.bool false 32 s5.2).toArray 248 (0, 0))], [(b3, .cells (cellsN Value.bool false 32 (List.replicate 32 false)).toArray 248 (0, 0))]] rfl ?_
    exact hk4 _ _ _ ⟨s5.2, h, hl5, rfl, rfl⟩
theorem ref04_Shift_ok {a0 : List Bool} {r : List Bool} (h : ref04_Shift a0 r) (σ : Sto)  :
    Does Tryd.prog 168 [.agg (cellsN Value.bool false 32 a0).toArray] σ [] (fun v τ gs => gs = [] ∧ .agg (cellsN Value.bool false 32 r).toArray = v) := by
  refine call_of Tryd.func168 Tryd.ntmps168 rfl rfl (fun cs fs => ?_)
  refine st_seq ?_
  refine st_region ?_
  refine o_box (cs := (cellsN Value.bool false 32 a0)) rfl rfl rfl rfl rfl (fun b1 => ?_)
  refine o_alloc rfl rfl rfl z_zero248 (fun b2 => ?_)
  refine st_end ?_
  refine st_seq ?_
  refine st_region ?_
  obtain ⟨r3, hr4, h⟩ := h
  refine st_call (foot := []) rfl rfl rfl rfl rfl rfl (callV_fn z_en167 (ref04_Of_ok hr4 σ)) ?_
  rintro vτ5 τ5 gsτ5 hl6 ⟨rfl, rfl⟩
  refine o_alloc rfl rfl rfl z_zero248 (fun b7 => ?_)
  refine o_store (j := 0) (vs := (cellsN Value.bool false 32 r3)) (cs' := (cellsN Value.bool false 32 r3)) rfl rfl rfl z_size248 rfl rfl rfl ones_cellsNB rfl rfl rfl ?_
  refine st_gs [[(b7, .cells (cellsN Value.bool false 32 r3).toArray 248 (0, 0))], [(b2, .cells (cellsN Value.bool false 32 (List.replicate 32 false)).toArray 248 (0, 0))], [(b1, .cells (cellsN Value.bool false 32 a0).toArray 248 (0, 0))]] rfl ?_
  refine st_end ?_
  refine st_seq ?_
  refine st_cut (fun ρ τ8 gs => ∃ (s8 : List Bool), ref04_Shift_j1 s8 r ∧ τ5.Le τ8 ∧ ρ = [(1, .pointer (some ⟨b1, 0, none⟩)), (2, .pointer (some ⟨b2, 0, none⟩))] ∧ gs = [[(b1, .cells (cellsN Value.bool false 32 s8).toArray 248 (0, 0))], [(b2, .cells (cellsN Value.bool false 32 (List.replicate 32 false)).toArray 248 (0, 0))]]) ?_ (fun hk8 => ?_)
  · rintro ρ8 τ8 gs8 ⟨s8, h, hl8, rfl, rfl⟩
    refine st_seq ?_
    refine st_region ?_
    refine o_loadN (j := 0) (vs := (cellsN Value.bool false 32 s8)) rfl rfl rfl z_agg248 rfl rfl rfl ?_
    refine o_store (j := 1) (vs := (cellsN Value.bool false 32 s8)) (cs' := (cellsN Value.bool false 32 s8)) rfl rfl rfl z_size248 rfl rfl rfl ones_cellsNB rfl rfl rfl ?_
    refine st_gs [[(b1, .cells (cellsN Value.bool false 32 s8).toArray 248 (0, 0))], [(b2, .cells (cellsN Value.bool false 32 s8).toArray 248 (0, 0))]] rfl ?_
    refine st_end ?_
    obtain rfl := Eq.symm h
    exact st_retC (gs' := []) [.agg (cellsN Value.bool false 32 s8).toArray] Tryd.func168 ⟨⟨_, _, _, _, rfl, mem_flat 1 rfl, fun w hw => cellOfN (vs := (cellsN Value.bool false 32 s8)) z_agg248 rfl w hw⟩, trivial⟩ (by simp) (hl6.trans hl8) ⟨rfl, rfl⟩
  refine st_seq ?_
  refine st_region ?_
  refine o_assign rfl rfl rfl rfl ?_
  refine st_end ?_
  obtain ⟨e9, hL9, hA9⟩ := h
  refine st_env (ρ' := [(1, .pointer (some ⟨b1, 0, none⟩)), (2, .pointer (some ⟨b2, 0, none⟩)), (3, .pointer (some ⟨b7, 0, none⟩)), (4, .int .i64 0)]) ⟨rfl, rfl, rfl, rfl, trivial⟩ ?_
  refine st_ord [2, 1, 0] [[(b1, .cells (cellsN Value.bool false 32 a0).toArray 248 (0, 0))], [(b2, .cells (cellsN Value.bool false 32 (List.replicate 32 false)).toArray 248 (0, 0))], [(b7, .cells (cellsN Value.bool false 32 r3).toArray 248 (0, 0))]] rfl ?_
  refine st_loop hL9 (fun (s9 : Int × List Bool) ρ τ9 gs => τ5.Le τ9 ∧ ρ = [(1, .pointer (some ⟨b1, 0, none⟩)), (2, .pointer (some ⟨b2, 0, none⟩)), (3, .pointer (some ⟨b7, 0, none⟩)), (4, .int .i64 s9.1)] ∧ gs = [[(b1, .cells (cellsN Value.bool false 32 s9.2).toArray 248 (0, 0))], [(b2, .cells (cellsN Value.bool false 32 (List.replicate 32 false)).toArray 248 (0, 0))], [(b7, .cells (cellsN Value.bool false 32 r3).toArray 248 (0, 0))]]) ⟨Sto.Le.refl _, rfl, rfl⟩ ?_
  rintro s9 o9 h he9 ρ9 τ9 gs9 ⟨hl9, rfl, rfl⟩ hn9
  refine st_seq ?_
  refine st_seq ?_
  refine st_region ?_
  refine o_move rfl rfl rfl rfl ?_
  refine o_ibin (v := .bool (decide (s9.1 < 8))) rfl rfl rfl rfl rfl rfl ?_
  refine st_end ?_
  refine st_cond rfl (fun hc => ?_) (fun hc => ?_)
  · replace h := (if_pos hc).mp h
    refine st_skip ?_
    refine st_seq ?_
    refine st_cut (fun ρ τ10 gs => ∃ (s10 : List Bool), ref04_Shift_j3 s9 s10 o9 ∧ τ9.Le τ10 ∧ ρ = [(1, .pointer (some ⟨b1, 0, none⟩)), (2, .pointer (some ⟨b2, 0, none⟩)), (3, .pointer (some ⟨b7, 0, none⟩)), (4, .int .i64 s9.1)] ∧ gs = [[(b1, .cells (cellsN Value.bool false 32 s10).toArray 248 (0, 0))], [(b2, .cells (cellsN Value.bool false 32 (List.replicate 32 false)).toArray 248 (0, 0))], [(b7, .cells (cellsN Value.bool false 32 r3).toArray 248 (0, 0))]]) ?_ (fun hk10 => ?_)
    · rintro ρ10 τ10 gs10 ⟨s10, h, hl10, rfl, rfl⟩
      refine st_region ?_
      refine o_move rfl rfl rfl rfl ?_
      refine o_ibin (v := .int .i64 (IntKind.i64.wrap (s9.1 + 1))) rfl rfl rfl rfl rfl rfl ?_
      refine o_assign rfl rfl rfl rfl ?_
      refine st_end ?_
      refine st_env (ρ' := [(1, .pointer (some ⟨b1, 0, none⟩)), (2, .pointer (some ⟨b2, 0, none⟩)), (3, .pointer (some ⟨b7, 0, none⟩)), (4, .int .i64 (IntKind.i64.wrap (s9.1 + 1)))]) ⟨rfl, rfl, rfl, rfl, trivial⟩ ?_
      exact hn9 _ _ _ _ h ⟨(hl9.trans hl10), rfl, rfl⟩
    refine st_block ?_
    refine st_seq ?_
    refine st_region ?_
    refine o_indexA rfl rfl rfl z_arr248 rfl rfl (by decide) (by decide) ?_
    refine o_loadB (j := 0) (q := 0) (f := Value.bool) (zz := false) (l := 32) (xs := s9.2) rfl rfl rfl z_sc4 rfl rfl (by omega) (by omega) ?_
    refine o_assign rfl rfl rfl rfl ?_
    refine st_end ?_
    refine st_seq ?_
    refine st_cut (fun ρ τ11 gs => ∃ (s11 : List Bool), ref04_Shift_j4 r3 s9 s11 o9 ∧ τ9.Le τ11 ∧ ρ = [(1, .pointer (some ⟨b1, 0, none⟩)), (2, .pointer (some ⟨b2, 0, none⟩)), (3, .pointer (some ⟨b7, 0, none⟩)), (4, .int .i64 s9.1), (5, .bool (s9.2.getD 0 false))] ∧ gs = [[(b1, .cells (cellsN Value.bool false 32 s11).toArray 248 (0, 0))], [(b2, .cells (cellsN Value.bool false 32 (List.replicate 32 false)).toArray 248 (0, 0))], [(b7, .cells (cellsN Value.bool false 32 r3).toArray 248 (0, 0))]]) ?_ (fun hk11 => ?_)
    · rintro ρ11 τ11 gs11 ⟨s11, h, hl11, rfl, rfl⟩
      refine st_seq ?_
      refine st_region ?_
      refine o_indexA rfl rfl rfl z_arr248 rfl rfl (by decide) (by decide) ?_
      refine o_storeB (j := 0) (q := 31) (f := Value.bool) (zz := false) (a := false) (l := 32) (xs := s11) rfl rfl rfl z_size4 rfl rfl rfl rfl rfl (by omega) (by omega) ?_
      refine st_gs [[(b1, .cells (cellsN Value.bool false 32 (putN 32 false s11 31 false)).toArray 248 (0, 0))], [(b2, .cells (cellsN Value.bool false 32 (List.replicate 32 false)).toArray 248 (0, 0))], [(b7, .cells (cellsN Value.bool false 32 r3).toArray 248 (0, 0))]] rfl ?_
      refine st_end ?_
      refine st_seq ?_
      refine st_region ?_
      refine o_move rfl rfl rfl rfl ?_
      refine st_end ?_
      refine st_cond rfl (fun hc => ?_) (fun hc => ?_)
      · replace h := (if_pos hc).mp h
        refine st_region ?_
        refine o_loadN (j := 0) (vs := (cellsN Value.bool false 32 (putN 32 false s11 31 false))) rfl rfl rfl z_agg248 rfl rfl rfl ?_
        refine o_loadN (j := 2) (vs := (cellsN Value.bool false 32 r3)) rfl rfl rfl z_agg248 rfl rfl rfl ?_
        obtain ⟨r12, hr13, h⟩ := h
        refine st_call (foot := []) rfl rfl rfl rfl rfl rfl (callV_fn z_en169 (ref04_Xor_ok hr13 τ11)) ?_
        rintro vτ14 τ14 gsτ14 hl15 ⟨rfl, rfl⟩
        refine o_store (j := 0) (vs := (cellsN Value.bool false 32 r12)) (cs' := (cellsN Value.bool false 32 r12)) rfl rfl rfl z_size248 rfl rfl rfl ones_cellsNB rfl rfl rfl ?_
        refine st_gs [[(b1, .cells (cellsN Value.bool false 32 r12).toArray 248 (0, 0))], [(b2, .cells (cellsN Value.bool false 32 (List.replicate 32 false)).toArray 248 (0, 0))], [(b7, .cells (cellsN Value.bool false 32 r3).toArray 248 (0, 0))]] rfl ?_
        refine st_end ?_
        refine st_inBlock ?_
        refine st_env (ρ' := [(1, .pointer (some ⟨b1, 0, none⟩)), (2, .pointer (some ⟨b2, 0, none⟩)), (3, .pointer (some ⟨b7, 0, none⟩)), (4, .int .i64 s9.1)]) ⟨rfl, rfl, rfl, rfl, trivial⟩ ?_
        exact hk10 _ _ _ ⟨r12, h, (hl11.trans hl15), rfl, rfl⟩
      · replace h := (if_neg (ne_t hc)).mp h
        refine st_skip ?_
        refine st_inBlock ?_
        refine st_env (ρ' := [(1, .pointer (some ⟨b1, 0, none⟩)), (2, .pointer (some ⟨b2, 0, none⟩)), (3, .pointer (some ⟨b7, 0, none⟩)), (4, .int .i64 s9.1)]) ⟨rfl, rfl, rfl, rfl, trivial⟩ ?_
        exact hk10 _ _ _ ⟨(putN 32 false s11 31 false), h, hl11, rfl, rfl⟩
    refine st_seq ?_
    refine st_region ?_
    refine o_assign rfl rfl rfl rfl ?_
    refine st_end ?_
    obtain ⟨e16, hL16, hA16⟩ := h
    refine st_env (ρ' := [(1, .pointer (some ⟨b1, 0, none⟩)), (2, .pointer (some ⟨b2, 0, none⟩)), (3, .pointer (some ⟨b7, 0, none⟩)), (4, .int .i64 s9.1), (5, .bool (s9.2.getD 0 false)), (6, .int .i64 0)]) ⟨rfl, rfl, rfl, rfl, rfl, rfl, trivial⟩ ?_
    refine st_loop hL16 (fun (s16 : Int × List Bool) ρ τ16 gs => τ9.Le τ16 ∧ ρ = [(1, .pointer (some ⟨b1, 0, none⟩)), (2, .pointer (some ⟨b2, 0, none⟩)), (3, .pointer (some ⟨b7, 0, none⟩)), (4, .int .i64 s9.1), (5, .bool (s9.2.getD 0 false)), (6, .int .i64 s16.1)] ∧ gs = [[(b1, .cells (cellsN Value.bool false 32 s16.2).toArray 248 (0, 0))], [(b2, .cells (cellsN Value.bool false 32 (List.replicate 32 false)).toArray 248 (0, 0))], [(b7, .cells (cellsN Value.bool false 32 r3).toArray 248 (0, 0))]]) ⟨Sto.Le.refl _, rfl, rfl⟩ ?_
    rintro s16 o16 h he16 ρ16 τ16 gs16 ⟨hl16, rfl, rfl⟩ hn16
    refine st_seq ?_
    refine st_seq ?_
    refine st_region ?_
    refine o_move rfl rfl rfl rfl ?_
    refine o_ibin (v := .bool (decide (s16.1 < 31))) rfl rfl rfl rfl rfl rfl ?_
    refine st_end ?_
    refine st_cond rfl (fun hc => ?_) (fun hc => ?_)
    · replace h := (if_pos hc).mp h
      refine st_skip ?_
      refine st_seq ?_
      refine st_block ?_
      refine st_region ?_
      refine o_move rfl rfl rfl rfl ?_
      refine o_move rfl rfl rfl rfl ?_
      refine o_ibin (v := .int .i64 (IntKind.i64.wrap (s16.1 + 1))) rfl rfl rfl rfl rfl rfl ?_
      obtain ⟨hf17, h⟩ := h
      obtain ⟨hf18, h⟩ := h
      refine o_indexA rfl rfl rfl z_arr248 rfl rfl hf17 hf18 ?_
      refine o_loadB (j := 0) (q := (IntKind.i64.wrap (s16.1 + 1)).toNat) (f := Value.bool) (zz := false) (l := 32) (xs := s16.2) rfl rfl rfl z_sc4 rfl rfl (by omega) (by omega) ?_
      obtain ⟨hf19, h⟩ := h
      obtain ⟨hf20, h⟩ := h
      refine o_indexA rfl rfl rfl z_arr248 rfl rfl hf19 hf20 ?_
      refine o_storeB (j := 0) (q := s16.1.toNat) (f := Value.bool) (zz := false) (a := (s16.2.getD ((IntKind.i64.wrap (s16.1 + 1)).toNat) false)) (l := 32) (xs := s16.2) rfl rfl rfl z_size4 rfl rfl rfl rfl rfl (by omega) (by omega) ?_
      refine st_gs [[(b1, .cells (cellsN Value.bool false 32 (putN 32 false s16.2 s16.1.toNat (s16.2.getD ((IntKind.i64.wrap (s16.1 + 1)).toNat) false))).toArray 248 (0, 0))], [(b2, .cells (cellsN Value.bool false 32 (List.replicate 32 false)).toArray 248 (0, 0))], [(b7, .cells (cellsN Value.bool false 32 r3).toArray 248 (0, 0))]] rfl ?_
      refine st_end ?_
      refine st_inBlock ?_
      refine st_region ?_
      refine o_move rfl rfl rfl rfl ?_
      refine o_ibin (v := .int .i64 (IntKind.i64.wrap (s16.1 + 1))) rfl rfl rfl rfl rfl rfl ?_
      refine o_assign rfl rfl rfl rfl ?_
      refine st_end ?_
      refine st_env (ρ' := [(1, .pointer (some ⟨b1, 0, none⟩)), (2, .pointer (some ⟨b2, 0, none⟩)), (3, .pointer (some ⟨b7, 0, none⟩)), (4, .int .i64 s9.1), (5, .bool (s9.2.getD 0 false)), (6, .int .i64 (IntKind.i64.wrap (s16.1 + 1)))]) ⟨rfl, rfl, rfl, rfl, rfl, rfl, trivial⟩ ?_
      exact hn16 _ _ _ _ h ⟨hl16, rfl, rfl⟩
    · replace h := (if_neg (ne_t hc)).mp h
      refine st_exit rfl ?_
      obtain rfl := he16 _ h
      replace h := hA16
      refine st_env (ρ' := [(1, .pointer (some ⟨b1, 0, none⟩)), (2, .pointer (some ⟨b2, 0, none⟩)), (3, .pointer (some ⟨b7, 0, none⟩)), (4, .int .i64 s9.1), (5, .bool (s9.2.getD 0 false))]) ⟨rfl, rfl, rfl, rfl, rfl, trivial⟩ ?_
      exact hk11 _ _ _ ⟨s16.2, h, hl16, rfl, rfl⟩
  · replace h := (if_neg (ne_t hc)).mp h
    refine st_exit rfl ?_
    obtain rfl := he9 _ h
    replace h := hA9
    refine st_env (ρ' := [(1, .pointer (some ⟨b1, 0, none⟩)), (2, .pointer (some ⟨b2, 0, none⟩))]) ⟨rfl, rfl, trivial⟩ ?_
    refine st_ord [0, 0] [[(b1, .cells (cellsN Value.bool false 32 s9.2).toArray 248 (0, 0))], [(b2, .cells (cellsN Value.bool false 32 (List.replicate 32 false)).toArray 248 (0, 0))]] rfl ?_
    exact hk8 _ _ _ ⟨s9.2, h, hl9, rfl, rfl⟩
theorem ref04_Word_ok {a0 : List Bool} {r : Int} (h : ref04_Word a0 r) (σ : Sto)  :
    Does Tryd.prog 170 [.agg (cellsN Value.bool false 32 a0).toArray] σ [] (fun v τ gs => gs = [] ∧ .int .u32 r = v) := by
  refine call_of Tryd.func170 Tryd.ntmps170 rfl rfl (fun cs fs => ?_)
  refine st_seq ?_
  refine st_region ?_
  refine o_box (cs := (cellsN Value.bool false 32 a0)) rfl rfl rfl rfl rfl (fun b1 => ?_)
  refine o_assign rfl rfl rfl rfl ?_
  refine st_end ?_
  refine st_seq ?_
  refine st_region ?_
  refine o_assign rfl rfl rfl rfl ?_
  refine st_end ?_
  refine st_seq ?_
  refine st_cut (fun ρ τ2 gs => ∃ (s2 : Int), ref04_Word_j1 s2 r ∧ σ.Le τ2 ∧ ρ = [(2, .int .u32 0), (3, .int .u32 s2)] ∧ gs = []) ?_ (fun hk2 => ?_)
  · rintro ρ2 τ2 gs2 ⟨s2, h, hl2, rfl, rfl⟩
    refine st_seq ?_
    refine st_region ?_
    refine o_move rfl rfl rfl rfl ?_
    refine o_assign rfl rfl rfl rfl ?_
    refine st_end ?_
    obtain rfl := Eq.symm h
    exact st_ret (gs' := []) Tryd.func170 rfl (List.Sublist.refl _) hl2 ⟨rfl, rfl⟩
  refine st_seq ?_
  refine st_region ?_
  refine o_assign rfl rfl rfl rfl ?_
  refine st_end ?_
  obtain ⟨e3, hL3, hA3⟩ := h
  refine st_env (ρ' := [(1, .pointer (some ⟨b1, 0, none⟩)), (2, .int .u32 0), (3, .int .u32 0), (4, .int .i64 31)]) ⟨rfl, rfl, rfl, rfl, trivial⟩ ?_
  refine st_loop hL3 (fun (s3 : Int × Int) ρ τ3 gs => σ.Le τ3 ∧ ρ = [(1, .pointer (some ⟨b1, 0, none⟩)), (2, .int .u32 0), (3, .int .u32 s3.1), (4, .int .i64 s3.2)] ∧ gs = [[(b1, .cells (cellsN Value.bool false 32 a0).toArray 248 (0, 0))]]) ⟨Sto.Le.refl _, rfl, rfl⟩ ?_
  rintro s3 o3 h he3 ρ3 τ3 gs3 ⟨hl3, rfl, rfl⟩ hn3
  refine st_seq ?_
  refine st_seq ?_
  refine st_region ?_
  refine o_move rfl rfl rfl rfl ?_
  refine o_ibin (v := .bool (decide (0 ≤ s3.2))) rfl rfl rfl rfl rfl rfl ?_
  refine st_end ?_
  refine st_cond rfl (fun hc => ?_) (fun hc => ?_)
  · replace h := (if_pos hc).mp h
    refine st_skip ?_
    refine st_seq ?_
    refine st_cut (fun ρ τ4 gs => ∃ (s4 : Int), ref04_Word_j3 s3 s4 o3 ∧ τ3.Le τ4 ∧ ρ = [(1, .pointer (some ⟨b1, 0, none⟩)), (2, .int .u32 0), (3, .int .u32 s4), (4, .int .i64 s3.2)] ∧ gs = [[(b1, .cells (cellsN Value.bool false 32 a0).toArray 248 (0, 0))]]) ?_ (fun hk4 => ?_)
    · rintro ρ4 τ4 gs4 ⟨s4, h, hl4, rfl, rfl⟩
      refine st_region ?_
      refine o_move rfl rfl rfl rfl ?_
      refine o_ibin (v := .int .i64 (IntKind.i64.wrap (s3.2 - 1))) rfl rfl rfl rfl rfl rfl ?_
      refine o_assign rfl rfl rfl rfl ?_
      refine st_end ?_
      refine st_env (ρ' := [(1, .pointer (some ⟨b1, 0, none⟩)), (2, .int .u32 0), (3, .int .u32 s4), (4, .int .i64 (IntKind.i64.wrap (s3.2 - 1)))]) ⟨rfl, rfl, rfl, rfl, trivial⟩ ?_
      exact hn3 _ _ _ _ h ⟨(hl3.trans hl4), rfl, rfl⟩
    refine st_block ?_
    refine st_seq ?_
    refine st_region ?_
    refine o_move rfl rfl rfl rfl ?_
    refine o_ibin (v := .int .u32 (IntKind.u32.wrap (2 * s3.1))) rfl rfl rfl rfl rfl rfl ?_
    refine o_assign rfl rfl rfl rfl ?_
    refine st_end ?_
    refine st_seq ?_
    refine st_region ?_
    refine o_move rfl rfl rfl rfl ?_
    obtain ⟨hf5, h⟩ := h
    obtain ⟨hf6, h⟩ := h
    refine o_indexA rfl rfl rfl z_arr248 rfl rfl hf5 hf6 ?_
    refine o_loadB (j := 0) (q := s3.2.toNat) (f := Value.bool) (zz := false) (l := 32) (xs := a0) rfl rfl rfl z_sc4 rfl rfl (by omega) (by omega) ?_
    refine st_end ?_
    refine st_cond rfl (fun hc => ?_) (fun hc => ?_)
    · replace h := (if_pos hc).mp h
      refine st_region ?_
      refine o_move rfl rfl rfl rfl ?_
      refine o_ibin (v := .int .u32 (IntKind.u32.wrap ((IntKind.u32.wrap (2 * s3.1)) + 1))) rfl rfl rfl rfl rfl rfl ?_
      refine o_assign rfl rfl rfl rfl ?_
      refine st_end ?_
      refine st_inBlock ?_
      refine st_env (ρ' := [(1, .pointer (some ⟨b1, 0, none⟩)), (2, .int .u32 0), (3, .int .u32 (IntKind.u32.wrap ((IntKind.u32.wrap (2 * s3.1)) + 1))), (4, .int .i64 s3.2)]) ⟨rfl, rfl, rfl, rfl, trivial⟩ ?_
      exact hk4 _ _ _ ⟨(IntKind.u32.wrap ((IntKind.u32.wrap (2 * s3.1)) + 1)), h, (Sto.Le.refl _), rfl, rfl⟩
    · replace h := (if_neg (ne_t hc)).mp h
      refine st_skip ?_
      refine st_inBlock ?_
      refine st_env (ρ' := [(1, .pointer (some ⟨b1, 0, none⟩)), (2, .int .u32 0), (3, .int .u32 (IntKind.u32.wrap (2 * s3.1))), (4, .int .i64 s3.2)]) ⟨rfl, rfl, rfl, rfl, trivial⟩ ?_
      exact hk4 _ _ _ ⟨(IntKind.u32.wrap (2 * s3.1)), h, (Sto.Le.refl _), rfl, rfl⟩
  · replace h := (if_neg (ne_t hc)).mp h
    refine st_exit rfl ?_
    obtain rfl := he3 _ h
    replace h := hA3
    refine st_env (ρ' := [(2, .int .u32 0), (3, .int .u32 s3.1)]) ⟨rfl, rfl, trivial⟩ ?_
    refine st_ord [] [] rfl ?_
    exact hk2 _ _ _ ⟨s3.1, h, hl3, rfl, rfl⟩
theorem ref04_Sum_ok {a0 : List Int} {v1 : Value} {r : Int} (h : ref04_Sum a0 r) (σ : Sto) (hs2 : Sl (kI .u8) σ v1 a0) :
    Does Tryd.prog 140 [v1] σ [] (fun v τ gs => gs = [] ∧ .int .u32 r = v) := by
  refine call_of Tryd.func140 Tryd.ntmps140 rfl rfl (fun cs fs => ?_)
  refine st_seq ?_
  refine st_region ?_
  refine o_assign rfl rfl rfl rfl ?_
  refine st_end ?_
  refine st_seq ?_
  refine st_region ?_
  obtain ⟨r3, hr4, h⟩ := h
  refine st_call (foot := []) rfl rfl rfl rfl rfl rfl (callV_fn z_en167 (ref04_Of_ok hr4 σ)) ?_
  rintro vτ5 τ5 gsτ5 hl6 ⟨rfl, rfl⟩
  refine o_alloc rfl rfl rfl z_zero248 (fun b7 => ?_)
  refine o_store (j := 0) (vs := (cellsN Value.bool false 32 r3)) (cs' := (cellsN Value.bool false 32 r3)) rfl rfl rfl z_size248 rfl rfl rfl ones_cellsNB rfl rfl rfl ?_
  refine st_gs [[(b7, .cells (cellsN Value.bool false 32 r3).toArray 248 (0, 0))]] rfl ?_
  refine st_end ?_
  refine st_seq ?_
  refine st_cut (fun ρ τ8 gs => ∃ (s8 : List Bool), ref04_Sum_j1 s8 r ∧ τ5.Le τ8 ∧ ρ = [(2, .int .u32 0), (3, .pointer (some ⟨b7, 0, none⟩))] ∧ gs = [[(b7, .cells (cellsN Value.bool false 32 s8).toArray 248 (0, 0))]]) ?_ (fun hk8 => ?_)
  · rintro ρ8 τ8 gs8 ⟨s8, h, hl8, rfl, rfl⟩
    refine st_seq ?_
    refine st_region ?_
    refine o_loadN (j := 0) (vs := (cellsN Value.bool false 32 s8)) rfl rfl rfl z_agg248 rfl rfl rfl ?_
    obtain ⟨r9, hr10, h⟩ := h
    refine st_call (foot := []) rfl rfl rfl rfl rfl rfl (callV_fn z_en170 (ref04_Word_ok hr10 τ8)) ?_
    rintro vτ11 τ11 gsτ11 hl12 ⟨rfl, rfl⟩
    refine o_ibin (v := .int .u32 (IntKind.u32.wrap (4294967295 - r9))) rfl rfl rfl rfl rfl rfl ?_
    refine o_assign rfl rfl rfl rfl ?_
    refine st_end ?_
    refine st_ord [] [] rfl ?_
    obtain rfl := Eq.symm h
    exact st_ret (gs' := []) Tryd.func140 rfl (List.Sublist.refl _) ((hl6.trans hl8).trans hl12) ⟨rfl, rfl⟩
  refine st_seq ?_
  refine st_region ?_
  refine o_assign rfl rfl rfl rfl ?_
  refine st_end ?_
  obtain ⟨e13, hL13, hA13⟩ := h
  refine st_env (ρ' := [(0, v1), (2, .int .u32 0), (3, .pointer (some ⟨b7, 0, none⟩)), (4, .int .i64 0)]) ⟨rfl, rfl, rfl, rfl, trivial⟩ ?_
  refine st_loop hL13 (fun (s13 : Int × List Bool) ρ τ13 gs => τ5.Le τ13 ∧ ρ = [(0, v1), (2, .int .u32 0), (3, .pointer (some ⟨b7, 0, none⟩)), (4, .int .i64 s13.1)] ∧ gs = [[(b7, .cells (cellsN Value.bool false 32 s13.2).toArray 248 (0, 0))]]) ⟨Sto.Le.refl _, rfl, rfl⟩ ?_
  rintro s13 o13 h he13 ρ13 τ13 gs13 ⟨hl13, rfl, rfl⟩ hn13
  refine st_seq ?_
  refine st_seq ?_
  refine st_region ?_
  refine o_move rfl rfl rfl rfl ?_
  refine o_move rfl rfl rfl rfl ?_
  refine o_lenI rfl rfl rfl z_slT67 rfl (hs2.up (hl6.trans hl13)) ?_
  refine o_ibin (v := .bool (decide (s13.1 < (a0.length : Int)))) rfl rfl rfl rfl rfl rfl ?_
  refine st_end ?_
  refine st_cond rfl (fun hc => ?_) (fun hc => ?_)
  · replace h := (if_pos hc).mp h
    refine st_skip ?_
    refine st_seq ?_
    refine st_block ?_
    obtain ⟨q14, hf15, h⟩ := h
    obtain ⟨r19, hr20, h⟩ := h
    obtain ⟨r23, hr24, h⟩ := h
    obtain ⟨r27, hr28, h⟩ := h
    refine st_draw 9 (tl [fun τ v => (.agg (cellsN Value.bool false 32 s13.2).toArray : Value) = v,
    fun τ v => (v1 : Value) = v,
    fun τ v => (.int .i64 s13.1 : Value) = v,
    fun τ v => ∃ (b16 : Nat) (of17 : Nat) (vsb16 : List Value), (.pointer (some ⟨b16, of17, none⟩) : Value) = v ∧ CelN τ ⟨b16, of17, none⟩ vsb16 ∧ (kI .u8).rep τ vsb16 q14,
    fun τ v => (.int .u8 q14 : Value) = v,
    fun τ v => (.int .u32 (IntKind.u32.wrap q14) : Value) = v,
    fun τ v => (.agg (cellsN Value.bool false 32 r19).toArray : Value) = v,
    fun τ v => (.agg (cellsN Value.bool false 32 r23).toArray : Value) = v,
    fun τ v => (.agg (cellsN Value.bool false 32 r27).toArray : Value) = v]) (fun _ _ => []) z_mix rfl (tl_mono ⟨fun _ _ _ _ h => h, ⟨fun _ _ _ _ h => h, ⟨fun _ _ _ _ h => h, ⟨fun _ _ _ hl ⟨b16, of17, vsb16, hv, hc18, hrepb16⟩ => ⟨b16, of17, vsb16, hv, hc18.up hl, Kd.mono _ hl hrepb16⟩, ⟨fun _ _ _ _ h => h, ⟨fun _ _ _ _ h => h, ⟨fun _ _ _ _ h => h, ⟨fun _ _ _ _ h => h, ⟨fun _ _ _ _ h => h, trivial⟩⟩⟩⟩⟩⟩⟩⟩⟩) (allB_cons (allB_cons (allB_cons (allB_cons (allB_cons (allB_cons (allB_cons (allB_cons (allB_cons allB_nil ?_) ?_) ?_) ?_) ?_) ?_) ?_) ?_) ?_) ?_
    · intro ρ' τ pool rs hl hd hout hk
      refine o_loadN (j := 0) (vs := (cellsN Value.bool false 32 s13.2)) rfl rfl rfl z_agg248 ((hout 3 rfl).trans rfl) rfl rfl ?_
      exact st_addNil (hk _ _ (Sto.Le.refl _) rfl)
    · intro ρ' τ pool rs hl hd hout hk
      refine o_move rfl rfl rfl ((hout 0 rfl).trans rfl) ?_
      exact st_addNil (hk _ _ (Sto.Le.refl _) rfl)
    · intro ρ' τ pool rs hl hd hout hk
      refine o_move rfl rfl rfl ((hout 4 rfl).trans rfl) ?_
      exact st_addNil (hk _ _ (Sto.Le.refl _) rfl)
    · intro ρ' τ pool rs hl hd hout hk
      obtain ⟨_, e1, rfl⟩ := hd 1 rfl
      obtain ⟨_, e2, rfl⟩ := hd 2 rfl
      refine o_index rfl rfl rfl z_slT67 rfl e1 (hs2.up ((hl6.trans hl13).trans hl)) e2 hf15 (fun b16 of17 vsb16 hc18 hrepb16 => ?_)
      exact st_addNil (hk _ _ (Sto.Le.refl _) ⟨b16, of17, _, rfl, hc18, hrepb16⟩)
    · intro ρ' τ pool rs hl hd hout hk
      obtain ⟨_, e3, b16, of17, vsb16, rfl, hc18, hrepb16⟩ := hd 3 rfl
      have hrepb16 := hrepb16
      obtain rfl := hrepb16
      refine o_loadI (v := .int .u8 q14) rfl rfl rfl z_sc5 e3 (hc18 0 _ rfl) ?_
      exact st_addNil (hk _ _ (Sto.Le.refl _) rfl)
    · intro ρ' τ pool rs hl hd hout hk
      obtain ⟨_, e4, rfl⟩ := hd 4 rfl
      refine o_conv rfl rfl rfl Tryd.underlying5 Tryd.underlying33 e4 ?_
      exact st_addNil (hk _ _ (Sto.Le.refl _) rfl)
    · intro ρ' τ pool rs hl hd hout hk
      obtain ⟨_, e5, rfl⟩ := hd 5 rfl
      refine st_call (foot := []) rfl rfl rfl rfl (evs_cons e5 rfl) rfl (callV_fn z_en167 (ref04_Of_ok hr20 τ)) ?_
      rintro vτ21 τ21 gsτ21 hl22 ⟨rfl, rfl⟩
      exact st_addNil (hk _ _ hl22 rfl)
    · intro ρ' τ pool rs hl hd hout hk
      obtain ⟨_, e0, rfl⟩ := hd 0 rfl
      obtain ⟨_, e6, rfl⟩ := hd 6 rfl
      refine st_call (foot := []) rfl rfl rfl rfl (evs_cons e0 (evs_cons e6 rfl)) rfl (callV_fn z_en169 (ref04_Xor_ok hr24 τ)) ?_
      rintro vτ25 τ25 gsτ25 hl26 ⟨rfl, rfl⟩
      exact st_addNil (hk _ _ hl26 rfl)
    · intro ρ' τ pool rs hl hd hout hk
      obtain ⟨_, e7, rfl⟩ := hd 7 rfl
      refine st_call (foot := []) rfl rfl rfl rfl (evs_cons e7 rfl) rfl (callV_fn z_en168 (ref04_Shift_ok hr28 τ)) ?_
      rintro vτ29 τ29 gsτ29 hl30 ⟨rfl, rfl⟩
      exact st_addNil (hk _ _ hl30 rfl)
    intro ρ' τ31 vals hl31 hv hout
    have l8 : Eng.look ρ' 20 = some (.agg (cellsN Value.bool false 32 r27).toArray) := ((hv 8 (by decide)).1).trans (congrArg some (show vals 8 = .agg (cellsN Value.bool false 32 r27).toArray from Eq.symm (hv 8 (by decide)).2))
    refine st_ord [0] [[(b7, .cells (cellsN Value.bool false 32 s13.2).toArray 248 (0, 0))]] rfl ?_
    refine st_env (ρ' := [(20, .agg (cellsN Value.bool false 32 r27).toArray), (0, v1), (2, .int .u32 0), (3, .pointer (some ⟨b7, 0, none⟩)), (4, .int .i64 s13.1)]) ⟨l8, (hout 0 rfl).trans rfl, (hout 2 rfl).trans rfl, (hout 3 rfl).trans rfl, (hout 4 rfl).trans rfl, trivial⟩ ?_
    refine o_store (j := 0) (vs := (cellsN Value.bool false 32 r27)) (cs' := (cellsN Value.bool false 32 r27)) rfl rfl rfl z_size248 rfl rfl rfl ones_cellsNB rfl rfl rfl ?_
    refine st_gs [[(b7, .cells (cellsN Value.bool false 32 r27).toArray 248 (0, 0))]] rfl ?_
    refine st_end ?_
    refine st_inBlock ?_
    refine st_region ?_
    refine o_move rfl rfl rfl rfl ?_
    refine o_ibin (v := .int .i64 (IntKind.i64.wrap (s13.1 + 1))) rfl rfl rfl rfl rfl rfl ?_
    refine o_assign rfl rfl rfl rfl ?_
    refine st_end ?_
    refine st_env (ρ' := [(0, v1), (2, .int .u32 0), (3, .pointer (some ⟨b7, 0, none⟩)), (4, .int .i64 (IntKind.i64.wrap (s13.1 + 1)))]) ⟨rfl, rfl, rfl, rfl, trivial⟩ ?_
    exact hn13 _ _ _ _ h ⟨(hl13.trans hl31), rfl, rfl⟩
  · replace h := (if_neg (ne_t hc)).mp h
    refine st_exit rfl ?_
    obtain rfl := he13 _ h
    replace h := hA13
    refine st_env (ρ' := [(2, .int .u32 0), (3, .pointer (some ⟨b7, 0, none⟩))]) ⟨rfl, rfl, trivial⟩ ?_
    exact hk8 _ _ _ ⟨s13.2, h, hl13, rfl, rfl⟩
theorem ref04_Bytes_ok {a0 : Int} {r : List Int} (h : ref04_Bytes a0 r) (σ : Sto)  :
    Does Tryd.prog 139 [.int .u32 a0] σ [] (fun v τ gs => ∃ (v9 : Value), gs = [] ∧ v9 = v ∧ Sl (kI .u8) τ v9 r) := by
  refine call_of Tryd.func139 Tryd.ntmps139 rfl rfl (fun cs fs => ?_)
  refine st_seq ?_
  refine st_region ?_
  refine o_assign rfl rfl rfl rfl ?_
  refine st_end ?_
  refine st_seq ?_
  refine st_region ?_
  refine o_move rfl rfl rfl rfl ?_
  refine o_rem rfl rfl rfl rfl rfl (by decide) ?_
  refine o_conv rfl rfl rfl Tryd.underlying33 Tryd.underlying5 rfl ?_
  refine o_move rfl rfl rfl rfl ?_
  refine o_quo rfl rfl rfl rfl rfl (by decide) ?_
  refine o_rem rfl rfl rfl rfl rfl (by decide) ?_
  refine o_conv rfl rfl rfl Tryd.underlying33 Tryd.underlying5 rfl ?_
  refine o_move rfl rfl rfl rfl ?_
  refine o_quo rfl rfl rfl rfl rfl (by decide) ?_
  refine o_rem rfl rfl rfl rfl rfl (by decide) ?_
  refine o_conv rfl rfl rfl Tryd.underlying33 Tryd.underlying5 rfl ?_
  refine o_move rfl rfl rfl rfl ?_
  refine o_quo rfl rfl rfl rfl rfl (by decide) ?_
  refine o_conv rfl rfl rfl Tryd.underlying33 Tryd.underlying5 rfl ?_
  refine o_lit (dk := (kI .u8)) (xs := [(IntKind.u8.wrap (a0.tmod 256)), (IntKind.u8.wrap ((IntKind.u32.wrap (a0.tdiv 256)).tmod 256)), (IntKind.u8.wrap ((IntKind.u32.wrap (a0.tdiv 65536)).tmod 256)), (IntKind.u8.wrap (IntKind.u32.wrap (a0.tdiv 16777216)))]) (ps := [(0, [.int .u8 (IntKind.u8.wrap (a0.tmod 256))]), (1, [.int .u8 (IntKind.u8.wrap ((IntKind.u32.wrap (a0.tdiv 256)).tmod 256))]), (2, [.int .u8 (IntKind.u8.wrap ((IntKind.u32.wrap (a0.tdiv 65536)).tmod 256))]), (3, [.int .u8 (IntKind.u8.wrap (IntKind.u32.wrap (a0.tdiv 16777216)))])]) (cs := [.int .u8 (IntKind.u8.wrap (a0.tmod 256)), .int .u8 (IntKind.u8.wrap ((IntKind.u32.wrap (a0.tdiv 256)).tmod 256)), .int .u8 (IntKind.u8.wrap ((IntKind.u32.wrap (a0.tdiv 65536)).tmod 256)), .int .u8 (IntKind.u8.wrap (IntKind.u32.wrap (a0.tdiv 16777216)))]) rfl rfl rfl z_slT67 z_zero5 ⟨rfl, ⟨_, rfl, rfl⟩, ⟨rfl, ⟨_, rfl, rfl⟩, ⟨rfl, ⟨_, rfl, rfl⟩, ⟨rfl, ⟨_, rfl, rfl⟩, trivial⟩⟩⟩⟩ rfl rfl rfl rfl (Kd.Many.cons (d := (kI .u8)) (x := (IntKind.u8.wrap (a0.tmod 256))) (a := [.int .u8 (IntKind.u8.wrap (a0.tmod 256))]) rfl (Kd.Many.cons (d := (kI .u8)) (x := (IntKind.u8.wrap ((IntKind.u32.wrap (a0.tdiv 256)).tmod 256))) (a := [.int .u8 (IntKind.u8.wrap ((IntKind.u32.wrap (a0.tdiv 256)).tmod 256))]) rfl (Kd.Many.cons (d := (kI .u8)) (x := (IntKind.u8.wrap ((IntKind.u32.wrap (a0.tdiv 65536)).tmod 256))) (a := [.int .u8 (IntKind.u8.wrap ((IntKind.u32.wrap (a0.tdiv 65536)).tmod 256))]) rfl (Kd.Many.cons (d := (kI .u8)) (x := (IntKind.u8.wrap (IntKind.u32.wrap (a0.tdiv 16777216)))) (a := [.int .u8 (IntKind.u8.wrap (IntKind.u32.wrap (a0.tdiv 16777216)))]) rfl Kd.Many.nil)))) (fun v1 g2 ho3 => ?_)
  refine o_assign rfl rfl rfl rfl ?_
  refine st_end ?_
  refine st_freeze (fun τ4 hl5 hg6 => ?_)
  have hs7 := ho3.freeze hl5 hg6
  obtain rfl := Eq.symm h
  exact st_ret (gs' := []) Tryd.func139 rfl (List.Sublist.refl _) hl5 ⟨_, rfl, rfl, hs7⟩
theorem ref07_Check_ok {a0 : Int × Int × Int × Int × Int} {r : Int} (h : ref07_Check a0 r) (σ : Sto)  :
    Does Tryd.prog 89 [.agg [.int .i64 a0.1, .int .i64 a0.2.1, .int .u32 a0.2.2.1, .int .i64 a0.2.2.2.1, .int .i64 a0.2.2.2.2].toArray] σ [] (fun v τ gs => gs = [] ∧ .int .i64 r = v) := by
  refine call_of Tryd.func89 Tryd.ntmps89 rfl rfl (fun cs fs => ?_)
  refine st_seq ?_
  refine st_region ?_
  refine o_box (cs := [.int .i64 a0.1, .int .i64 a0.2.1, .int .u32 a0.2.2.1, .int .i64 a0.2.2.2.1, .int .i64 a0.2.2.2.2]) rfl rfl rfl rfl rfl (fun b1 => ?_)
  refine o_assign rfl rfl rfl rfl ?_
  refine st_end ?_
  refine st_seq ?_
  refine st_seq ?_
  refine st_cut (fun ρ τ2 gs => ∃ (s2 : Bool), ref07_Check_j1 a0 s2 r ∧ σ.Le τ2 ∧ ρ = [(1, .pointer (some ⟨b1, 0, none⟩)), (2, .int .i64 0), (10, .bool s2)] ∧ gs = [[(b1, .cells [.int .i64 a0.1, .int .i64 a0.2.1, .int .u32 a0.2.2.1, .int .i64 a0.2.2.2.1, .int .i64 a0.2.2.2.2].toArray 89 (0, 0))]]) ?_ (fun hk2 => ?_)
  · rintro ρ2 τ2 gs2 ⟨s2, h, hl2, rfl, rfl⟩
    refine st_cond rfl (fun hc => ?_) (fun hc => ?_)
    · replace h := (if_pos hc).mp h
      refine st_seq ?_
      refine st_region ?_
      refine o_assign rfl rfl rfl rfl ?_
      refine st_end ?_
      refine st_ord [] [] rfl ?_
      obtain rfl := Eq.symm h
      exact st_ret (gs' := []) Tryd.func89 rfl (List.Sublist.refl _) hl2 ⟨rfl, rfl⟩
    · replace h := (if_neg (ne_t hc)).mp h
      refine st_skip ?_
      refine st_seq ?_
      refine st_seq ?_
      refine st_cut (fun ρ τ3 gs => ∃ (s3 : Bool), ref07_Check_j2 a0 s3 r ∧ τ2.Le τ3 ∧ ρ = [(1, .pointer (some ⟨b1, 0, none⟩)), (2, .int .i64 0), (18, .bool s3)] ∧ gs = [[(b1, .cells [.int .i64 a0.1, .int .i64 a0.2.1, .int .u32 a0.2.2.1, .int .i64 a0.2.2.2.1, .int .i64 a0.2.2.2.2].toArray 89 (0, 0))]]) ?_ (fun hk3 => ?_)
      · rintro ρ3 τ3 gs3 ⟨s3, h, hl3, rfl, rfl⟩
        refine st_cond rfl (fun hc => ?_) (fun hc => ?_)
        · replace h := (if_pos hc).mp h
          refine st_seq ?_
          refine st_region ?_
          refine o_assign rfl rfl rfl rfl ?_
          refine st_end ?_
          refine st_ord [] [] rfl ?_
          obtain rfl := Eq.symm h
          exact st_ret (gs' := []) Tryd.func89 rfl (List.Sublist.refl _) (hl2.trans hl3) ⟨rfl, rfl⟩
        · replace h := (if_neg (ne_t hc)).mp h
          refine st_skip ?_
          refine st_seq ?_
          refine st_seq ?_
          refine st_cut (fun ρ τ4 gs => ∃ (s4 : Bool), ref07_Check_j3 s4 r ∧ τ3.Le τ4 ∧ ρ = [(2, .int .i64 0), (38, .bool s4)] ∧ gs = []) ?_ (fun hk4 => ?_)
          · rintro ρ4 τ4 gs4 ⟨s4, h, hl4, rfl, rfl⟩
            refine st_cond rfl (fun hc => ?_) (fun hc => ?_)
            · replace h := (if_pos hc).mp h
              refine st_seq ?_
              refine st_region ?_
              refine o_assign rfl rfl rfl rfl ?_
              refine st_end ?_
              obtain rfl := Eq.symm h
              exact st_ret (gs' := []) Tryd.func89 rfl (List.Sublist.refl _) ((hl2.trans hl3).trans hl4) ⟨rfl, rfl⟩
            · replace h := (if_neg (ne_t hc)).mp h
              refine st_skip ?_
              refine st_seq ?_
              refine st_region ?_
              refine o_assign rfl rfl rfl rfl ?_
              refine st_end ?_
              obtain rfl := Eq.symm h
              exact st_ret (gs' := []) Tryd.func89 rfl (List.Sublist.refl _) ((hl2.trans hl3).trans hl4) ⟨rfl, rfl⟩
          refine st_region ?_
          refine o_fieldAddr rfl rfl rfl z_field89_4 rfl ?_
          refine o_load (j := 0) (v := .int .i64 a0.2.2.2.2) rfl rfl rfl z_sc3 rfl rfl rfl ?_
          refine o_ibin (v := .bool (decide (a0.2.2.2.2 < 1))) rfl rfl rfl rfl rfl rfl ?_
          refine o_moveB rfl rfl rfl rfl (fun hc => ?_) (fun hc => ?_)
          · replace h := (if_pos hc).mp h
            refine st_pass rfl rfl rfl rfl rfl rfl ?_
            refine st_pass rfl rfl rfl rfl rfl rfl ?_
            refine st_pass rfl rfl rfl rfl rfl rfl ?_
            refine o_pick rfl rfl rfl rfl rfl ?_
            refine o_move rfl rfl rfl rfl ?_
            refine st_pass rfl rfl rfl rfl rfl rfl ?_
            refine st_pass rfl rfl rfl rfl rfl rfl ?_
            refine st_pass rfl rfl rfl rfl rfl rfl ?_
            refine o_pick rfl rfl rfl rfl rfl ?_
            refine o_move rfl rfl rfl rfl ?_
            refine st_pass rfl rfl rfl rfl rfl rfl ?_
            refine st_pass rfl rfl rfl rfl rfl rfl ?_
            refine st_pass rfl rfl rfl rfl rfl rfl ?_
            refine st_pass rfl rfl rfl rfl rfl rfl ?_
            refine st_pass rfl rfl rfl rfl rfl rfl ?_
            refine o_pick rfl rfl rfl rfl rfl ?_
            refine st_end ?_
            refine st_env (ρ' := [(2, .int .i64 0), (38, .bool true)]) ⟨rfl, rfl, trivial⟩ ?_
            refine st_ord [] [] rfl ?_
            exact hk4 _ _ _ ⟨true, h, (Sto.Le.refl _), rfl, rfl⟩
          · replace h := (if_neg (ne_t hc)).mp h
            refine o_fieldAddr rfl rfl rfl z_field89_4 rfl ?_
            refine o_load (j := 0) (v := .int .i64 a0.2.2.2.2) rfl rfl rfl z_sc3 rfl rfl rfl ?_
            refine o_ibin (v := .bool (decide (255 < a0.2.2.2.2))) rfl rfl rfl rfl rfl rfl ?_
            refine o_pick rfl rfl rfl rfl rfl ?_
            refine o_moveB rfl rfl rfl rfl (fun hc => ?_) (fun hc => ?_)
            · replace h := (if_pos hc).mp h
              refine st_pass rfl rfl rfl rfl rfl rfl ?_
              refine st_pass rfl rfl rfl rfl rfl rfl ?_
              refine st_pass rfl rfl rfl rfl rfl rfl ?_
              refine o_pick rfl rfl rfl rfl rfl ?_
              refine o_move rfl rfl rfl rfl ?_
              refine st_pass rfl rfl rfl rfl rfl rfl ?_
              refine st_pass rfl rfl rfl rfl rfl rfl ?_
              refine st_pass rfl rfl rfl rfl rfl rfl ?_
              refine st_pass rfl rfl rfl rfl rfl rfl ?_
              refine st_pass rfl rfl rfl rfl rfl rfl ?_
              refine o_pick rfl rfl rfl rfl rfl ?_
              refine st_end ?_
              refine st_env (ρ' := [(2, .int .i64 0), (38, .bool true)]) ⟨rfl, rfl, trivial⟩ ?_
              refine st_ord [] [] rfl ?_
              exact hk4 _ _ _ ⟨true, h, (Sto.Le.refl _), rfl, rfl⟩
            · replace h := (if_neg (ne_t hc)).mp h
              refine o_fieldAddr rfl rfl rfl z_field89_3 rfl ?_
              refine o_load (j := 0) (v := .int .i64 a0.2.2.2.1) rfl rfl rfl z_sc3 rfl rfl rfl ?_
              refine o_ibin (v := .bool (decide (a0.2.2.2.1 < 0))) rfl rfl rfl rfl rfl rfl ?_
              refine o_pick rfl rfl rfl rfl rfl ?_
              refine o_moveB rfl rfl rfl rfl (fun hc => ?_) (fun hc => ?_)
              · replace h := (if_pos hc).mp h
                refine st_pass rfl rfl rfl rfl rfl rfl ?_
                refine st_pass rfl rfl rfl rfl rfl rfl ?_
                refine st_pass rfl rfl rfl rfl rfl rfl ?_
                refine st_pass rfl rfl rfl rfl rfl rfl ?_
                refine st_pass rfl rfl rfl rfl rfl rfl ?_
                refine o_pick rfl rfl rfl rfl rfl ?_
                refine st_end ?_
                refine st_env (ρ' := [(2, .int .i64 0), (38, .bool true)]) ⟨rfl, rfl, trivial⟩ ?_
                refine st_ord [] [] rfl ?_
                exact hk4 _ _ _ ⟨true, h, (Sto.Le.refl _), rfl, rfl⟩
              · replace h := (if_neg (ne_t hc)).mp h
                refine o_fieldAddr rfl rfl rfl z_field89_3 rfl ?_
                refine o_load (j := 0) (v := .int .i64 a0.2.2.2.1) rfl rfl rfl z_sc3 rfl rfl rfl ?_
                refine o_fieldAddr rfl rfl rfl z_field89_4 rfl ?_
                refine o_load (j := 0) (v := .int .i64 a0.2.2.2.2) rfl rfl rfl z_sc3 rfl rfl rfl ?_
                refine o_ibin (v := .bool (decide (a0.2.2.2.2 ≤ a0.2.2.2.1))) rfl rfl rfl rfl rfl rfl ?_
                refine o_pick rfl rfl rfl rfl rfl ?_
                refine st_end ?_
                refine st_env (ρ' := [(2, .int .i64 0), (38, .bool (decide (a0.2.2.2.2 ≤ a0.2.2.2.1)))]) ⟨rfl, rfl, trivial⟩ ?_
                refine st_ord [] [] rfl ?_
                exact hk4 _ _ _ ⟨(decide (a0.2.2.2.2 ≤ a0.2.2.2.1)), h, (Sto.Le.refl _), rfl, rfl⟩
      refine st_region ?_
      refine o_fieldAddr rfl rfl rfl z_field89_1 rfl ?_
      refine o_load (j := 0) (v := .int .i64 a0.2.1) rfl rfl rfl z_sc3 rfl rfl rfl ?_
      refine o_ibin (v := .bool (decide (a0.2.1 < 1))) rfl rfl rfl rfl rfl rfl ?_
      refine o_moveB rfl rfl rfl rfl (fun hc => ?_) (fun hc => ?_)
      · replace h := (if_pos hc).mp h
        refine st_pass rfl rfl rfl rfl rfl rfl ?_
        refine st_pass rfl rfl rfl rfl rfl rfl ?_
        refine st_pass rfl rfl rfl rfl rfl rfl ?_
        refine o_pick rfl rfl rfl rfl rfl ?_
        refine st_end ?_
        refine st_env (ρ' := [(1, .pointer (some ⟨b1, 0, none⟩)), (2, .int .i64 0), (18, .bool true)]) ⟨rfl, rfl, rfl, trivial⟩ ?_
        exact hk3 _ _ _ ⟨true, h, (Sto.Le.refl _), rfl, rfl⟩
      · replace h := (if_neg (ne_t hc)).mp h
        refine o_fieldAddr rfl rfl rfl z_field89_1 rfl ?_
        refine o_load (j := 0) (v := .int .i64 a0.2.1) rfl rfl rfl z_sc3 rfl rfl rfl ?_
        refine o_ibin (v := .bool (decide (5 < a0.2.1))) rfl rfl rfl rfl rfl rfl ?_
        refine o_pick rfl rfl rfl rfl rfl ?_
        refine st_end ?_
        refine st_env (ρ' := [(1, .pointer (some ⟨b1, 0, none⟩)), (2, .int .i64 0), (18, .bool (decide (5 < a0.2.1)))]) ⟨rfl, rfl, rfl, trivial⟩ ?_
        exact hk3 _ _ _ ⟨(decide (5 < a0.2.1)), h, (Sto.Le.refl _), rfl, rfl⟩
  refine st_region ?_
  refine o_fieldAddr rfl rfl rfl z_field89_0 rfl ?_
  refine o_load (j := 0) (v := .int .i64 a0.1) rfl rfl rfl z_sc3 rfl rfl rfl ?_
  refine o_ibin (v := .bool (!(decide (a0.1 = 1)))) rfl rfl rfl rfl rfl rfl ?_
  refine o_moveB rfl rfl rfl rfl (fun hc => ?_) (fun hc => ?_)
  · replace h := (if_pos hc).mp h
    refine o_fieldAddr rfl rfl rfl z_field89_0 rfl ?_
    refine o_load (j := 0) (v := .int .i64 a0.1) rfl rfl rfl z_sc3 rfl rfl rfl ?_
    refine o_ibin (v := .bool (!(decide (a0.1 = 2)))) rfl rfl rfl rfl rfl rfl ?_
    refine o_pick rfl rfl rfl rfl rfl ?_
    refine st_end ?_
    refine st_env (ρ' := [(1, .pointer (some ⟨b1, 0, none⟩)), (2, .int .i64 0), (10, .bool (!(decide (a0.1 = 2))))]) ⟨rfl, rfl, rfl, trivial⟩ ?_
    exact hk2 _ _ _ ⟨(!(decide (a0.1 = 2))), h, (Sto.Le.refl _), rfl, rfl⟩
  · replace h := (if_neg (ne_t hc)).mp h
    refine st_pass rfl rfl rfl rfl rfl rfl ?_
    refine st_pass rfl rfl rfl rfl rfl rfl ?_
    refine st_pass rfl rfl rfl rfl rfl rfl ?_
    refine o_pick rfl rfl rfl rfl rfl ?_
    refine st_end ?_
    refine st_env (ρ' := [(1, .pointer (some ⟨b1, 0, none⟩)), (2, .int .i64 0), (10, .bool false)]) ⟨rfl, rfl, rfl, trivial⟩ ?_
    exact hk2 _ _ _ ⟨false, h, (Sto.Le.refl _), rfl, rfl⟩
theorem ref07_Line_ok {a0 : Int × Int × Int × Int × Int} {r : ByteArray} (h : ref07_Line a0 r) (σ : Sto)  :
    Does Tryd.prog 94 [.agg [.int .i64 a0.1, .int .i64 a0.2.1, .int .u32 a0.2.2.1, .int .i64 a0.2.2.2.1, .int .i64 a0.2.2.2.2].toArray] σ [] (fun v τ gs => gs = [] ∧ .string r = v) := by
  refine call_of Tryd.func94 Tryd.ntmps94 rfl rfl (fun cs fs => ?_)
  refine st_seq ?_
  refine st_region ?_
  refine o_box (cs := [.int .i64 a0.1, .int .i64 a0.2.1, .int .u32 a0.2.2.1, .int .i64 a0.2.2.2.1, .int .i64 a0.2.2.2.2]) rfl rfl rfl rfl rfl (fun b1 => ?_)
  refine o_assign rfl rfl rfl (ev_str z_str19) ?_
  refine st_end ?_
  refine st_seq ?_
  obtain ⟨r2, hr3, h⟩ := h
  obtain ⟨hf6, h⟩ := h
  obtain ⟨hf7, h⟩ := h
  obtain ⟨r8, hr9, h⟩ := h
  obtain ⟨hf12, h⟩ := h
  obtain ⟨hf13, h⟩ := h
  obtain ⟨r14, hr15, h⟩ := h
  obtain ⟨hf18, h⟩ := h
  obtain ⟨hf19, h⟩ := h
  obtain ⟨r20, hr21, h⟩ := h
  obtain ⟨hf24, h⟩ := h
  obtain ⟨hf25, h⟩ := h
  obtain ⟨r26, hr27, h⟩ := h
  obtain ⟨hf30, h⟩ := h
  refine st_draw 25 (tl [fun τ v => (.pointer (some ⟨b1, 0, none⟩) : Value) = v,
    fun τ v => (.int .i64 a0.1 : Value) = v,
    fun τ v => (.string r2 : Value) = v,
    fun τ v => (.string ((bstr [118, 32]) ++ r2) : Value) = v,
    fun τ v => (.string (((bstr [118, 32]) ++ r2) ++ (bstr [32, 107, 32])) : Value) = v,
    fun τ v => (.pointer (some ⟨b1, 1, none⟩) : Value) = v,
    fun τ v => (.int .i64 a0.2.1 : Value) = v,
    fun τ v => (.string r8 : Value) = v,
    fun τ v => (.string ((((bstr [118, 32]) ++ r2) ++ (bstr [32, 107, 32])) ++ r8) : Value) = v,
    fun τ v => (.string (((((bstr [118, 32]) ++ r2) ++ (bstr [32, 107, 32])) ++ r8) ++ (bstr [32])) : Value) = v,
    fun τ v => (.pointer (some ⟨b1, 2, none⟩) : Value) = v,
    fun τ v => (.int .u32 a0.2.2.1 : Value) = v,
    fun τ v => (.int .i64 (IntKind.i64.wrap a0.2.2.1) : Value) = v,
    fun τ v => (.string r14 : Value) = v,
    fun τ v => (.string ((((((bstr [118, 32]) ++ r2) ++ (bstr [32, 107, 32])) ++ r8) ++ (bstr [32])) ++ r14) : Value) = v,
    fun τ v => (.string (((((((bstr [118, 32]) ++ r2) ++ (bstr [32, 107, 32])) ++ r8) ++ (bstr [32])) ++ r14) ++ (bstr [32])) : Value) = v,
    fun τ v => (.pointer (some ⟨b1, 3, none⟩) : Value) = v,
    fun τ v => (.int .i64 a0.2.2.2.1 : Value) = v,
    fun τ v => (.string r20 : Value) = v,
    fun τ v => (.string ((((((((bstr [118, 32]) ++ r2) ++ (bstr [32, 107, 32])) ++ r8) ++ (bstr [32])) ++ r14) ++ (bstr [32])) ++ r20) : Value) = v,
    fun τ v => (.string (((((((((bstr [118, 32]) ++ r2) ++ (bstr [32, 107, 32])) ++ r8) ++ (bstr [32])) ++ r14) ++ (bstr [32])) ++ r20) ++ (bstr [47])) : Value) = v,
    fun τ v => (.pointer (some ⟨b1, 4, none⟩) : Value) = v,
    fun τ v => (.int .i64 a0.2.2.2.2 : Value) = v,
    fun τ v => (.string r26 : Value) = v,
    fun τ v => (.string ((((((((((bstr [118, 32]) ++ r2) ++ (bstr [32, 107, 32])) ++ r8) ++ (bstr [32])) ++ r14) ++ (bstr [32])) ++ r20) ++ (bstr [47])) ++ r26) : Value) = v]) (fun _ _ => []) z_mix rfl (tl_mono ⟨fun _ _ _ _ h => h, ⟨fun _ _ _ _ h => h, ⟨fun _ _ _ _ h => h, ⟨fun _ _ _ _ h => h, ⟨fun _ _ _ _ h => h, ⟨fun _ _ _ _ h => h, ⟨fun _ _ _ _ h => h, ⟨fun _ _ _ _ h => h, ⟨fun _ _ _ _ h => h, ⟨fun _ _ _ _ h => h, ⟨fun _ _ _ _ h => h, ⟨fun _ _ _ _ h => h, ⟨fun _ _ _ _ h => h, ⟨fun _ _ _ _ h => h, ⟨fun _ _ _ _ h => h, ⟨fun _ _ _ _ h => h, ⟨fun _ _ _ _ h => h, ⟨fun _ _ _ _ h => h, ⟨fun _ _ _ _ h => h, ⟨fun _ _ _ _ h => h, ⟨fun _ _ _ _ h => h, ⟨fun _ _ _ _ h => h, ⟨fun _ _ _ _ h => h, ⟨fun _ _ _ _ h => h, ⟨fun _ _ _ _ h => h, trivial⟩⟩⟩⟩⟩⟩⟩⟩⟩⟩⟩⟩⟩⟩⟩⟩⟩⟩⟩⟩⟩⟩⟩⟩⟩) (allB_cons (allB_cons (allB_cons (allB_cons (allB_cons (allB_cons (allB_cons (allB_cons (allB_cons (allB_cons (allB_cons (allB_cons (allB_cons (allB_cons (allB_cons (allB_cons (allB_cons (allB_cons (allB_cons (allB_cons (allB_cons (allB_cons (allB_cons (allB_cons (allB_cons allB_nil ?_) ?_) ?_) ?_) ?_) ?_) ?_) ?_) ?_) ?_) ?_) ?_) ?_) ?_) ?_) ?_) ?_) ?_) ?_) ?_) ?_) ?_) ?_) ?_) ?_) ?_
  · intro ρ' τ pool rs hl hd hout hk
    refine o_fieldAddr rfl rfl rfl z_field89_0 ((hout 1 rfl).trans rfl) ?_
    exact st_addNil (hk _ _ (Sto.Le.refl _) rfl)
  · intro ρ' τ pool rs hl hd hout hk
    obtain ⟨_, e0, rfl⟩ := hd 0 rfl
    refine o_load (j := 0) (v := .int .i64 a0.1) rfl rfl rfl z_sc3 e0 rfl rfl ?_
    exact st_addNil (hk _ _ (Sto.Le.refl _) rfl)
  · intro ρ' τ pool rs hl hd hout hk
    obtain ⟨_, e1, rfl⟩ := hd 1 rfl
    refine st_call (foot := []) rfl rfl rfl rfl (evs_cons e1 rfl) rfl (callV_fn z_en78 (ref07_Digits_ok hr3 τ)) ?_
    rintro vτ4 τ4 gsτ4 hl5 ⟨rfl, rfl⟩
    exact st_addNil (hk _ _ hl5 rfl)
  · intro ρ' τ pool rs hl hd hout hk
    obtain ⟨_, e2, rfl⟩ := hd 2 rfl
    refine o_sadd rfl rfl rfl (ev_str z_str55) e2 hf6 ?_
    exact st_addNil (hk _ _ (Sto.Le.refl _) rfl)
  · intro ρ' τ pool rs hl hd hout hk
    obtain ⟨_, e3, rfl⟩ := hd 3 rfl
    refine o_sadd rfl rfl rfl e3 (ev_str z_str56) hf7 ?_
    exact st_addNil (hk _ _ (Sto.Le.refl _) rfl)
  · intro ρ' τ pool rs hl hd hout hk
    refine o_fieldAddr rfl rfl rfl z_field89_1 ((hout 1 rfl).trans rfl) ?_
    exact st_addNil (hk _ _ (Sto.Le.refl _) rfl)
  · intro ρ' τ pool rs hl hd hout hk
    obtain ⟨_, e5, rfl⟩ := hd 5 rfl
    refine o_load (j := 0) (v := .int .i64 a0.2.1) rfl rfl rfl z_sc3 e5 rfl rfl ?_
    exact st_addNil (hk _ _ (Sto.Le.refl _) rfl)
  · intro ρ' τ pool rs hl hd hout hk
    obtain ⟨_, e6, rfl⟩ := hd 6 rfl
    refine st_call (foot := []) rfl rfl rfl rfl (evs_cons e6 rfl) rfl (callV_fn z_en78 (ref07_Digits_ok hr9 τ)) ?_
    rintro vτ10 τ10 gsτ10 hl11 ⟨rfl, rfl⟩
    exact st_addNil (hk _ _ hl11 rfl)
  · intro ρ' τ pool rs hl hd hout hk
    obtain ⟨_, e4, rfl⟩ := hd 4 rfl
    obtain ⟨_, e7, rfl⟩ := hd 7 rfl
    refine o_sadd rfl rfl rfl e4 e7 hf12 ?_
    exact st_addNil (hk _ _ (Sto.Le.refl _) rfl)
  · intro ρ' τ pool rs hl hd hout hk
    obtain ⟨_, e8, rfl⟩ := hd 8 rfl
    refine o_sadd rfl rfl rfl e8 (ev_str z_str25) hf13 ?_
    exact st_addNil (hk _ _ (Sto.Le.refl _) rfl)
  · intro ρ' τ pool rs hl hd hout hk
    refine o_fieldAddr rfl rfl rfl z_field89_2 ((hout 1 rfl).trans rfl) ?_
    exact st_addNil (hk _ _ (Sto.Le.refl _) rfl)
  · intro ρ' τ pool rs hl hd hout hk
    obtain ⟨_, e10, rfl⟩ := hd 10 rfl
    refine o_load (j := 0) (v := .int .u32 a0.2.2.1) rfl rfl rfl z_sc33 e10 rfl rfl ?_
    exact st_addNil (hk _ _ (Sto.Le.refl _) rfl)
  · intro ρ' τ pool rs hl hd hout hk
    obtain ⟨_, e11, rfl⟩ := hd 11 rfl
    refine o_conv rfl rfl rfl Tryd.underlying33 Tryd.underlying3 e11 ?_
    exact st_addNil (hk _ _ (Sto.Le.refl _) rfl)
  · intro ρ' τ pool rs hl hd hout hk
    obtain ⟨_, e12, rfl⟩ := hd 12 rfl
    refine st_call (foot := []) rfl rfl rfl rfl (evs_cons e12 rfl) rfl (callV_fn z_en78 (ref07_Digits_ok hr15 τ)) ?_
    rintro vτ16 τ16 gsτ16 hl17 ⟨rfl, rfl⟩
    exact st_addNil (hk _ _ hl17 rfl)
  · intro ρ' τ pool rs hl hd hout hk
    obtain ⟨_, e9, rfl⟩ := hd 9 rfl
    obtain ⟨_, e13, rfl⟩ := hd 13 rfl
    refine o_sadd rfl rfl rfl e9 e13 hf18 ?_
    exact st_addNil (hk _ _ (Sto.Le.refl _) rfl)
  · intro ρ' τ pool rs hl hd hout hk
    obtain ⟨_, e14, rfl⟩ := hd 14 rfl
    refine o_sadd rfl rfl rfl e14 (ev_str z_str25) hf19 ?_
    exact st_addNil (hk _ _ (Sto.Le.refl _) rfl)
  · intro ρ' τ pool rs hl hd hout hk
    refine o_fieldAddr rfl rfl rfl z_field89_3 ((hout 1 rfl).trans rfl) ?_
    exact st_addNil (hk _ _ (Sto.Le.refl _) rfl)
  · intro ρ' τ pool rs hl hd hout hk
    obtain ⟨_, e16, rfl⟩ := hd 16 rfl
    refine o_load (j := 0) (v := .int .i64 a0.2.2.2.1) rfl rfl rfl z_sc3 e16 rfl rfl ?_
    exact st_addNil (hk _ _ (Sto.Le.refl _) rfl)
  · intro ρ' τ pool rs hl hd hout hk
    obtain ⟨_, e17, rfl⟩ := hd 17 rfl
    refine st_call (foot := []) rfl rfl rfl rfl (evs_cons e17 rfl) rfl (callV_fn z_en78 (ref07_Digits_ok hr21 τ)) ?_
    rintro vτ22 τ22 gsτ22 hl23 ⟨rfl, rfl⟩
    exact st_addNil (hk _ _ hl23 rfl)
  · intro ρ' τ pool rs hl hd hout hk
    obtain ⟨_, e15, rfl⟩ := hd 15 rfl
    obtain ⟨_, e18, rfl⟩ := hd 18 rfl
    refine o_sadd rfl rfl rfl e15 e18 hf24 ?_
    exact st_addNil (hk _ _ (Sto.Le.refl _) rfl)
  · intro ρ' τ pool rs hl hd hout hk
    obtain ⟨_, e19, rfl⟩ := hd 19 rfl
    refine o_sadd rfl rfl rfl e19 (ev_str z_str57) hf25 ?_
    exact st_addNil (hk _ _ (Sto.Le.refl _) rfl)
  · intro ρ' τ pool rs hl hd hout hk
    refine o_fieldAddr rfl rfl rfl z_field89_4 ((hout 1 rfl).trans rfl) ?_
    exact st_addNil (hk _ _ (Sto.Le.refl _) rfl)
  · intro ρ' τ pool rs hl hd hout hk
    obtain ⟨_, e21, rfl⟩ := hd 21 rfl
    refine o_load (j := 0) (v := .int .i64 a0.2.2.2.2) rfl rfl rfl z_sc3 e21 rfl rfl ?_
    exact st_addNil (hk _ _ (Sto.Le.refl _) rfl)
  · intro ρ' τ pool rs hl hd hout hk
    obtain ⟨_, e22, rfl⟩ := hd 22 rfl
    refine st_call (foot := []) rfl rfl rfl rfl (evs_cons e22 rfl) rfl (callV_fn z_en78 (ref07_Digits_ok hr27 τ)) ?_
    rintro vτ28 τ28 gsτ28 hl29 ⟨rfl, rfl⟩
    exact st_addNil (hk _ _ hl29 rfl)
  · intro ρ' τ pool rs hl hd hout hk
    obtain ⟨_, e20, rfl⟩ := hd 20 rfl
    obtain ⟨_, e23, rfl⟩ := hd 23 rfl
    refine o_sadd rfl rfl rfl e20 e23 hf30 ?_
    exact st_addNil (hk _ _ (Sto.Le.refl _) rfl)
  intro ρ' τ31 vals hl31 hv hout
  have l24 : Eng.look ρ' 27 = some (.string ((((((((((bstr [118, 32]) ++ r2) ++ (bstr [32, 107, 32])) ++ r8) ++ (bstr [32])) ++ r14) ++ (bstr [32])) ++ r20) ++ (bstr [47])) ++ r26)) := ((hv 24 (by decide)).1).trans (congrArg some (show vals 24 = .string ((((((((((bstr [118, 32]) ++ r2) ++ (bstr [32, 107, 32])) ++ r8) ++ (bstr [32])) ++ r14) ++ (bstr [32])) ++ r20) ++ (bstr [47])) ++ r26) from Eq.symm (hv 24 (by decide)).2))
  refine st_ord [0] [[(b1, .cells [.int .i64 a0.1, .int .i64 a0.2.1, .int .u32 a0.2.2.1, .int .i64 a0.2.2.2.1, .int .i64 a0.2.2.2.2].toArray 89 (0, 0))]] rfl ?_
  refine st_env (ρ' := [(27, .string ((((((((((bstr [118, 32]) ++ r2) ++ (bstr [32, 107, 32])) ++ r8) ++ (bstr [32])) ++ r14) ++ (bstr [32])) ++ r20) ++ (bstr [47])) ++ r26)), (2, .string (bstr []))]) ⟨l24, (hout 2 rfl).trans rfl, trivial⟩ ?_
  refine o_assign rfl rfl rfl rfl ?_
  refine st_end ?_
  refine st_ord [] [] rfl ?_
  obtain rfl := Eq.symm h
  exact st_ret (gs' := []) Tryd.func94 rfl (List.Sublist.refl _) hl31 ⟨rfl, rfl⟩
theorem ref08_Line_ok {a0 : (Int × Int × Int × Int × Int) × List Int} {v1 : Value} {r : ByteArray} (h : ref08_Line a0 r) (σ : Sto) (hs2 : Sl (kI .u8) σ v1 a0.2) :
    Does Tryd.prog 47 [.agg [.int .i64 a0.1.1, .int .i64 a0.1.2.1, .int .u32 a0.1.2.2.1, .int .i64 a0.1.2.2.2.1, .int .i64 a0.1.2.2.2.2, v1].toArray] σ [] (fun v τ gs => gs = [] ∧ .string r = v) := by
  refine call_of Tryd.func47 Tryd.ntmps47 rfl rfl (fun cs fs => ?_)
  refine st_seq ?_
  refine st_region ?_
  refine o_box (cs := [.int .i64 a0.1.1, .int .i64 a0.1.2.1, .int .u32 a0.1.2.2.1, .int .i64 a0.1.2.2.2.1, .int .i64 a0.1.2.2.2.2, v1]) rfl rfl rfl rfl rfl (fun b3 => ?_)
  refine o_assign rfl rfl rfl (ev_str z_str19) ?_
  refine st_end ?_
  refine st_seq ?_
  obtain ⟨r4, hr5, h⟩ := h
  obtain ⟨hf8, h⟩ := h
  obtain ⟨r9, hr10, h⟩ := h
  obtain ⟨hf13, h⟩ := h
  refine st_draw 9 (tl [fun τ v => (.pointer (some ⟨b3, 0, none⟩) : Value) = v,
    fun τ v => (.agg [.int .i64 a0.1.1, .int .i64 a0.1.2.1, .int .u32 a0.1.2.2.1, .int .i64 a0.1.2.2.2.1, .int .i64 a0.1.2.2.2.2].toArray : Value) = v,
    fun τ v => (.string r4 : Value) = v,
    fun τ v => (.string (r4 ++ (bstr [32])) : Value) = v,
    fun τ v => (.pointer (some ⟨b3, 5, none⟩) : Value) = v,
    fun τ v => (v1 : Value) = v,
    fun τ v => (.int .i64 (a0.2.length : Int) : Value) = v,
    fun τ v => (.string r9 : Value) = v,
    fun τ v => (.string ((r4 ++ (bstr [32])) ++ r9) : Value) = v]) (fun _ _ => []) z_mix rfl (tl_mono ⟨fun _ _ _ _ h => h, ⟨fun _ _ _ _ h => h, ⟨fun _ _ _ _ h => h, ⟨fun _ _ _ _ h => h, ⟨fun _ _ _ _ h => h, ⟨fun _ _ _ _ h => h, ⟨fun _ _ _ _ h => h, ⟨fun _ _ _ _ h => h, ⟨fun _ _ _ _ h => h, trivial⟩⟩⟩⟩⟩⟩⟩⟩⟩) (allB_cons (allB_cons (allB_cons (allB_cons (allB_cons (allB_cons (allB_cons (allB_cons (allB_cons allB_nil ?_) ?_) ?_) ?_) ?_) ?_) ?_) ?_) ?_) ?_
  · intro ρ' τ pool rs hl hd hout hk
    refine o_fieldAddr rfl rfl rfl z_field91_0 ((hout 1 rfl).trans rfl) ?_
    exact st_addNil (hk _ _ (Sto.Le.refl _) rfl)
  · intro ρ' τ pool rs hl hd hout hk
    obtain ⟨_, e0, rfl⟩ := hd 0 rfl
    refine o_loadN (j := 0) (vs := [.int .i64 a0.1.1, .int .i64 a0.1.2.1, .int .u32 a0.1.2.2.1, .int .i64 a0.1.2.2.2.1, .int .i64 a0.1.2.2.2.2]) rfl rfl rfl z_agg89 e0 rfl rfl ?_
    exact st_addNil (hk _ _ (Sto.Le.refl _) rfl)
  · intro ρ' τ pool rs hl hd hout hk
    obtain ⟨_, e1, rfl⟩ := hd 1 rfl
    refine st_call (foot := []) rfl rfl rfl rfl (evs_cons e1 rfl) rfl (callV_fn z_en94 (ref07_Line_ok hr5 τ)) ?_
    rintro vτ6 τ6 gsτ6 hl7 ⟨rfl, rfl⟩
    exact st_addNil (hk _ _ hl7 rfl)
  · intro ρ' τ pool rs hl hd hout hk
    obtain ⟨_, e2, rfl⟩ := hd 2 rfl
    refine o_sadd rfl rfl rfl e2 (ev_str z_str25) hf8 ?_
    exact st_addNil (hk _ _ (Sto.Le.refl _) rfl)
  · intro ρ' τ pool rs hl hd hout hk
    refine o_fieldAddr rfl rfl rfl z_field91_1 ((hout 1 rfl).trans rfl) ?_
    exact st_addNil (hk _ _ (Sto.Le.refl _) rfl)
  · intro ρ' τ pool rs hl hd hout hk
    obtain ⟨_, e4, rfl⟩ := hd 4 rfl
    refine o_load (j := 0) (v := v1) rfl rfl rfl z_sc67 e4 rfl rfl ?_
    exact st_addNil (hk _ _ (Sto.Le.refl _) rfl)
  · intro ρ' τ pool rs hl hd hout hk
    obtain ⟨_, e5, rfl⟩ := hd 5 rfl
    refine o_lenI rfl rfl rfl z_slT67 e5 (hs2.up hl) ?_
    exact st_addNil (hk _ _ (Sto.Le.refl _) rfl)
  · intro ρ' τ pool rs hl hd hout hk
    obtain ⟨_, e6, rfl⟩ := hd 6 rfl
    refine st_call (foot := []) rfl rfl rfl rfl (evs_cons e6 rfl) rfl (callV_fn z_en78 (ref07_Digits_ok hr10 τ)) ?_
    rintro vτ11 τ11 gsτ11 hl12 ⟨rfl, rfl⟩
    exact st_addNil (hk _ _ hl12 rfl)
  · intro ρ' τ pool rs hl hd hout hk
    obtain ⟨_, e3, rfl⟩ := hd 3 rfl
    obtain ⟨_, e7, rfl⟩ := hd 7 rfl
    refine o_sadd rfl rfl rfl e3 e7 hf13 ?_
    exact st_addNil (hk _ _ (Sto.Le.refl _) rfl)
  intro ρ' τ14 vals hl14 hv hout
  have l8 : Eng.look ρ' 11 = some (.string ((r4 ++ (bstr [32])) ++ r9)) := ((hv 8 (by decide)).1).trans (congrArg some (show vals 8 = .string ((r4 ++ (bstr [32])) ++ r9) from Eq.symm (hv 8 (by decide)).2))
  refine st_ord [0] [[(b3, .cells [.int .i64 a0.1.1, .int .i64 a0.1.2.1, .int .u32 a0.1.2.2.1, .int .i64 a0.1.2.2.2.1, .int .i64 a0.1.2.2.2.2, v1].toArray 91 (0, 0))]] rfl ?_
  refine st_env (ρ' := [(11, .string ((r4 ++ (bstr [32])) ++ r9)), (2, .string (bstr []))]) ⟨l8, (hout 2 rfl).trans rfl, trivial⟩ ?_
  refine o_assign rfl rfl rfl rfl ?_
  refine st_end ?_
  refine st_ord [] [] rfl ?_
  obtain rfl := Eq.symm h
  exact st_ret (gs' := []) Tryd.func47 rfl (List.Sublist.refl _) hl14 ⟨rfl, rfl⟩
theorem crc_shift_ok {a0 : Int} {r : Int} (h : crc_shift a0 r) (σ : Sto)  :
    Does Tryd.prog 129 [.int .u32 a0] σ [] (fun v τ gs => gs = [] ∧ .int .u32 r = v) := by
  refine call_of Tryd.func129 Tryd.ntmps129 rfl rfl (fun cs fs => ?_)
  refine st_seq ?_
  refine st_region ?_
  refine o_assign rfl rfl rfl rfl ?_
  refine st_end ?_
  refine st_seq ?_
  refine st_cut (fun ρ τ1 gs => ∃ (s1 : Int), crc_shift_j1 s1 r ∧ σ.Le τ1 ∧ ρ = [(0, .int .u32 s1), (2, .int .u32 0)] ∧ gs = []) ?_ (fun hk1 => ?_)
  · rintro ρ1 τ1 gs1 ⟨s1, h, hl1, rfl, rfl⟩
    refine st_seq ?_
    refine st_region ?_
    refine o_move rfl rfl rfl rfl ?_
    refine o_assign rfl rfl rfl rfl ?_
    refine st_end ?_
    obtain rfl := Eq.symm h
    exact st_ret (gs' := []) Tryd.func129 rfl (List.Sublist.refl _) hl1 ⟨rfl, rfl⟩
  refine st_seq ?_
  refine st_region ?_
  refine o_move rfl rfl rfl rfl ?_
  refine st_end ?_
  obtain ⟨e2, hL2, hA2⟩ := h
  refine st_env (ρ' := [(0, .int .u32 a0), (2, .int .u32 0), (3, .int .i64 0)]) ⟨rfl, rfl, rfl, trivial⟩ ?_
  refine st_loop hL2 (fun (s2 : Int × Int) ρ τ2 gs => σ.Le τ2 ∧ ρ = [(0, .int .u32 s2.1), (2, .int .u32 0), (3, .int .i64 s2.2)] ∧ gs = []) ⟨Sto.Le.refl _, rfl, rfl⟩ ?_
  rintro s2 o2 h he2 ρ2 τ2 gs2 ⟨hl2, rfl, rfl⟩ hn2
  refine st_seq ?_
  refine st_region ?_
  refine o_ibin (v := .bool (decide (s2.2 < 8))) rfl rfl rfl rfl rfl rfl ?_
  refine st_end ?_
  refine st_seq ?_
  refine st_cond rfl (fun hc => ?_) (fun hc => ?_)
  · replace h := (if_pos hc).mp h
    refine st_skip ?_
    refine st_seq ?_
    refine st_block ?_
    refine st_region ?_
    refine o_move rfl rfl rfl rfl ?_
    refine o_shr rfl rfl rfl rfl rfl (by decide) ?_
    refine o_move rfl rfl rfl rfl ?_
    refine o_ibin (v := .int .u32 (iand .u32 s2.1 1)) rfl rfl rfl rfl rfl rfl ?_
    refine o_neg rfl rfl rfl rfl ?_
    refine o_ibin (v := .int .u32 (iand .u32 3988292384 (IntKind.u32.wrap (0 - (iand .u32 s2.1 1))))) rfl rfl rfl rfl rfl rfl ?_
    refine o_ibin (v := .int .u32 (ixor .u32 (ishr .u32 s2.1 1) (iand .u32 3988292384 (IntKind.u32.wrap (0 - (iand .u32 s2.1 1)))))) rfl rfl rfl rfl rfl rfl ?_
    refine o_assign rfl rfl rfl rfl ?_
    refine st_end ?_
    refine st_inBlock ?_
    refine st_region ?_
    refine o_ibin (v := .int .i64 (IntKind.i64.wrap (s2.2 + 1))) rfl rfl rfl rfl rfl rfl ?_
    refine o_move rfl rfl rfl rfl ?_
    refine st_end ?_
    refine st_env (ρ' := [(0, .int .u32 (ixor .u32 (ishr .u32 s2.1 1) (iand .u32 3988292384 (IntKind.u32.wrap (0 - (iand .u32 s2.1 1)))))), (2, .int .u32 0), (3, .int .i64 (IntKind.i64.wrap (s2.2 + 1)))]) ⟨rfl, rfl, rfl, trivial⟩ ?_
    exact hn2 _ _ _ _ h ⟨hl2, rfl, rfl⟩
  · replace h := (if_neg (ne_t hc)).mp h
    refine st_exit rfl ?_
    obtain rfl := he2 _ h
    replace h := hA2
    refine st_env (ρ' := [(0, .int .u32 s2.1), (2, .int .u32 0)]) ⟨rfl, rfl, trivial⟩ ?_
    exact hk1 _ _ _ ⟨s2.1, h, hl2, rfl, rfl⟩
theorem crc_New_ok  {r : List Int} (h : crc_New r) (σ : Sto)  :
    Does Tryd.prog 88 [] σ [] (fun v τ gs => ∃ (bi19 : Nat), gs = [] ∧ .pointer (some ⟨bi19, 0, none⟩) = v ∧ CelN τ ⟨bi19, 0, none⟩ (cellsN (Value.int .u32) 0 1024 r)) := by
  refine call_of Tryd.func88 Tryd.ntmps88 rfl rfl (fun cs fs => ?_)
  refine st_seq ?_
  refine st_region ?_
  refine o_assign rfl rfl rfl rfl ?_
  refine st_end ?_
  refine st_seq ?_
  refine st_region ?_
  refine o_build (ps := []) (cs := (cellsN (Value.int .u32) 0 1024 (List.replicate 1024 0))) rfl rfl rfl z_struct203 trivial rfl ?_
  refine o_box (cs := (cellsN (Value.int .u32) 0 1024 (List.replicate 1024 0))) rfl rfl rfl rfl rfl (fun b1 => ?_)
  refine o_assign rfl rfl rfl rfl ?_
  refine st_end ?_
  refine st_seq ?_
  refine st_cut (fun ρ τ2 gs => ∃ (s2 : List Int), crc_New_j1 s2 r ∧ σ.Le τ2 ∧ ρ = [(0, .pointer none), (1, .pointer (some ⟨b1, 0, none⟩))] ∧ gs = [[(b1, .cells (cellsN (Value.int .u32) 0 1024 s2).toArray 203 (0, 0))]]) ?_ (fun hk2 => ?_)
  · rintro ρ2 τ2 gs2 ⟨s2, h, hl2, rfl, rfl⟩
    refine st_seq ?_
    refine st_region ?_
    refine o_move rfl rfl rfl rfl ?_
    refine o_assign rfl rfl rfl rfl ?_
    refine st_end ?_
    refine st_freeze (fun τ3 hl4 hg5 => ?_)
    obtain rfl := Eq.symm h
    exact st_ret (gs' := []) Tryd.func88 rfl (List.Sublist.refl _) (hl2.trans hl4) ⟨_, rfl, rfl, (celn_box hg5)⟩
  refine st_seq ?_
  refine st_region ?_
  refine o_move rfl rfl rfl rfl ?_
  refine st_end ?_
  obtain ⟨e6, hL6, hA6⟩ := h
  refine st_env (ρ' := [(0, .pointer none), (1, .pointer (some ⟨b1, 0, none⟩)), (7, .int .i64 0)]) ⟨rfl, rfl, rfl, trivial⟩ ?_
  refine st_loop hL6 (fun (s6 : Int × List Int) ρ τ6 gs => σ.Le τ6 ∧ ρ = [(0, .pointer none), (1, .pointer (some ⟨b1, 0, none⟩)), (7, .int .i64 s6.1)] ∧ gs = [[(b1, .cells (cellsN (Value.int .u32) 0 1024 s6.2).toArray 203 (0, 0))]]) ⟨Sto.Le.refl _, rfl, rfl⟩ ?_
  rintro s6 o6 h he6 ρ6 τ6 gs6 ⟨hl6, rfl, rfl⟩ hn6
  refine st_seq ?_
  refine st_region ?_
  refine o_ibin (v := .bool (decide (s6.1 < 256))) rfl rfl rfl rfl rfl rfl ?_
  refine st_end ?_
  refine st_seq ?_
  refine st_cond rfl (fun hc => ?_) (fun hc => ?_)
  · replace h := (if_pos hc).mp h
    refine st_skip ?_
    refine st_seq ?_
    refine st_cut (fun ρ τ7 gs => ∃ (s7 : List Int), crc_New_j3 s6 s7 o6 ∧ τ6.Le τ7 ∧ ρ = [(0, .pointer none), (1, .pointer (some ⟨b1, 0, none⟩)), (7, .int .i64 s6.1)] ∧ gs = [[(b1, .cells (cellsN (Value.int .u32) 0 1024 s7).toArray 203 (0, 0))]]) ?_ (fun hk7 => ?_)
    · rintro ρ7 τ7 gs7 ⟨s7, h, hl7, rfl, rfl⟩
      refine st_region ?_
      refine o_ibin (v := .int .i64 (IntKind.i64.wrap (s6.1 + 1))) rfl rfl rfl rfl rfl rfl ?_
      refine o_move rfl rfl rfl rfl ?_
      refine st_end ?_
      refine st_env (ρ' := [(0, .pointer none), (1, .pointer (some ⟨b1, 0, none⟩)), (7, .int .i64 (IntKind.i64.wrap (s6.1 + 1)))]) ⟨rfl, rfl, rfl, trivial⟩ ?_
      exact hn6 _ _ _ _ h ⟨(hl6.trans hl7), rfl, rfl⟩
    refine st_block ?_
    refine st_seq ?_
    refine st_region ?_
    refine o_move rfl rfl rfl rfl ?_
    refine o_assign rfl rfl rfl rfl ?_
    refine st_end ?_
    refine st_seq ?_
    refine st_region ?_
    refine o_move rfl rfl rfl rfl ?_
    refine o_conv rfl rfl rfl Tryd.underlying3 Tryd.underlying33 rfl ?_
    refine o_assign rfl rfl rfl rfl ?_
    refine st_end ?_
    refine st_seq ?_
    refine st_region ?_
    refine o_move rfl rfl rfl rfl ?_
    refine st_end ?_
    obtain ⟨e8, hL8, hA8⟩ := h
    refine st_env (ρ' := [(0, .pointer none), (1, .pointer (some ⟨b1, 0, none⟩)), (7, .int .i64 s6.1), (2, .int .i64 s6.1), (3, .int .u32 (IntKind.u32.wrap s6.1)), (12, .int .i64 0)]) ⟨rfl, rfl, rfl, rfl, rfl, rfl, trivial⟩ ?_
    refine st_loop hL8 (fun (s8 : Int × Int × List Int) ρ τ8 gs => τ6.Le τ8 ∧ ρ = [(0, .pointer none), (1, .pointer (some ⟨b1, 0, none⟩)), (7, .int .i64 s6.1), (2, .int .i64 s6.1), (3, .int .u32 s8.1), (12, .int .i64 s8.2.1)] ∧ gs = [[(b1, .cells (cellsN (Value.int .u32) 0 1024 s8.2.2).toArray 203 (0, 0))]]) ⟨Sto.Le.refl _, rfl, rfl⟩ ?_
    rintro s8 o8 h he8 ρ8 τ8 gs8 ⟨hl8, rfl, rfl⟩ hn8
    refine st_seq ?_
    refine st_region ?_
    refine o_ibin (v := .bool (decide (s8.2.1 < 4))) rfl rfl rfl rfl rfl rfl ?_
    refine st_end ?_
    refine st_seq ?_
    refine st_cond rfl (fun hc => ?_) (fun hc => ?_)
    · replace h := (if_pos hc).mp h
      refine st_skip ?_
      refine st_seq ?_
      refine st_block ?_
      refine st_seq ?_
      refine st_region ?_
      refine o_move rfl rfl rfl rfl ?_
      refine o_assign rfl rfl rfl rfl ?_
      refine st_end ?_
      refine st_seq ?_
      refine st_region ?_
      refine o_move rfl rfl rfl rfl ?_
      obtain ⟨r9, hr10, h⟩ := h
      refine st_call (foot := []) rfl rfl rfl rfl rfl rfl (callV_fn z_en129 (crc_shift_ok hr10 τ8)) ?_
      rintro vτ11 τ11 gsτ11 hl12 ⟨rfl, rfl⟩
      refine o_assign rfl rfl rfl rfl ?_
      refine st_end ?_
      refine st_region ?_
      refine o_move rfl rfl rfl rfl ?_
      refine o_move rfl rfl rfl rfl ?_
      refine o_move rfl rfl rfl rfl ?_
      refine o_move rfl rfl rfl rfl ?_
      refine o_nilCheck rfl rfl rfl rfl ?_
      refine o_fieldAddr rfl rfl rfl z_field203_0 rfl ?_
      obtain ⟨hf13, h⟩ := h
      obtain ⟨hf14, h⟩ := h
      refine o_indexA rfl rfl rfl z_arr201 rfl rfl hf13 hf14 ?_
      obtain ⟨hf15, h⟩ := h
      obtain ⟨hf16, h⟩ := h
      refine o_indexA rfl rfl rfl z_arr200 rfl rfl hf15 hf16 ?_
      refine o_storeB (j := 0) (q := (s8.2.1.toNat * 256 + s6.1.toNat)) (f := (Value.int .u32)) (zz := 0) (a := r9) (l := 1024) (xs := s8.2.2) rfl rfl rfl z_size33 rfl rfl rfl rfl rfl (by omega) (by omega) ?_
      refine st_gs [[(b1, .cells (cellsN (Value.int .u32) 0 1024 (putN 1024 0 s8.2.2 (s8.2.1.toNat * 256 + s6.1.toNat) r9)).toArray 203 (0, 0))]] rfl ?_
      refine st_end ?_
      refine st_inBlock ?_
      refine st_region ?_
      refine o_ibin (v := .int .i64 (IntKind.i64.wrap (s8.2.1 + 1))) rfl rfl rfl rfl rfl rfl ?_
      refine o_move rfl rfl rfl rfl ?_
      refine st_end ?_
      refine st_env (ρ' := [(0, .pointer none), (1, .pointer (some ⟨b1, 0, none⟩)), (7, .int .i64 s6.1), (2, .int .i64 s6.1), (3, .int .u32 r9), (12, .int .i64 (IntKind.i64.wrap (s8.2.1 + 1)))]) ⟨rfl, rfl, rfl, rfl, rfl, rfl, trivial⟩ ?_
      exact hn8 _ _ _ _ h ⟨(hl8.trans hl12), rfl, rfl⟩
    · replace h := (if_neg (ne_t hc)).mp h
      refine st_exit rfl ?_
      refine st_inBlock ?_
      obtain rfl := he8 _ h
      replace h := hA8
      refine st_env (ρ' := [(0, .pointer none), (1, .pointer (some ⟨b1, 0, none⟩)), (7, .int .i64 s6.1)]) ⟨rfl, rfl, rfl, trivial⟩ ?_
      exact hk7 _ _ _ ⟨s8.2.2, h, hl8, rfl, rfl⟩
  · replace h := (if_neg (ne_t hc)).mp h
    refine st_exit rfl ?_
    obtain rfl := he6 _ h
    replace h := hA6
    refine st_env (ρ' := [(0, .pointer none), (1, .pointer (some ⟨b1, 0, none⟩))]) ⟨rfl, rfl, trivial⟩ ?_
    exact hk2 _ _ _ ⟨s6.2, h, hl6, rfl, rfl⟩
theorem frame_New_ok  {r : List Int} (h : frame_New r) (σ : Sto)  :
    Does Tryd.prog 40 [] σ [] (fun v τ gs => ∃ (bi13 : Nat) (bi11 : Nat), gs = [] ∧ .pointer (some ⟨bi11, 0, none⟩) = v ∧ CelN τ ⟨bi13, 0, none⟩ (cellsN (Value.int .u32) 0 1024 r) ∧ CelN τ ⟨bi11, 0, none⟩ [.pointer (some ⟨bi13, 0, none⟩)]) := by
  refine call_of Tryd.func40 Tryd.ntmps40 rfl rfl (fun cs fs => ?_)
  refine st_seq ?_
  refine st_region ?_
  refine o_assign rfl rfl rfl rfl ?_
  refine st_end ?_
  refine st_seq ?_
  refine st_region ?_
  obtain ⟨r1, hr2, h⟩ := h
  refine st_call (foot := []) rfl rfl rfl rfl rfl rfl (callV_fn z_en88 (crc_New_ok hr2 σ)) ?_
  rintro vτ3 τ3 gsτ3 hl4 ⟨bi5, rfl, rfl, hc6⟩
  refine o_build (ps := [(0, [.pointer (some ⟨bi5, 0, none⟩)])]) (cs := [.pointer (some ⟨bi5, 0, none⟩)]) rfl rfl rfl z_struct152 ⟨rfl, ⟨_, rfl, rfl⟩, trivial⟩ rfl ?_
  refine o_box (cs := [.pointer (some ⟨bi5, 0, none⟩)]) rfl rfl rfl rfl rfl (fun b7 => ?_)
  refine o_assign rfl rfl rfl rfl ?_
  refine st_end ?_
  refine st_freeze (fun τ8 hl9 hg10 => ?_)
  obtain rfl := Eq.symm h
  exact st_ret (gs' := []) Tryd.func40 rfl (List.Sublist.refl _) (hl4.trans hl9) ⟨_, _, rfl, rfl, (hc6.up hl9), (celn_box hg10)⟩
theorem fence_Segments_1_ok {c0 : List Int} {bc0 : Nat} {v1 : Value} {σ0 : Sto} (hc0_0 : Cel σ0 ⟨bc0, 0, none⟩ (v1)) (hs2 : Sl (kI .u8) σ0 v1 c0) :
    IterV Tryd.prog (fun τ x vx => ∃ (v14 : Value), vx = [.int .i64 x.1, v14] ∧ Sl (kI .u8) τ v14 x.2) (.func (.func 121) #[] [.pointer (some ⟨bc0, 0, none⟩)].toArray) σ0 [] (fun (_ : Unit) _ f => f = []) (fence_Segments_1 c0) := by
  intro S Y I y hyc hyo hIm hY s s' o hR σ g hle hIg
  obtain ⟨r, hr0⟩ : ∃ r, r = (s', o) := ⟨_, rfl⟩
  rw [← hr0] at hR
  have h := hR
  refine callV_of (caps := [.pointer (some ⟨bc0, 0, none⟩)]) z_en121 ?_
  refine call_of Tryd.func121 Tryd.ntmps121 rfl rfl (fun cs fs => ?_)
  refine st_ord [0] [g] rfl ?_
  refine st_scope ?_
  refine st_seq ?_
  refine st_region ?_
  refine o_assign rfl rfl rfl rfl ?_
  refine st_end ?_
  refine st_seq ?_
  refine st_label ?_
  refine st_seq ?_
  refine st_region ?_
  refine o_loadI (v := v1) rfl rfl rfl z_sc67 rfl (Cel.up hc0_0 hle) ?_
  refine o_lenI rfl rfl rfl z_slT67 rfl (hs2.up hle) ?_
  refine o_move rfl rfl rfl rfl ?_
  refine st_end ?_
  obtain ⟨e3, hL3, hA3⟩ := h
  refine st_env (ρ' := [(0, y), (1, .pointer (some ⟨bc0, 0, none⟩)), (3, .int .i64 0), (6, v1), (7, .int .i64 (c0.length : Int)), (8, .int .i64 0)]) ⟨rfl, rfl, rfl, rfl, rfl, rfl, trivial⟩ ?_
  refine st_loop hL3 (fun (s3 : S × Int × Int) ρ τ3 gs => σ.Le τ3 ∧ ∃ (g4 : Grp), ρ = [(0, y), (1, .pointer (some ⟨bc0, 0, none⟩)), (3, .int .i64 s3.2.1), (6, v1), (7, .int .i64 (c0.length : Int)), (8, .int .i64 s3.2.2)] ∧ gs = [g4] ∧ I s3.1 τ3 g4) ⟨Sto.Le.refl _, g, rfl, rfl, hIg⟩ ?_
  rintro s3 o3 h he3 ρ3 τ3 gs3 ⟨hl3, g4, rfl, rfl, hI5⟩ hn3
  refine st_seq ?_
  refine st_region ?_
  refine o_ibin (v := .bool (decide (s3.2.2 < (c0.length : Int)))) rfl rfl rfl rfl rfl rfl ?_
  refine st_end ?_
  refine st_seq ?_
  refine st_cond rfl (fun hc => ?_) (fun hc => ?_)
  · replace h := (if_pos hc).mp h
    refine st_skip ?_
    refine st_seq ?_
    refine st_cut (fun ρ τ6 gs => ∃ (s6 : S × Int) (g7 : Grp), fence_Segments_1_j2 S Y s3 s6 o3 ∧ τ3.Le τ6 ∧ ρ = [(0, y), (1, .pointer (some ⟨bc0, 0, none⟩)), (3, .int .i64 s6.2), (6, v1), (7, .int .i64 (c0.length : Int)), (8, .int .i64 s3.2.2)] ∧ gs = [g7] ∧ I s6.1 τ6 g7) ?_ (fun hk6 => ?_)
    · rintro ρ6 τ6 gs6 ⟨s6, g7, h, hl6, rfl, rfl, hI8⟩
      refine st_region ?_
      refine o_ibin (v := .int .i64 (IntKind.i64.wrap (s3.2.2 + 1))) rfl rfl rfl rfl rfl rfl ?_
      refine o_move rfl rfl rfl rfl ?_
      refine st_end ?_
      refine st_env (ρ' := [(0, y), (1, .pointer (some ⟨bc0, 0, none⟩)), (3, .int .i64 s6.2), (6, v1), (7, .int .i64 (c0.length : Int)), (8, .int .i64 (IntKind.i64.wrap (s3.2.2 + 1)))]) ⟨rfl, rfl, rfl, rfl, rfl, rfl, trivial⟩ ?_
      exact hn3 _ _ _ _ h ⟨(hl3.trans hl6), g7, rfl, rfl, hI8⟩
    refine st_block ?_
    refine st_seq ?_
    refine st_region ?_
    refine o_move rfl rfl rfl rfl ?_
    obtain ⟨q9, hf10, h⟩ := h
    refine o_index rfl rfl rfl z_slT67 rfl rfl (hs2.up (hle.trans hl3)) rfl hf10 (fun b11 of12 vs hc13 hrep => ?_)
    obtain rfl := hrep
    refine o_loadI (v := .int .u8 q9) rfl rfl rfl z_sc5 rfl (hc13 0 _ rfl) ?_
    refine o_assign rfl rfl rfl rfl ?_
    refine o_assign rfl rfl rfl rfl ?_
    refine st_end ?_
    refine st_seq ?_
    refine st_seq ?_
    refine st_region ?_
    refine o_move rfl rfl rfl rfl ?_
    refine o_ibin (v := .bool (!(decide (q9 = 0)))) rfl rfl rfl rfl rfl rfl ?_
    refine st_end ?_
    refine st_cond rfl (fun hc => ?_) (fun hc => ?_)
    · replace h := (if_pos hc).mp h
      refine st_exit rfl ?_
      refine st_env (ρ' := [(0, y), (1, .pointer (some ⟨bc0, 0, none⟩)), (3, .int .i64 s3.2.1), (6, v1), (7, .int .i64 (c0.length : Int)), (8, .int .i64 s3.2.2)]) ⟨rfl, rfl, rfl, rfl, rfl, rfl, trivial⟩ ?_
      exact hk6 _ _ _ ⟨(s3.1, s3.2.1), g4, h, (Sto.Le.refl _), rfl, rfl, hI5⟩
    · replace h := (if_neg (ne_t hc)).mp h
      refine st_skip ?_
      refine st_seq ?_
      refine st_seq ?_
      refine st_cut (fun ρ τ14 gs => ∃ (s14 : S × Bool) (g15 : Grp), fence_Segments_1_j3 S Y s3 s14 o3 ∧ τ3.Le τ14 ∧ ρ = [(0, y), (1, .pointer (some ⟨bc0, 0, none⟩)), (6, v1), (7, .int .i64 (c0.length : Int)), (8, .int .i64 s3.2.2), (4, .int .i64 s3.2.2), (30, .bool s14.2)] ∧ gs = [g15] ∧ I s14.1 τ14 g15) ?_ (fun hk14 => ?_)
      · rintro ρ14 τ14 gs14 ⟨s14, g15, h, hl14, rfl, rfl, hI16⟩
        refine st_cond rfl (fun hc => ?_) (fun hc => ?_)
        · replace h := (if_pos hc).mp h
          obtain rfl := he3 _ h
          replace h := hA3
          obtain rfl := Eq.symm h
          cases hr0
          exact st_ret (gs' := [g15, []]) Tryd.func121 rfl (by simp) (hl3.trans hl14) ⟨g15, _, rfl, hI16, rfl⟩
        · replace h := (if_neg (ne_t hc)).mp h
          refine st_skip ?_
          refine st_region ?_
          refine o_move rfl rfl rfl rfl ?_
          refine o_ibin (v := .int .i64 (IntKind.i64.wrap (s3.2.2 + 1))) rfl rfl rfl rfl rfl rfl ?_
          refine o_assign rfl rfl rfl rfl ?_
          refine st_end ?_
          refine st_inBlock ?_
          refine st_env (ρ' := [(0, y), (1, .pointer (some ⟨bc0, 0, none⟩)), (3, .int .i64 (IntKind.i64.wrap (s3.2.2 + 1))), (6, v1), (7, .int .i64 (c0.length : Int)), (8, .int .i64 s3.2.2)]) ⟨rfl, rfl, rfl, rfl, rfl, rfl, trivial⟩ ?_
          exact hk6 _ _ _ ⟨(s14.1, (IntKind.i64.wrap (s3.2.2 + 1))), g15, h, hl14, rfl, rfl, hI16⟩
      refine st_region ?_
      refine o_move rfl rfl rfl rfl ?_
      refine o_move rfl rfl rfl rfl ?_
      refine o_ibin (v := .bool (decide (s3.2.1 < s3.2.2))) rfl rfl rfl rfl rfl rfl ?_
      refine o_moveB rfl rfl rfl rfl (fun hc => ?_) (fun hc => ?_)
      · replace h := (if_pos hc).mp h
        refine o_move rfl rfl rfl rfl ?_
        refine o_move rfl rfl rfl rfl ?_
        refine o_lit (dk := (kI .u8)) (xs := ([] : List Int)) (ps := []) (cs := []) rfl rfl rfl z_slT67 z_zero5 trivial rfl rfl rfl rfl Kd.Many.nil (fun v17 g18 ho19 => ?_)
        refine o_loadI (v := v1) rfl rfl rfl z_sc67 rfl (Cel.up hc0_0 (hle.trans hl3)) ?_
        refine o_move rfl rfl rfl rfl ?_
        refine o_move rfl rfl rfl rfl ?_
        refine o_move rfl rfl rfl rfl ?_
        obtain ⟨hf20, h⟩ := h
        obtain ⟨hf21, h⟩ := h
        obtain ⟨hf22, h⟩ := h
        obtain ⟨hf23, h⟩ := h
        obtain ⟨hf24, h⟩ := h
        refine o_slice (L := s3.2.1) (H := s3.2.2) rfl rfl rfl z_slT67 rfl rfl (hs2.up (hle.trans hl3)) ⟨_, rfl⟩ ⟨_, rfl⟩ hf20 hf21 hf22 ⟨_, _, rfl, hf23, hf24⟩ (by simp) (fun v25 hs26 => ?_)
        obtain ⟨hf30, h⟩ := h
        obtain ⟨hf31, h⟩ := h
        refine o_append (dk := (kI .u8)) (xs := ([] : List Int)) (ys := ((c0.drop s3.2.1.toNat).take ((s3.2.2 : Int) - s3.2.1).toNat)) rfl rfl rfl rfl z_slT67 rfl ho19 rfl (Sl.src hs26) hf30 hf31 (fun v27 g28 ho29 => ?_)
        obtain ⟨y36, u37, hy38, h⟩ := h
        refine st_freeze (fun τ32 hl33 hg34 => ?_)
        have hs35 := ho29.freeze hl33 hg34
        refine st_call (foot := [g4]) rfl rfl rfl rfl rfl rfl (hY (s3.2.1, (([] : List Int) ++ ((c0.drop s3.2.1.toNat).take ((s3.2.2 : Int) - s3.2.1).toNat))) s3.1 _ _ _ _ _ (hle.trans (hl3.trans hl33)) hy38 ⟨_, rfl, hs35⟩ (hIm _ _ _ _ hl33 hI5)) ?_
        rintro vτ39 τ39 gsτ39 hl40 ⟨rfl, g41, rfl, hI42⟩
        refine o_not rfl rfl rfl rfl ?_
        refine o_pick rfl rfl rfl rfl rfl ?_
        refine st_end ?_
        refine st_env (ρ' := [(0, y), (1, .pointer (some ⟨bc0, 0, none⟩)), (6, v1), (7, .int .i64 (c0.length : Int)), (8, .int .i64 s3.2.2), (4, .int .i64 s3.2.2), (30, .bool (!y36))]) ⟨rfl, rfl, rfl, rfl, rfl, rfl, rfl, trivial⟩ ?_
        exact hk14 _ _ _ ⟨(u37, (!y36)), g41, h, (hl33.trans hl40), rfl, rfl, hI42⟩
      · replace h := (if_neg (ne_t hc)).mp h
        refine st_pass rfl rfl rfl rfl rfl rfl ?_
        refine st_pass rfl rfl rfl rfl rfl rfl ?_
        refine st_pass rfl rfl rfl rfl rfl rfl ?_
        refine st_pass rfl rfl rfl rfl rfl rfl ?_
        refine st_pass rfl rfl rfl rfl rfl rfl ?_
        refine st_pass rfl rfl rfl rfl rfl rfl ?_
        refine st_pass rfl rfl rfl rfl rfl rfl ?_
        refine st_pass rfl rfl rfl rfl rfl rfl ?_
        refine st_pass rfl rfl rfl rfl rfl rfl ?_
        refine st_pass rfl rfl rfl rfl rfl rfl ?_
        refine st_pass rfl rfl rfl rfl rfl rfl ?_
        refine o_pick rfl rfl rfl rfl rfl ?_
        refine st_end ?_
        refine st_env (ρ' := [(0, y), (1, .pointer (some ⟨bc0, 0, none⟩)), (6, v1), (7, .int .i64 (c0.length : Int)), (8, .int .i64 s3.2.2), (4, .int .i64 s3.2.2), (30, .bool false)]) ⟨rfl, rfl, rfl, rfl, rfl, rfl, rfl, trivial⟩ ?_
        exact hk14 _ _ _ ⟨(s3.1, false), g4, h, (Sto.Le.refl _), rfl, rfl, hI5⟩
  · replace h := (if_neg (ne_t hc)).mp h
    refine st_exit rfl ?_
    refine st_inScope ?_
    obtain rfl := he3 _ h
    replace h := hA3
    obtain rfl := Eq.symm h
    cases hr0
    exact st_fin (gs' := [g4, []]) Tryd.func121 rfl (by simp) hl3 ⟨g4, _, rfl, hI5, rfl⟩
theorem fence_Segments_ok {a0 : List Int} {v1 : Value} {r : (((S : Type) → ((Int × List Int) → S → Bool × S → Prop) → S → S × Unit → Prop))} (h : fence_Segments a0 r) (σ : Sto) (hs2 : Sl (kI .u8) σ v1 a0) :
    Does Tryd.prog 85 [v1] σ [] (fun v τ gs => ∃ (f7 : Nat) (q8 : Array Value), gs = [] ∧ .func (.func f7) #[] q8 = v ∧ IterV Tryd.prog (fun τ x vx => ∃ (v16 : Value), vx = [.int .i64 x.1, v16] ∧ Sl (kI .u8) τ v16 x.2) (.func (.func f7) #[] q8) τ [] (fun (_ : Unit) _ f => f = []) r) := by
  refine call_of Tryd.func85 Tryd.ntmps85 rfl rfl (fun cs fs => ?_)
  refine st_seq ?_
  refine st_region ?_
  refine o_box (cs := [v1]) rfl rfl rfl rfl (oneL_sl hs2) (fun b3 => ?_)
  refine o_assign rfl rfl rfl rfl ?_
  refine st_end ?_
  refine st_seq ?_
  refine st_region ?_
  refine st_freeze (fun τ4 hl5 hg6 => ?_)
  refine o_func rfl rfl rfl rfl rfl ?_
  refine o_assign rfl rfl rfl rfl ?_
  refine st_end ?_
  obtain rfl := Eq.symm h
  exact st_ret (gs' := []) Tryd.func85 rfl (List.Sublist.refl _) hl5 ⟨_, _, rfl, rfl, (fence_Segments_1_ok (cel_of hg6 rfl) (hs2.up hl5))⟩
theorem cobs_Decode_ok {a0 : List Int} {v1 : Value} {r : List Int × Int} (h : cobs_Decode a0 r) (σ : Sto) (hs2 : Sl (kI .u8) σ v1 a0) :
    Does Tryd.prog 122 [v1] σ [] (fun v τ gs => ∃ (v64 : Value), gs = [] ∧ .tuple [v64, .int .i64 r.2].toArray = v ∧ Sl (kI .u8) τ v64 r.1) := by
  refine call_of Tryd.func122 Tryd.ntmps122 rfl rfl (fun cs fs => ?_)
  refine st_seq ?_
  refine st_region ?_
  refine o_assign rfl rfl rfl rfl ?_
  refine o_assign rfl rfl rfl rfl ?_
  refine st_end ?_
  refine st_scope ?_
  refine st_lcut (l := 0) rfl (fun ρ τ3 gs => ∃ (s3 : Unit), cobs_Decode_j1 s3 r ∧ σ.Le τ3 ∧ ρ = [(2, .slice none 0 0), (3, .int .i64 0)] ∧ gs = []) ?_ (fun hk3 => ?_)
  · rintro ρ3 τ3 gs3 ⟨s3, h, hl3, rfl, rfl⟩
    refine st_seq ?_
    refine st_skip ?_
    refine st_seq ?_
    refine st_region ?_
    refine o_assign rfl rfl rfl rfl ?_
    refine o_assign rfl rfl rfl rfl ?_
    refine st_end ?_
    obtain rfl := Eq.symm h
    exact st_ret (gs' := []) Tryd.func122 rfl (List.Sublist.refl _) hl3 ⟨_, rfl, rfl, Sl.nil⟩
  refine st_seq ?_
  refine st_region ?_
  refine o_assign rfl rfl rfl rfl ?_
  refine st_end ?_
  refine st_seq ?_
  refine st_region ?_
  refine o_move rfl rfl rfl rfl ?_
  refine o_assign rfl rfl rfl rfl ?_
  refine o_assign rfl rfl rfl rfl ?_
  refine st_end ?_
  refine st_seq ?_
  refine st_seq ?_
  refine st_region ?_
  refine o_move rfl rfl rfl rfl ?_
  refine o_lenI rfl rfl rfl z_slT67 rfl hs2 ?_
  refine o_ibin (v := .bool (decide ((a0.length : Int) = 0))) rfl rfl rfl rfl rfl rfl ?_
  refine st_end ?_
  refine st_cond rfl (fun hc => ?_) (fun hc => ?_)
  · replace h := (if_pos hc).mp h
    refine st_goto rfl ?_
    refine st_env (ρ' := [(2, .slice none 0 0), (3, .int .i64 0)]) ⟨rfl, rfl, trivial⟩ ?_
    exact hk3 _ _ _ ⟨(), h, (Sto.Le.refl _), rfl, rfl⟩
  · replace h := (if_neg (ne_t hc)).mp h
    refine st_skip ?_
    refine st_seq ?_
    refine st_label ?_
    refine st_seq ?_
    refine st_cut (fun ρ τ4 gs => ∃ (s4 : List Int) (v5 : Value) (g6 : Grp), cobs_Decode_j2 s4 r ∧ σ.Le τ4 ∧ ρ = [(2, .slice none 0 0), (3, .int .i64 0), (4, v5)] ∧ gs = [g6] ∧ Ow (kI .u8) 5 τ4 v5 s4 g6) ?_ (fun hk4 => ?_)
    · rintro ρ4 τ4 gs4 ⟨s4, v5, g6, h, hl4, rfl, rfl, ho7⟩
      refine st_seq ?_
      refine st_seq ?_
      refine st_region ?_
      refine o_move rfl rfl rfl rfl ?_
      refine o_assign rfl rfl rfl rfl ?_
      refine o_assign rfl rfl rfl rfl ?_
      refine st_end ?_
      refine st_freeze (fun τ8 hl9 hg10 => ?_)
      have hs11 := ho7.freeze hl9 hg10
      obtain rfl := Eq.symm h
      exact st_ret (gs' := []) Tryd.func122 rfl (List.Sublist.refl _) (hl4.trans hl9) ⟨_, rfl, rfl, hs11⟩
    obtain ⟨e14, hL14, hA14⟩ := h
    refine st_env (ρ' := [(2, .slice none 0 0), (3, .int .i64 0), (4, .slice none 0 0), (5, v1), (6, .bool false)]) ⟨rfl, rfl, rfl, rfl, rfl, trivial⟩ ?_
    refine st_addNil ?_
    refine st_loop hL14 (fun (s14 : List Int × List Int × Bool) ρ τ14 gs => σ.Le τ14 ∧ ∃ (v15 : Value) (g16 : Grp) (v18 : Value), ρ = [(2, .slice none 0 0), (3, .int .i64 0), (4, v15), (5, v18), (6, .bool s14.2.2)] ∧ gs = [g16] ∧ Ow (kI .u8) 5 τ14 v15 s14.1 g16 ∧ Sl (kI .u8) τ14 v18 s14.2.1) ⟨Sto.Le.refl _, _, _, _, rfl, rfl, Ow.nil, hs2⟩ ?_
    rintro s14 o14 h he14 ρ14 τ14 gs14 ⟨hl14, v15, g16, v18, rfl, rfl, ho17, hs19⟩ hn14
    refine st_block ?_
    refine st_seq ?_
    refine st_region ?_
    refine o_move rfl rfl rfl rfl ?_
    obtain ⟨q20, hf21, h⟩ := h
    refine o_index rfl rfl rfl z_slT67 rfl rfl hs19 rfl hf21 (fun b22 of23 vs hc24 hrep => ?_)
    obtain rfl := hrep
    refine o_loadI (v := .int .u8 q20) rfl rfl rfl z_sc5 rfl (hc24 0 _ rfl) ?_
    refine o_conv rfl rfl rfl Tryd.underlying5 Tryd.underlying3 rfl ?_
    refine o_ibin (v := .int .i64 (IntKind.i64.wrap ((IntKind.i64.wrap q20) - 1))) rfl rfl rfl rfl rfl rfl ?_
    refine o_assign rfl rfl rfl rfl ?_
    refine st_end ?_
    refine st_seq ?_
    refine st_seq ?_
    refine st_cut (fun ρ τ25 gs => ∃ (s25 : Bool), cobs_Decode_j4 s14 q20 s25 o14 ∧ τ14.Le τ25 ∧ ρ = [(2, .slice none 0 0), (3, .int .i64 0), (4, v15), (5, v18), (6, .bool s14.2.2), (7, .int .i64 (IntKind.i64.wrap ((IntKind.i64.wrap q20) - 1))), (27, .bool s25)] ∧ gs = [g16]) ?_ (fun hk25 => ?_)
    · rintro ρ25 τ25 gs25 ⟨s25, h, hl25, rfl, rfl⟩
      refine st_cond rfl (fun hc => ?_) (fun hc => ?_)
      · replace h := (if_pos hc).mp h
        refine st_goto rfl ?_
        obtain rfl := he14 _ h
        replace h := hA14
        refine st_env (ρ' := [(2, .slice none 0 0), (3, .int .i64 0)]) ⟨rfl, rfl, trivial⟩ ?_
        refine st_ord [] [] rfl ?_
        exact hk3 _ _ _ ⟨(), h, (hl14.trans hl25), rfl, rfl⟩
      · replace h := (if_neg (ne_t hc)).mp h
        refine st_skip ?_
        refine st_seq ?_
        refine st_cut (fun ρ τ26 gs => ∃ (s26 : Unit), cobs_Decode_j5 s14 q20 s26 o14 ∧ τ25.Le τ26 ∧ ρ = [(2, .slice none 0 0), (3, .int .i64 0), (4, v15), (5, v18), (6, .bool s14.2.2), (7, .int .i64 (IntKind.i64.wrap ((IntKind.i64.wrap q20) - 1)))] ∧ gs = [g16]) ?_ (fun hk26 => ?_)
        · rintro ρ26 τ26 gs26 ⟨s26, h, hl26, rfl, rfl⟩
          refine st_seq ?_
          refine st_region ?_
          refine o_move rfl rfl rfl rfl ?_
          refine o_move rfl rfl rfl rfl ?_
          refine o_move rfl rfl rfl rfl ?_
          refine o_ibin (v := .int .i64 (IntKind.i64.wrap ((IntKind.i64.wrap ((IntKind.i64.wrap q20) - 1)) + 1))) rfl rfl rfl rfl rfl rfl ?_
          obtain ⟨hf27, h⟩ := h
          obtain ⟨hf28, h⟩ := h
          refine o_slice (L := 1) (H := (IntKind.i64.wrap ((IntKind.i64.wrap ((IntKind.i64.wrap q20) - 1)) + 1))) rfl rfl rfl z_slT67 rfl rfl (hs19.up (hl25.trans hl26)) ⟨_, rfl⟩ ⟨_, rfl⟩ (by decide) hf27 hf28 trivial (by simp) (fun v29 hs30 => ?_)
          obtain ⟨hf34, h⟩ := h
          obtain ⟨hf35, h⟩ := h
          refine o_append (dk := (kI .u8)) (xs := s14.1) (ys := ((s14.2.1.drop (1 : Int).toNat).take (((IntKind.i64.wrap ((IntKind.i64.wrap ((IntKind.i64.wrap q20) - 1)) + 1)) : Int) - 1).toNat)) rfl rfl rfl rfl z_slT67 rfl (ho17.up (hl25.trans hl26)) rfl (Sl.src hs30) hf34 hf35 (fun v31 g32 ho33 => ?_)
          refine o_assign rfl rfl rfl rfl ?_
          refine st_end ?_
          refine st_seq ?_
          refine st_region ?_
          refine o_move rfl rfl rfl rfl ?_
          refine o_move rfl rfl rfl rfl ?_
          refine o_ibin (v := .int .i64 (IntKind.i64.wrap ((IntKind.i64.wrap ((IntKind.i64.wrap q20) - 1)) + 1))) rfl rfl rfl rfl rfl rfl ?_
          obtain ⟨hf36, h⟩ := h
          obtain ⟨hf37, h⟩ := h
          obtain ⟨hf38, h⟩ := h
          refine o_slice (L := (IntKind.i64.wrap ((IntKind.i64.wrap ((IntKind.i64.wrap q20) - 1)) + 1))) (H := (s14.2.1.length : Int)) rfl rfl rfl z_slT67 rfl rfl (hs19.up (hl25.trans hl26)) ⟨_, rfl⟩ rfl hf36 hf37 hf38 trivial (by simp) (fun v39 hs40 => ?_)
          refine o_assign rfl rfl rfl rfl ?_
          refine st_end ?_
          refine st_seq ?_
          refine st_region ?_
          refine o_move rfl rfl rfl rfl ?_
          refine o_assign rfl rfl rfl rfl ?_
          refine st_end ?_
          refine st_seq ?_
          refine st_region ?_
          refine o_move rfl rfl rfl rfl ?_
          refine o_ibin (v := .bool (decide ((IntKind.i64.wrap ((IntKind.i64.wrap q20) - 1)) = 254))) rfl rfl rfl rfl rfl rfl ?_
          refine o_assign rfl rfl rfl rfl ?_
          refine st_end ?_
          refine st_block ?_
          refine st_seq ?_
          refine st_cut (fun ρ τ41 gs => ∃ (s41 : Bool), cobs_Decode_j6 s14 q20 s41 o14 ∧ τ26.Le τ41 ∧ ρ = [(2, .slice none 0 0), (3, .int .i64 0), (4, v31), (5, v39), (6, .bool (decide ((IntKind.i64.wrap ((IntKind.i64.wrap q20) - 1)) = 254))), (53, .bool s41)] ∧ gs = [g32]) ?_ (fun hk41 => ?_)
          · rintro ρ41 τ41 gs41 ⟨s41, h, hl41, rfl, rfl⟩
            refine st_cond rfl (fun hc => ?_) (fun hc => ?_)
            · replace h := (if_pos hc).mp h
              refine st_goto rfl ?_
              obtain rfl := he14 _ h
              replace h := hA14
              refine st_env (ρ' := [(2, .slice none 0 0), (3, .int .i64 0)]) ⟨rfl, rfl, trivial⟩ ?_
              refine st_ord [] [] rfl ?_
              exact hk3 _ _ _ ⟨(), h, (((hl14.trans hl25).trans hl26).trans hl41), rfl, rfl⟩
            · replace h := (if_neg (ne_t hc)).mp h
              refine st_seq ?_
              refine st_region ?_
              refine o_move rfl rfl rfl rfl ?_
              refine o_lenI rfl rfl rfl z_slT67 rfl (hs40.up hl41) ?_
              refine o_ibin (v := .bool (decide ((((s14.2.1.drop (IntKind.i64.wrap ((IntKind.i64.wrap ((IntKind.i64.wrap q20) - 1)) + 1)).toNat).take (((s14.2.1.length : Int) : Int) - (IntKind.i64.wrap ((IntKind.i64.wrap ((IntKind.i64.wrap q20) - 1)) + 1))).toNat).length : Int) = 0))) rfl rfl rfl rfl rfl rfl ?_
              refine o_assign rfl rfl rfl rfl ?_
              refine st_end ?_
              refine st_cond rfl (fun hc => ?_) (fun hc => ?_)
              · replace h := (if_pos hc).mp h
                refine st_exit rfl ?_
                obtain rfl := he14 _ h
                replace h := hA14
                refine st_env (ρ' := [(2, .slice none 0 0), (3, .int .i64 0), (4, v31)]) ⟨rfl, rfl, rfl, trivial⟩ ?_
                exact hk4 _ _ _ ⟨(s14.1 ++ ((s14.2.1.drop (1 : Int).toNat).take (((IntKind.i64.wrap ((IntKind.i64.wrap ((IntKind.i64.wrap q20) - 1)) + 1)) : Int) - 1).toNat)), _, _, h, (((hl14.trans hl25).trans hl26).trans hl41), rfl, rfl, (ho33.up hl41)⟩
              · replace h := (if_neg (ne_t hc)).mp h
                refine st_seq ?_
                refine st_region ?_
                refine o_move rfl rfl rfl rfl ?_
                refine o_not rfl rfl rfl rfl ?_
                refine o_assign rfl rfl rfl rfl ?_
                refine st_end ?_
                refine st_cond rfl (fun hc => ?_) (fun hc => ?_)
                · replace h := (if_pos hc).mp h
                  refine st_region ?_
                  refine o_move rfl rfl rfl rfl ?_
                  refine o_lit (dk := (kI .u8)) (xs := [0]) (ps := [(0, [.int .u8 0])]) (cs := [.int .u8 0]) rfl rfl rfl z_slT67 z_zero5 ⟨rfl, ⟨_, rfl, rfl⟩, trivial⟩ rfl rfl rfl rfl (Kd.Many.cons (d := (kI .u8)) (x := 0) (a := [.int .u8 0]) rfl Kd.Many.nil) (fun v42 g43 ho44 => ?_)
                  obtain ⟨hf48, h⟩ := h
                  obtain ⟨hf49, h⟩ := h
                  refine st_ord [1, 0] [g32, g43] rfl ?_
                  refine o_append (dk := (kI .u8)) (xs := (s14.1 ++ ((s14.2.1.drop (1 : Int).toNat).take (((IntKind.i64.wrap ((IntKind.i64.wrap ((IntKind.i64.wrap q20) - 1)) + 1)) : Int) - 1).toNat))) (ys := [0]) rfl rfl rfl rfl z_slT67 rfl (ho33.up hl41) rfl (Ow.src (j := 1) ho44 rfl) hf48 hf49 (fun v45 g46 ho47 => ?_)
                  refine o_assign rfl rfl rfl rfl ?_
                  refine st_end ?_
                  refine st_inBlock ?_
                  refine st_inBlock ?_
                  refine st_env (ρ' := [(2, .slice none 0 0), (3, .int .i64 0), (4, v45), (5, v39), (6, .bool (decide ((IntKind.i64.wrap ((IntKind.i64.wrap q20) - 1)) = 254)))]) ⟨rfl, rfl, rfl, rfl, rfl, trivial⟩ ?_
                  refine st_ord [0] [g46] rfl ?_
                  exact hn14 _ _ _ _ h ⟨(((hl14.trans hl25).trans hl26).trans hl41), _, _, _, rfl, rfl, ho47, (hs40.up hl41)⟩
                · replace h := (if_neg (ne_t hc)).mp h
                  refine st_skip ?_
                  refine st_inBlock ?_
                  refine st_inBlock ?_
                  refine st_env (ρ' := [(2, .slice none 0 0), (3, .int .i64 0), (4, v31), (5, v39), (6, .bool (decide ((IntKind.i64.wrap ((IntKind.i64.wrap q20) - 1)) = 254)))]) ⟨rfl, rfl, rfl, rfl, rfl, trivial⟩ ?_
                  exact hn14 _ _ _ _ h ⟨(((hl14.trans hl25).trans hl26).trans hl41), _, _, _, rfl, rfl, (ho33.up hl41), (hs40.up hl41)⟩
          refine st_region ?_
          refine o_move rfl rfl rfl rfl ?_
          refine o_lenI rfl rfl rfl z_slT67 rfl hs40 ?_
          refine o_ibin (v := .bool (decide ((((s14.2.1.drop (IntKind.i64.wrap ((IntKind.i64.wrap ((IntKind.i64.wrap q20) - 1)) + 1)).toNat).take (((s14.2.1.length : Int) : Int) - (IntKind.i64.wrap ((IntKind.i64.wrap ((IntKind.i64.wrap q20) - 1)) + 1))).toNat).length : Int) = 0))) rfl rfl rfl rfl rfl rfl ?_
          refine o_moveB rfl rfl rfl rfl (fun hc => ?_) (fun hc => ?_)
          · replace h := (if_pos hc).mp h
            refine o_move rfl rfl rfl rfl ?_
            refine o_pick rfl rfl rfl rfl rfl ?_
            refine o_moveB rfl rfl rfl rfl (fun hc => ?_) (fun hc => ?_)
            · replace h := (if_pos hc).mp h
              refine o_move rfl rfl rfl rfl ?_
              refine o_ibin (v := .bool (decide ((IntKind.i64.wrap ((IntKind.i64.wrap q20) - 1)) = 0))) rfl rfl rfl rfl rfl rfl ?_
              refine o_pick rfl rfl rfl rfl rfl ?_
              refine o_assign rfl rfl rfl rfl ?_
              refine st_end ?_
              refine st_env (ρ' := [(2, .slice none 0 0), (3, .int .i64 0), (4, v31), (5, v39), (6, .bool (decide ((IntKind.i64.wrap ((IntKind.i64.wrap q20) - 1)) = 254))), (53, .bool (decide ((IntKind.i64.wrap ((IntKind.i64.wrap q20) - 1)) = 0)))]) ⟨rfl, rfl, rfl, rfl, rfl, rfl, trivial⟩ ?_
              exact hk41 _ _ _ ⟨(decide ((IntKind.i64.wrap ((IntKind.i64.wrap q20) - 1)) = 0)), h, (Sto.Le.refl _), rfl, rfl⟩
            · replace h := (if_neg (ne_t hc)).mp h
              refine st_pass rfl rfl rfl rfl rfl rfl ?_
              refine st_pass rfl rfl rfl rfl rfl rfl ?_
              refine o_pick rfl rfl rfl rfl rfl ?_
              refine o_assign rfl rfl rfl rfl ?_
              refine st_end ?_
              refine st_env (ρ' := [(2, .slice none 0 0), (3, .int .i64 0), (4, v31), (5, v39), (6, .bool (decide ((IntKind.i64.wrap ((IntKind.i64.wrap q20) - 1)) = 254))), (53, .bool false)]) ⟨rfl, rfl, rfl, rfl, rfl, rfl, trivial⟩ ?_
              exact hk41 _ _ _ ⟨false, h, (Sto.Le.refl _), rfl, rfl⟩
          · replace h := (if_neg (ne_t hc)).mp h
            refine st_pass rfl rfl rfl rfl rfl rfl ?_
            refine o_pick rfl rfl rfl rfl rfl ?_
            refine o_move rfl rfl rfl rfl ?_
            refine st_pass rfl rfl rfl rfl rfl rfl ?_
            refine st_pass rfl rfl rfl rfl rfl rfl ?_
            refine o_pick rfl rfl rfl rfl rfl ?_
            refine o_assign rfl rfl rfl rfl ?_
            refine st_end ?_
            refine st_env (ρ' := [(2, .slice none 0 0), (3, .int .i64 0), (4, v31), (5, v39), (6, .bool (decide ((IntKind.i64.wrap ((IntKind.i64.wrap q20) - 1)) = 254))), (53, .bool false)]) ⟨rfl, rfl, rfl, rfl, rfl, rfl, trivial⟩ ?_
            exact hk41 _ _ _ ⟨false, h, (Sto.Le.refl _), rfl, rfl⟩
        refine st_seq ?_
        refine st_region ?_
        refine o_move rfl rfl rfl rfl ?_
        refine o_move rfl rfl rfl rfl ?_
        refine o_ibin (v := .int .i64 (IntKind.i64.wrap ((IntKind.i64.wrap ((IntKind.i64.wrap q20) - 1)) + 1))) rfl rfl rfl rfl rfl rfl ?_
        obtain ⟨hf50, h⟩ := h
        obtain ⟨hf51, h⟩ := h
        refine o_slice (L := 1) (H := (IntKind.i64.wrap ((IntKind.i64.wrap ((IntKind.i64.wrap q20) - 1)) + 1))) rfl rfl rfl z_slT67 rfl rfl (hs19.up hl25) ⟨_, rfl⟩ ⟨_, rfl⟩ (by decide) hf50 hf51 trivial (by simp) (fun v52 hs53 => ?_)
        refine o_lenI rfl rfl rfl z_slT67 rfl hs53 ?_
        refine o_move rfl rfl rfl rfl ?_
        refine st_end ?_
        obtain ⟨e54, hL54, hA54⟩ := h
        refine st_env (ρ' := [(2, .slice none 0 0), (3, .int .i64 0), (4, v15), (5, v18), (6, .bool s14.2.2), (7, .int .i64 (IntKind.i64.wrap ((IntKind.i64.wrap q20) - 1))), (31, v52), (32, .int .i64 (((s14.2.1.drop (1 : Int).toNat).take (((IntKind.i64.wrap ((IntKind.i64.wrap ((IntKind.i64.wrap q20) - 1)) + 1)) : Int) - 1).toNat).length : Int)), (33, .int .i64 0)]) ⟨rfl, rfl, rfl, rfl, rfl, rfl, rfl, rfl, rfl, trivial⟩ ?_
        refine st_loop hL54 (fun (s54 : Int) ρ τ54 gs => τ25.Le τ54 ∧ ρ = [(2, .slice none 0 0), (3, .int .i64 0), (4, v15), (5, v18), (6, .bool s14.2.2), (7, .int .i64 (IntKind.i64.wrap ((IntKind.i64.wrap q20) - 1))), (31, v52), (32, .int .i64 (((s14.2.1.drop (1 : Int).toNat).take (((IntKind.i64.wrap ((IntKind.i64.wrap ((IntKind.i64.wrap q20) - 1)) + 1)) : Int) - 1).toNat).length : Int)), (33, .int .i64 s54)] ∧ gs = [g16]) ⟨Sto.Le.refl _, rfl, rfl⟩ ?_
        rintro s54 o54 h he54 ρ54 τ54 gs54 ⟨hl54, rfl, rfl⟩ hn54
        refine st_seq ?_
        refine st_region ?_
        refine o_ibin (v := .bool (decide (s54 < (((s14.2.1.drop (1 : Int).toNat).take (((IntKind.i64.wrap ((IntKind.i64.wrap ((IntKind.i64.wrap q20) - 1)) + 1)) : Int) - 1).toNat).length : Int)))) rfl rfl rfl rfl rfl rfl ?_
        refine st_end ?_
        refine st_seq ?_
        refine st_cond rfl (fun hc => ?_) (fun hc => ?_)
        · replace h := (if_pos hc).mp h
          refine st_skip ?_
          refine st_seq ?_
          refine st_block ?_
          refine st_seq ?_
          refine st_region ?_
          obtain ⟨q55, hf56, h⟩ := h
          refine o_index rfl rfl rfl z_slT67 rfl rfl (hs53.up hl54) rfl hf56 (fun b57 of58 vs hc59 hrep => ?_)
          obtain rfl := hrep
          refine o_loadI (v := .int .u8 q55) rfl rfl rfl z_sc5 rfl (hc59 0 _ rfl) ?_
          refine o_assign rfl rfl rfl rfl ?_
          refine st_end ?_
          refine st_seq ?_
          refine st_region ?_
          refine o_move rfl rfl rfl rfl ?_
          refine o_ibin (v := .bool (decide (q55 = 0))) rfl rfl rfl rfl rfl rfl ?_
          refine st_end ?_
          refine st_cond rfl (fun hc => ?_) (fun hc => ?_)
          · replace h := (if_pos hc).mp h
            refine st_goto rfl ?_
            obtain rfl := he54 _ h
            replace h := hA54
            obtain rfl := he14 _ h
            replace h := hA14
            refine st_env (ρ' := [(2, .slice none 0 0), (3, .int .i64 0)]) ⟨rfl, rfl, trivial⟩ ?_
            refine st_ord [] [] rfl ?_
            exact hk3 _ _ _ ⟨(), h, ((hl14.trans hl25).trans hl54), rfl, rfl⟩
          · replace h := (if_neg (ne_t hc)).mp h
            refine st_skip ?_
            refine st_inBlock ?_
            refine st_region ?_
            refine o_ibin (v := .int .i64 (IntKind.i64.wrap (s54 + 1))) rfl rfl rfl rfl rfl rfl ?_
            refine o_move rfl rfl rfl rfl ?_
            refine st_end ?_
            refine st_env (ρ' := [(2, .slice none 0 0), (3, .int .i64 0), (4, v15), (5, v18), (6, .bool s14.2.2), (7, .int .i64 (IntKind.i64.wrap ((IntKind.i64.wrap q20) - 1))), (31, v52), (32, .int .i64 (((s14.2.1.drop (1 : Int).toNat).take (((IntKind.i64.wrap ((IntKind.i64.wrap ((IntKind.i64.wrap q20) - 1)) + 1)) : Int) - 1).toNat).length : Int)), (33, .int .i64 (IntKind.i64.wrap (s54 + 1)))]) ⟨rfl, rfl, rfl, rfl, rfl, rfl, rfl, rfl, rfl, trivial⟩ ?_
            exact hn54 _ _ _ _ h ⟨hl54, rfl, rfl⟩
        · replace h := (if_neg (ne_t hc)).mp h
          refine st_exit rfl ?_
          obtain rfl := he54 _ h
          replace h := hA54
          refine st_env (ρ' := [(2, .slice none 0 0), (3, .int .i64 0), (4, v15), (5, v18), (6, .bool s14.2.2), (7, .int .i64 (IntKind.i64.wrap ((IntKind.i64.wrap q20) - 1)))]) ⟨rfl, rfl, rfl, rfl, rfl, rfl, trivial⟩ ?_
          exact hk26 _ _ _ ⟨(), h, hl54, rfl, rfl⟩
    refine st_region ?_
    refine o_move rfl rfl rfl rfl ?_
    refine o_ibin (v := .bool (decide ((IntKind.i64.wrap ((IntKind.i64.wrap q20) - 1)) < 0))) rfl rfl rfl rfl rfl rfl ?_
    refine o_moveB rfl rfl rfl rfl (fun hc => ?_) (fun hc => ?_)
    · replace h := (if_pos hc).mp h
      refine st_pass rfl rfl rfl rfl rfl rfl ?_
      refine st_pass rfl rfl rfl rfl rfl rfl ?_
      refine st_pass rfl rfl rfl rfl rfl rfl ?_
      refine st_pass rfl rfl rfl rfl rfl rfl ?_
      refine o_pick rfl rfl rfl rfl rfl ?_
      refine st_end ?_
      refine st_env (ρ' := [(2, .slice none 0 0), (3, .int .i64 0), (4, v15), (5, v18), (6, .bool s14.2.2), (7, .int .i64 (IntKind.i64.wrap ((IntKind.i64.wrap q20) - 1))), (27, .bool true)]) ⟨rfl, rfl, rfl, rfl, rfl, rfl, rfl, trivial⟩ ?_
      exact hk25 _ _ _ ⟨true, h, (Sto.Le.refl _), rfl, rfl⟩
    · replace h := (if_neg (ne_t hc)).mp h
      refine o_move rfl rfl rfl rfl ?_
      refine o_move rfl rfl rfl rfl ?_
      refine o_lenI rfl rfl rfl z_slT67 rfl hs19 ?_
      refine o_ibin (v := .bool (decide ((s14.2.1.length : Int) ≤ (IntKind.i64.wrap ((IntKind.i64.wrap q20) - 1))))) rfl rfl rfl rfl rfl rfl ?_
      refine o_pick rfl rfl rfl rfl rfl ?_
      refine st_end ?_
      refine st_env (ρ' := [(2, .slice none 0 0), (3, .int .i64 0), (4, v15), (5, v18), (6, .bool s14.2.2), (7, .int .i64 (IntKind.i64.wrap ((IntKind.i64.wrap q20) - 1))), (27, .bool (decide ((s14.2.1.length : Int) ≤ (IntKind.i64.wrap ((IntKind.i64.wrap q20) - 1)))))]) ⟨rfl, rfl, rfl, rfl, rfl, rfl, rfl, trivial⟩ ?_
      exact hk25 _ _ _ ⟨(decide ((s14.2.1.length : Int) ≤ (IntKind.i64.wrap ((IntKind.i64.wrap q20) - 1)))), h, (Sto.Le.refl _), rfl, rfl⟩
theorem crc_Table_Begin_ok {a0 : List Int} {bi1 : Nat} {r : Int} (h : crc_Table_Begin a0 r) (σ : Sto) (hc2 : CelN σ ⟨bi1, 0, none⟩ (cellsN (Value.int .u32) 0 1024 a0)) :
    Does Tryd.prog 175 [.pointer (some ⟨bi1, 0, none⟩)] σ [] (fun v τ gs => gs = [] ∧ .int .u32 r = v) := by
  refine call_of Tryd.func175 Tryd.ntmps175 rfl rfl (fun cs fs => ?_)
  refine st_seq ?_
  refine st_region ?_
  refine o_assign rfl rfl rfl rfl ?_
  refine st_end ?_
  refine st_seq ?_
  refine st_seq ?_
  refine st_region ?_
  refine o_move rfl rfl rfl rfl ?_
  refine o_ptrNil (b := false) rfl rfl rfl Tryd.underlying149 rfl rfl rfl ?_
  refine st_end ?_
  refine st_condF rfl ?_
  refine st_skip ?_
  refine st_seq ?_
  refine st_region ?_
  refine o_assign rfl rfl rfl rfl ?_
  refine st_end ?_
  obtain rfl := Eq.symm h
  exact st_ret (gs' := []) Tryd.func175 rfl (List.Sublist.refl _) (Sto.Le.refl _) ⟨rfl, rfl⟩
theorem crc_Table_Add_ok {a0 : List Int} {a1 : Int} {a2 : List Int} {bi1 : Nat} {v3 : Value} {r : Int} (h : crc_Table_Add a0 a1 a2 r) (σ : Sto) (hc2 : CelN σ ⟨bi1, 0, none⟩ (cellsN (Value.int .u32) 0 1024 a0)) (hs4 : Sl (kI .u8) σ v3 a2) :
    Does Tryd.prog 176 [.pointer (some ⟨bi1, 0, none⟩), .int .u32 a1, v3] σ [] (fun v τ gs => gs = [] ∧ .int .u32 r = v) := by
  refine call_of Tryd.func176 Tryd.ntmps176 rfl rfl (fun cs fs => ?_)
  refine st_seq ?_
  refine st_region ?_
  refine o_assign rfl rfl rfl rfl ?_
  refine st_end ?_
  refine st_scope ?_
  refine st_seq ?_
  refine st_seq ?_
  refine st_region ?_
  refine o_move rfl rfl rfl rfl ?_
  refine o_ptrNil (b := false) rfl rfl rfl Tryd.underlying149 rfl rfl rfl ?_
  refine st_end ?_
  refine st_condF rfl ?_
  refine st_skip ?_
  refine st_seq ?_
  refine st_label ?_
  refine st_seq ?_
  refine st_cut (fun ρ τ5 gs => ∃ (s5 : Int × List Int) (v6 : Value), crc_Table_Add_j1 a0 s5 r ∧ σ.Le τ5 ∧ ρ = [(0, .pointer (some ⟨bi1, 0, none⟩)), (1, .int .u32 s5.1), (2, v6), (6, .int .u32 0)] ∧ gs = [] ∧ Sl (kI .u8) τ5 v6 s5.2) ?_ (fun hk5 => ?_)
  · rintro ρ5 τ5 gs5 ⟨s5, v6, h, hl5, rfl, rfl, hs7⟩
    refine st_seq ?_
    refine st_cut (fun ρ τ8 gs => ∃ (s8 : Int), crc_Table_Add_j2 s8 r ∧ τ5.Le τ8 ∧ ρ = [(1, .int .u32 s8), (6, .int .u32 0)] ∧ gs = []) ?_ (fun hk8 => ?_)
    · rintro ρ8 τ8 gs8 ⟨s8, h, hl8, rfl, rfl⟩
      refine st_seq ?_
      refine st_region ?_
      refine o_move rfl rfl rfl rfl ?_
      refine o_assign rfl rfl rfl rfl ?_
      refine st_end ?_
      obtain rfl := Eq.symm h
      exact st_ret (gs' := []) Tryd.func176 rfl (List.Sublist.refl _) (hl5.trans hl8) ⟨rfl, rfl⟩
    refine st_seq ?_
    refine st_region ?_
    refine o_move rfl rfl rfl rfl ?_
    refine o_lenI rfl rfl rfl z_slT67 rfl hs7 ?_
    refine o_move rfl rfl rfl rfl ?_
    refine st_end ?_
    obtain ⟨e9, hL9, hA9⟩ := h
    refine st_env (ρ' := [(0, .pointer (some ⟨bi1, 0, none⟩)), (1, .int .u32 s5.1), (6, .int .u32 0), (77, v6), (78, .int .i64 (s5.2.length : Int)), (79, .int .i64 0)]) ⟨rfl, rfl, rfl, rfl, rfl, rfl, trivial⟩ ?_
    refine st_loop hL9 (fun (s9 : Int × Int) ρ τ9 gs => τ5.Le τ9 ∧ ρ = [(0, .pointer (some ⟨bi1, 0, none⟩)), (1, .int .u32 s9.1), (6, .int .u32 0), (77, v6), (78, .int .i64 (s5.2.length : Int)), (79, .int .i64 s9.2)] ∧ gs = []) ⟨Sto.Le.refl _, rfl, rfl⟩ ?_
    rintro s9 o9 h he9 ρ9 τ9 gs9 ⟨hl9, rfl, rfl⟩ hn9
    refine st_seq ?_
    refine st_region ?_
    refine o_ibin (v := .bool (decide (s9.2 < (s5.2.length : Int)))) rfl rfl rfl rfl rfl rfl ?_
    refine st_end ?_
    refine st_seq ?_
    refine st_cond rfl (fun hc => ?_) (fun hc => ?_)
    · replace h := (if_pos hc).mp h
      refine st_skip ?_
      refine st_seq ?_
      refine st_block ?_
      refine st_seq ?_
      refine st_region ?_
      obtain ⟨q10, hf11, h⟩ := h
      refine o_index rfl rfl rfl z_slT67 rfl rfl (hs7.up hl9) rfl hf11 (fun b12 of13 vs hc14 hrep => ?_)
      obtain rfl := hrep
      refine o_loadI (v := .int .u8 q10) rfl rfl rfl z_sc5 rfl (hc14 0 _ rfl) ?_
      refine o_assign rfl rfl rfl rfl ?_
      refine st_end ?_
      refine st_region ?_
      refine o_move rfl rfl rfl rfl ?_
      refine o_shr rfl rfl rfl rfl rfl (by decide) ?_
      refine o_move rfl rfl rfl rfl ?_
      refine o_move rfl rfl rfl rfl ?_
      refine o_conv rfl rfl rfl Tryd.underlying33 Tryd.underlying5 rfl ?_
      refine o_move rfl rfl rfl rfl ?_
      refine o_ibin (v := .int .u8 (ixor .u8 (IntKind.u8.wrap s9.1) q10)) rfl rfl rfl rfl rfl rfl ?_
      refine o_nilCheck rfl rfl rfl rfl ?_
      refine o_fieldAddr rfl rfl rfl z_field203_0 rfl ?_
      refine o_indexA rfl rfl rfl z_arr201 rfl rfl (by decide) (by decide) ?_
      obtain ⟨hf15, h⟩ := h
      obtain ⟨hf16, h⟩ := h
      refine o_indexA rfl rfl rfl z_arr200 rfl rfl hf15 hf16 ?_
      refine o_loadI (v := .int .u32 (a0.getD ((ixor .u8 (IntKind.u8.wrap s9.1) q10).toNat) 0)) rfl rfl rfl z_sc33 rfl (cel_big (q := (ixor .u8 (IntKind.u8.wrap s9.1) q10).toNat) (hc2.up (hl5.trans hl9)) (by omega) (by omega)) ?_
      refine o_ibin (v := .int .u32 (ixor .u32 (ishr .u32 s9.1 8) (a0.getD ((ixor .u8 (IntKind.u8.wrap s9.1) q10).toNat) 0))) rfl rfl rfl rfl rfl rfl ?_
      refine o_assign rfl rfl rfl rfl ?_
      refine st_end ?_
      refine st_inBlock ?_
      refine st_region ?_
      refine o_ibin (v := .int .i64 (IntKind.i64.wrap (s9.2 + 1))) rfl rfl rfl rfl rfl rfl ?_
      refine o_move rfl rfl rfl rfl ?_
      refine st_end ?_
      refine st_env (ρ' := [(0, .pointer (some ⟨bi1, 0, none⟩)), (1, .int .u32 (ixor .u32 (ishr .u32 s9.1 8) (a0.getD ((ixor .u8 (IntKind.u8.wrap s9.1) q10).toNat) 0))), (6, .int .u32 0), (77, v6), (78, .int .i64 (s5.2.length : Int)), (79, .int .i64 (IntKind.i64.wrap (s9.2 + 1)))]) ⟨rfl, rfl, rfl, rfl, rfl, rfl, trivial⟩ ?_
      exact hn9 _ _ _ _ h ⟨hl9, rfl, rfl⟩
    · replace h := (if_neg (ne_t hc)).mp h
      refine st_exit rfl ?_
      obtain rfl := he9 _ h
      replace h := hA9
      refine st_env (ρ' := [(1, .int .u32 s9.1), (6, .int .u32 0)]) ⟨rfl, rfl, trivial⟩ ?_
      exact hk8 _ _ _ ⟨s9.1, h, hl9, rfl, rfl⟩
  obtain ⟨e18, hL18, hA18⟩ := h
  refine st_env (ρ' := [(0, .pointer (some ⟨bi1, 0, none⟩)), (1, .int .u32 a1), (2, v3), (6, .int .u32 0)]) ⟨rfl, rfl, rfl, rfl, trivial⟩ ?_
  refine st_loop hL18 (fun (s18 : Int × List Int) ρ τ18 gs => σ.Le τ18 ∧ ∃ (v19 : Value), ρ = [(0, .pointer (some ⟨bi1, 0, none⟩)), (1, .int .u32 s18.1), (2, v19), (6, .int .u32 0)] ∧ gs = [] ∧ Sl (kI .u8) τ18 v19 s18.2) ⟨Sto.Le.refl _, _, rfl, rfl, hs4⟩ ?_
  rintro s18 o18 h he18 ρ18 τ18 gs18 ⟨hl18, v19, rfl, rfl, hs20⟩ hn18
  refine st_block ?_
  refine st_seq ?_
  refine st_seq ?_
  refine st_region ?_
  refine o_move rfl rfl rfl rfl ?_
  refine o_lenI rfl rfl rfl z_slT67 rfl hs20 ?_
  refine o_ibin (v := .bool (decide ((s18.2.length : Int) < 4))) rfl rfl rfl rfl rfl rfl ?_
  refine st_end ?_
  refine st_cond rfl (fun hc => ?_) (fun hc => ?_)
  · replace h := (if_pos hc).mp h
    refine st_exit rfl ?_
    obtain rfl := he18 _ h
    replace h := hA18
    refine st_env (ρ' := [(0, .pointer (some ⟨bi1, 0, none⟩)), (1, .int .u32 s18.1), (2, v19), (6, .int .u32 0)]) ⟨rfl, rfl, rfl, rfl, trivial⟩ ?_
    exact hk5 _ _ _ ⟨(s18.1, s18.2), _, h, hl18, rfl, rfl, hs20⟩
  · replace h := (if_neg (ne_t hc)).mp h
    refine st_skip ?_
    refine st_seq ?_
    obtain ⟨q21, hf22, h⟩ := h
    obtain ⟨q26, hf27, h⟩ := h
    obtain ⟨q31, hf32, h⟩ := h
    obtain ⟨q36, hf37, h⟩ := h
    refine st_draw 24 (tl [fun τ v => (.int .u32 s18.1 : Value) = v,
    fun τ v => (v19 : Value) = v,
    fun τ v => ∃ (b23 : Nat) (of24 : Nat) (vsb23 : List Value), (.pointer (some ⟨b23, of24, none⟩) : Value) = v ∧ CelN τ ⟨b23, of24, none⟩ vsb23 ∧ (kI .u8).rep τ vsb23 q21,
    fun τ v => (.int .u8 q21 : Value) = v,
    fun τ v => (.int .u32 (IntKind.u32.wrap q21) : Value) = v,
    fun τ v => (v19 : Value) = v,
    fun τ v => ∃ (b28 : Nat) (of29 : Nat) (vsb28 : List Value), (.pointer (some ⟨b28, of29, none⟩) : Value) = v ∧ CelN τ ⟨b28, of29, none⟩ vsb28 ∧ (kI .u8).rep τ vsb28 q26,
    fun τ v => (.int .u8 q26 : Value) = v,
    fun τ v => (.int .u32 (IntKind.u32.wrap q26) : Value) = v,
    fun τ v => (.int .u32 (ishl .u32 (IntKind.u32.wrap q26) 8) : Value) = v,
    fun τ v => (.int .u32 (ior .u32 (IntKind.u32.wrap q21) (ishl .u32 (IntKind.u32.wrap q26) 8)) : Value) = v,
    fun τ v => (v19 : Value) = v,
    fun τ v => ∃ (b33 : Nat) (of34 : Nat) (vsb33 : List Value), (.pointer (some ⟨b33, of34, none⟩) : Value) = v ∧ CelN τ ⟨b33, of34, none⟩ vsb33 ∧ (kI .u8).rep τ vsb33 q31,
    fun τ v => (.int .u8 q31 : Value) = v,
    fun τ v => (.int .u32 (IntKind.u32.wrap q31) : Value) = v,
    fun τ v => (.int .u32 (ishl .u32 (IntKind.u32.wrap q31) 16) : Value) = v,
    fun τ v => (.int .u32 (ior .u32 (ior .u32 (IntKind.u32.wrap q21) (ishl .u32 (IntKind.u32.wrap q26) 8)) (ishl .u32 (IntKind.u32.wrap q31) 16)) : Value) = v,
    fun τ v => (v19 : Value) = v,
    fun τ v => ∃ (b38 : Nat) (of39 : Nat) (vsb38 : List Value), (.pointer (some ⟨b38, of39, none⟩) : Value) = v ∧ CelN τ ⟨b38, of39, none⟩ vsb38 ∧ (kI .u8).rep τ vsb38 q36,
    fun τ v => (.int .u8 q36 : Value) = v,
    fun τ v => (.int .u32 (IntKind.u32.wrap q36) : Value) = v,
    fun τ v => (.int .u32 (ishl .u32 (IntKind.u32.wrap q36) 24) : Value) = v,
    fun τ v => (.int .u32 (ior .u32 (ior .u32 (ior .u32 (IntKind.u32.wrap q21) (ishl .u32 (IntKind.u32.wrap q26) 8)) (ishl .u32 (IntKind.u32.wrap q31) 16)) (ishl .u32 (IntKind.u32.wrap q36) 24)) : Value) = v,
    fun τ v => (.int .u32 (ixor .u32 s18.1 (ior .u32 (ior .u32 (ior .u32 (IntKind.u32.wrap q21) (ishl .u32 (IntKind.u32.wrap q26) 8)) (ishl .u32 (IntKind.u32.wrap q31) 16)) (ishl .u32 (IntKind.u32.wrap q36) 24))) : Value) = v]) (fun _ _ => []) z_mix rfl (tl_mono ⟨fun _ _ _ _ h => h, ⟨fun _ _ _ _ h => h, ⟨fun _ _ _ hl ⟨b23, of24, vsb23, hv, hc25, hrepb23⟩ => ⟨b23, of24, vsb23, hv, hc25.up hl, Kd.mono _ hl hrepb23⟩, ⟨fun _ _ _ _ h => h, ⟨fun _ _ _ _ h => h, ⟨fun _ _ _ _ h => h, ⟨fun _ _ _ hl ⟨b28, of29, vsb28, hv, hc30, hrepb28⟩ => ⟨b28, of29, vsb28, hv, hc30.up hl, Kd.mono _ hl hrepb28⟩, ⟨fun _ _ _ _ h => h, ⟨fun _ _ _ _ h => h, ⟨fun _ _ _ _ h => h, ⟨fun _ _ _ _ h => h, ⟨fun _ _ _ _ h => h, ⟨fun _ _ _ hl ⟨b33, of34, vsb33, hv, hc35, hrepb33⟩ => ⟨b33, of34, vsb33, hv, hc35.up hl, Kd.mono _ hl hrepb33⟩, ⟨fun _ _ _ _ h => h, ⟨fun _ _ _ _ h => h, ⟨fun _ _ _ _ h => h, ⟨fun _ _ _ _ h => h, ⟨fun _ _ _ _ h => h, ⟨fun _ _ _ hl ⟨b38, of39, vsb38, hv, hc40, hrepb38⟩ => ⟨b38, of39, vsb38, hv, hc40.up hl, Kd.mono _ hl hrepb38⟩, ⟨fun _ _ _ _ h => h, ⟨fun _ _ _ _ h => h, ⟨fun _ _ _ _ h => h, ⟨fun _ _ _ _ h => h, ⟨fun _ _ _ _ h => h, trivial⟩⟩⟩⟩⟩⟩⟩⟩⟩⟩⟩⟩⟩⟩⟩⟩⟩⟩⟩⟩⟩⟩⟩⟩) (allB_cons (allB_cons (allB_cons (allB_cons (allB_cons (allB_cons (allB_cons (allB_cons (allB_cons (allB_cons (allB_cons (allB_cons (allB_cons (allB_cons (allB_cons (allB_cons (allB_cons (allB_cons (allB_cons (allB_cons (allB_cons (allB_cons (allB_cons (allB_cons allB_nil ?_) ?_) ?_) ?_) ?_) ?_) ?_) ?_) ?_) ?_) ?_) ?_) ?_) ?_) ?_) ?_) ?_) ?_) ?_) ?_) ?_) ?_) ?_) ?_) ?_
    · intro ρ' τ pool rs hl hd hout hk
      refine o_move rfl rfl rfl ((hout 1 rfl).trans rfl) ?_
      exact st_addNil (hk _ _ (Sto.Le.refl _) rfl)
    · intro ρ' τ pool rs hl hd hout hk
      refine o_move rfl rfl rfl ((hout 2 rfl).trans rfl) ?_
      exact st_addNil (hk _ _ (Sto.Le.refl _) rfl)
    · intro ρ' τ pool rs hl hd hout hk
      obtain ⟨_, e1, rfl⟩ := hd 1 rfl
      refine o_index rfl rfl rfl z_slT67 rfl e1 (hs20.up hl) rfl hf22 (fun b23 of24 vsb23 hc25 hrepb23 => ?_)
      exact st_addNil (hk _ _ (Sto.Le.refl _) ⟨b23, of24, _, rfl, hc25, hrepb23⟩)
    · intro ρ' τ pool rs hl hd hout hk
      obtain ⟨_, e2, b23, of24, vsb23, rfl, hc25, hrepb23⟩ := hd 2 rfl
      have hrepb23 := hrepb23
      obtain rfl := hrepb23
      refine o_loadI (v := .int .u8 q21) rfl rfl rfl z_sc5 e2 (hc25 0 _ rfl) ?_
      exact st_addNil (hk _ _ (Sto.Le.refl _) rfl)
    · intro ρ' τ pool rs hl hd hout hk
      obtain ⟨_, e3, rfl⟩ := hd 3 rfl
      refine o_conv rfl rfl rfl Tryd.underlying5 Tryd.underlying33 e3 ?_
      exact st_addNil (hk _ _ (Sto.Le.refl _) rfl)
    · intro ρ' τ pool rs hl hd hout hk
      refine o_move rfl rfl rfl ((hout 2 rfl).trans rfl) ?_
      exact st_addNil (hk _ _ (Sto.Le.refl _) rfl)
    · intro ρ' τ pool rs hl hd hout hk
      obtain ⟨_, e5, rfl⟩ := hd 5 rfl
      refine o_index rfl rfl rfl z_slT67 rfl e5 (hs20.up hl) rfl hf27 (fun b28 of29 vsb28 hc30 hrepb28 => ?_)
      exact st_addNil (hk _ _ (Sto.Le.refl _) ⟨b28, of29, _, rfl, hc30, hrepb28⟩)
    · intro ρ' τ pool rs hl hd hout hk
      obtain ⟨_, e6, b28, of29, vsb28, rfl, hc30, hrepb28⟩ := hd 6 rfl
      have hrepb28 := hrepb28
      obtain rfl := hrepb28
      refine o_loadI (v := .int .u8 q26) rfl rfl rfl z_sc5 e6 (hc30 0 _ rfl) ?_
      exact st_addNil (hk _ _ (Sto.Le.refl _) rfl)
    · intro ρ' τ pool rs hl hd hout hk
      obtain ⟨_, e7, rfl⟩ := hd 7 rfl
      refine o_conv rfl rfl rfl Tryd.underlying5 Tryd.underlying33 e7 ?_
      exact st_addNil (hk _ _ (Sto.Le.refl _) rfl)
    · intro ρ' τ pool rs hl hd hout hk
      obtain ⟨_, e8, rfl⟩ := hd 8 rfl
      refine o_shl rfl rfl rfl e8 rfl (by decide) ?_
      exact st_addNil (hk _ _ (Sto.Le.refl _) rfl)
    · intro ρ' τ pool rs hl hd hout hk
      obtain ⟨_, e4, rfl⟩ := hd 4 rfl
      obtain ⟨_, e9, rfl⟩ := hd 9 rfl
      refine o_ibin (v := .int .u32 (ior .u32 (IntKind.u32.wrap q21) (ishl .u32 (IntKind.u32.wrap q26) 8))) rfl rfl rfl e4 e9 rfl ?_
      exact st_addNil (hk _ _ (Sto.Le.refl _) rfl)
    · intro ρ' τ pool rs hl hd hout hk
      refine o_move rfl rfl rfl ((hout 2 rfl).trans rfl) ?_
      exact st_addNil (hk _ _ (Sto.Le.refl _) rfl)
    · intro ρ' τ pool rs hl hd hout hk
      obtain ⟨_, e11, rfl⟩ := hd 11 rfl
      refine o_index rfl rfl rfl z_slT67 rfl e11 (hs20.up hl) rfl hf32 (fun b33 of34 vsb33 hc35 hrepb33 => ?_)
      exact st_addNil (hk _ _ (Sto.Le.refl _) ⟨b33, of34, _, rfl, hc35, hrepb33⟩)
    · intro ρ' τ pool rs hl hd hout hk
      obtain ⟨_, e12, b33, of34, vsb33, rfl, hc35, hrepb33⟩ := hd 12 rfl
      have hrepb33 := hrepb33
      obtain rfl := hrepb33
      refine o_loadI (v := .int .u8 q31) rfl rfl rfl z_sc5 e12 (hc35 0 _ rfl) ?_
      exact st_addNil (hk _ _ (Sto.Le.refl _) rfl)
    · intro ρ' τ pool rs hl hd hout hk
      obtain ⟨_, e13, rfl⟩ := hd 13 rfl
      refine o_conv rfl rfl rfl Tryd.underlying5 Tryd.underlying33 e13 ?_
      exact st_addNil (hk _ _ (Sto.Le.refl _) rfl)
    · intro ρ' τ pool rs hl hd hout hk
      obtain ⟨_, e14, rfl⟩ := hd 14 rfl
      refine o_shl rfl rfl rfl e14 rfl (by decide) ?_
      exact st_addNil (hk _ _ (Sto.Le.refl _) rfl)
    · intro ρ' τ pool rs hl hd hout hk
      obtain ⟨_, e10, rfl⟩ := hd 10 rfl
      obtain ⟨_, e15, rfl⟩ := hd 15 rfl
      refine o_ibin (v := .int .u32 (ior .u32 (ior .u32 (IntKind.u32.wrap q21) (ishl .u32 (IntKind.u32.wrap q26) 8)) (ishl .u32 (IntKind.u32.wrap q31) 16))) rfl rfl rfl e10 e15 rfl ?_
      exact st_addNil (hk _ _ (Sto.Le.refl _) rfl)
    · intro ρ' τ pool rs hl hd hout hk
      refine o_move rfl rfl rfl ((hout 2 rfl).trans rfl) ?_
      exact st_addNil (hk _ _ (Sto.Le.refl _) rfl)
    · intro ρ' τ pool rs hl hd hout hk
      obtain ⟨_, e17, rfl⟩ := hd 17 rfl
      refine o_index rfl rfl rfl z_slT67 rfl e17 (hs20.up hl) rfl hf37 (fun b38 of39 vsb38 hc40 hrepb38 => ?_)
      exact st_addNil (hk _ _ (Sto.Le.refl _) ⟨b38, of39, _, rfl, hc40, hrepb38⟩)
    · intro ρ' τ pool rs hl hd hout hk
      obtain ⟨_, e18, b38, of39, vsb38, rfl, hc40, hrepb38⟩ := hd 18 rfl
      have hrepb38 := hrepb38
      obtain rfl := hrepb38
      refine o_loadI (v := .int .u8 q36) rfl rfl rfl z_sc5 e18 (hc40 0 _ rfl) ?_
      exact st_addNil (hk _ _ (Sto.Le.refl _) rfl)
    · intro ρ' τ pool rs hl hd hout hk
      obtain ⟨_, e19, rfl⟩ := hd 19 rfl
      refine o_conv rfl rfl rfl Tryd.underlying5 Tryd.underlying33 e19 ?_
      exact st_addNil (hk _ _ (Sto.Le.refl _) rfl)
    · intro ρ' τ pool rs hl hd hout hk
      obtain ⟨_, e20, rfl⟩ := hd 20 rfl
      refine o_shl rfl rfl rfl e20 rfl (by decide) ?_
      exact st_addNil (hk _ _ (Sto.Le.refl _) rfl)
    · intro ρ' τ pool rs hl hd hout hk
      obtain ⟨_, e16, rfl⟩ := hd 16 rfl
      obtain ⟨_, e21, rfl⟩ := hd 21 rfl
      refine o_ibin (v := .int .u32 (ior .u32 (ior .u32 (ior .u32 (IntKind.u32.wrap q21) (ishl .u32 (IntKind.u32.wrap q26) 8)) (ishl .u32 (IntKind.u32.wrap q31) 16)) (ishl .u32 (IntKind.u32.wrap q36) 24))) rfl rfl rfl e16 e21 rfl ?_
      exact st_addNil (hk _ _ (Sto.Le.refl _) rfl)
    · intro ρ' τ pool rs hl hd hout hk
      obtain ⟨_, e0, rfl⟩ := hd 0 rfl
      obtain ⟨_, e22, rfl⟩ := hd 22 rfl
      refine o_ibin (v := .int .u32 (ixor .u32 s18.1 (ior .u32 (ior .u32 (ior .u32 (IntKind.u32.wrap q21) (ishl .u32 (IntKind.u32.wrap q26) 8)) (ishl .u32 (IntKind.u32.wrap q31) 16)) (ishl .u32 (IntKind.u32.wrap q36) 24)))) rfl rfl rfl e0 e22 rfl ?_
      exact st_addNil (hk _ _ (Sto.Le.refl _) rfl)
    intro ρ' τ41 vals hl41 hv hout
    have l23 : Eng.look ρ' 37 = some (.int .u32 (ixor .u32 s18.1 (ior .u32 (ior .u32 (ior .u32 (IntKind.u32.wrap q21) (ishl .u32 (IntKind.u32.wrap q26) 8)) (ishl .u32 (IntKind.u32.wrap q31) 16)) (ishl .u32 (IntKind.u32.wrap q36) 24)))) := ((hv 23 (by decide)).1).trans (congrArg some (show vals 23 = .int .u32 (ixor .u32 s18.1 (ior .u32 (ior .u32 (ior .u32 (IntKind.u32.wrap q21) (ishl .u32 (IntKind.u32.wrap q26) 8)) (ishl .u32 (IntKind.u32.wrap q31) 16)) (ishl .u32 (IntKind.u32.wrap q36) 24))) from Eq.symm (hv 23 (by decide)).2))
    refine st_ord [] [] rfl ?_
    refine st_env (ρ' := [(37, .int .u32 (ixor .u32 s18.1 (ior .u32 (ior .u32 (ior .u32 (IntKind.u32.wrap q21) (ishl .u32 (IntKind.u32.wrap q26) 8)) (ishl .u32 (IntKind.u32.wrap q31) 16)) (ishl .u32 (IntKind.u32.wrap q36) 24)))), (0, .pointer (some ⟨bi1, 0, none⟩)), (2, v19), (6, .int .u32 0)]) ⟨l23, (hout 0 rfl).trans rfl, (hout 2 rfl).trans rfl, (hout 6 rfl).trans rfl, trivial⟩ ?_
    refine o_assign rfl rfl rfl rfl ?_
    refine st_end ?_
    refine st_seq ?_
    obtain ⟨hf42, h⟩ := h
    obtain ⟨hf43, h⟩ := h
    obtain ⟨hf44, h⟩ := h
    obtain ⟨hf45, h⟩ := h
    obtain ⟨hf46, h⟩ := h
    obtain ⟨hf47, h⟩ := h
    obtain ⟨hf48, h⟩ := h
    obtain ⟨hf49, h⟩ := h
    refine st_draw 37 (tl [fun τ v => (.pointer (some ⟨bi1, 0, none⟩) : Value) = v,
    fun τ v => (.int .u32 (ixor .u32 s18.1 (ior .u32 (ior .u32 (ior .u32 (IntKind.u32.wrap q21) (ishl .u32 (IntKind.u32.wrap q26) 8)) (ishl .u32 (IntKind.u32.wrap q31) 16)) (ishl .u32 (IntKind.u32.wrap q36) 24))) : Value) = v,
    fun τ v => (.int .u32 (iand .u32 (ixor .u32 s18.1 (ior .u32 (ior .u32 (ior .u32 (IntKind.u32.wrap q21) (ishl .u32 (IntKind.u32.wrap q26) 8)) (ishl .u32 (IntKind.u32.wrap q31) 16)) (ishl .u32 (IntKind.u32.wrap q36) 24))) 255) : Value) = v,
    fun τ v => (.pointer (some ⟨bi1, 0, none⟩) : Value) = v,
    fun τ v => (.pointer (some ⟨bi1, 0 + 0, none⟩) : Value) = v,
    fun τ v => (.pointer (some ⟨bi1, 0 + 0 + (3 : Int).toNat * 256, none⟩) : Value) = v,
    fun τ v => (.pointer (some ⟨bi1, 0 + 0 + (3 : Int).toNat * 256 + (iand .u32 (ixor .u32 s18.1 (ior .u32 (ior .u32 (ior .u32 (IntKind.u32.wrap q21) (ishl .u32 (IntKind.u32.wrap q26) 8)) (ishl .u32 (IntKind.u32.wrap q31) 16)) (ishl .u32 (IntKind.u32.wrap q36) 24))) 255).toNat * 1, none⟩) : Value) = v,
    fun τ v => (.int .u32 (a0.getD (768 + (iand .u32 (ixor .u32 s18.1 (ior .u32 (ior .u32 (ior .u32 (IntKind.u32.wrap q21) (ishl .u32 (IntKind.u32.wrap q26) 8)) (ishl .u32 (IntKind.u32.wrap q31) 16)) (ishl .u32 (IntKind.u32.wrap q36) 24))) 255).toNat) 0) : Value) = v,
    fun τ v => (.pointer (some ⟨bi1, 0, none⟩) : Value) = v,
    fun τ v => (.int .u32 (ixor .u32 s18.1 (ior .u32 (ior .u32 (ior .u32 (IntKind.u32.wrap q21) (ishl .u32 (IntKind.u32.wrap q26) 8)) (ishl .u32 (IntKind.u32.wrap q31) 16)) (ishl .u32 (IntKind.u32.wrap q36) 24))) : Value) = v,
    fun τ v => (.int .u32 (ishr .u32 (ixor .u32 s18.1 (ior .u32 (ior .u32 (ior .u32 (IntKind.u32.wrap q21) (ishl .u32 (IntKind.u32.wrap q26) 8)) (ishl .u32 (IntKind.u32.wrap q31) 16)) (ishl .u32 (IntKind.u32.wrap q36) 24))) 8) : Value) = v,
    fun τ v => (.int .u32 (iand .u32 (ishr .u32 (ixor .u32 s18.1 (ior .u32 (ior .u32 (ior .u32 (IntKind.u32.wrap q21) (ishl .u32 (IntKind.u32.wrap q26) 8)) (ishl .u32 (IntKind.u32.wrap q31) 16)) (ishl .u32 (IntKind.u32.wrap q36) 24))) 8) 255) : Value) = v,
    fun τ v => (.pointer (some ⟨bi1, 0, none⟩) : Value) = v,
    fun τ v => (.pointer (some ⟨bi1, 0 + 0, none⟩) : Value) = v,
    fun τ v => (.pointer (some ⟨bi1, 0 + 0 + (2 : Int).toNat * 256, none⟩) : Value) = v,
    fun τ v => (.pointer (some ⟨bi1, 0 + 0 + (2 : Int).toNat * 256 + (iand .u32 (ishr .u32 (ixor .u32 s18.1 (ior .u32 (ior .u32 (ior .u32 (IntKind.u32.wrap q21) (ishl .u32 (IntKind.u32.wrap q26) 8)) (ishl .u32 (IntKind.u32.wrap q31) 16)) (ishl .u32 (IntKind.u32.wrap q36) 24))) 8) 255).toNat * 1, none⟩) : Value) = v,
    fun τ v => (.int .u32 (a0.getD (512 + (iand .u32 (ishr .u32 (ixor .u32 s18.1 (ior .u32 (ior .u32 (ior .u32 (IntKind.u32.wrap q21) (ishl .u32 (IntKind.u32.wrap q26) 8)) (ishl .u32 (IntKind.u32.wrap q31) 16)) (ishl .u32 (IntKind.u32.wrap q36) 24))) 8) 255).toNat) 0) : Value) = v,
    fun τ v => (.int .u32 (ixor .u32 (a0.getD (768 + (iand .u32 (ixor .u32 s18.1 (ior .u32 (ior .u32 (ior .u32 (IntKind.u32.wrap q21) (ishl .u32 (IntKind.u32.wrap q26) 8)) (ishl .u32 (IntKind.u32.wrap q31) 16)) (ishl .u32 (IntKind.u32.wrap q36) 24))) 255).toNat) 0) (a0.getD (512 + (iand .u32 (ishr .u32 (ixor .u32 s18.1 (ior .u32 (ior .u32 (ior .u32 (IntKind.u32.wrap q21) (ishl .u32 (IntKind.u32.wrap q26) 8)) (ishl .u32 (IntKind.u32.wrap q31) 16)) (ishl .u32 (IntKind.u32.wrap q36) 24))) 8) 255).toNat) 0)) : Value) = v,
    fun τ v => (.pointer (some ⟨bi1, 0, none⟩) : Value) = v,
    fun τ v => (.int .u32 (ixor .u32 s18.1 (ior .u32 (ior .u32 (ior .u32 (IntKind.u32.wrap q21) (ishl .u32 (IntKind.u32.wrap q26) 8)) (ishl .u32 (IntKind.u32.wrap q31) 16)) (ishl .u32 (IntKind.u32.wrap q36) 24))) : Value) = v,
    fun τ v => (.int .u32 (ishr .u32 (ixor .u32 s18.1 (ior .u32 (ior .u32 (ior .u32 (IntKind.u32.wrap q21) (ishl .u32 (IntKind.u32.wrap q26) 8)) (ishl .u32 (IntKind.u32.wrap q31) 16)) (ishl .u32 (IntKind.u32.wrap q36) 24))) 16) : Value) = v,
    fun τ v => (.int .u32 (iand .u32 (ishr .u32 (ixor .u32 s18.1 (ior .u32 (ior .u32 (ior .u32 (IntKind.u32.wrap q21) (ishl .u32 (IntKind.u32.wrap q26) 8)) (ishl .u32 (IntKind.u32.wrap q31) 16)) (ishl .u32 (IntKind.u32.wrap q36) 24))) 16) 255) : Value) = v,
    fun τ v => (.pointer (some ⟨bi1, 0, none⟩) : Value) = v,
    fun τ v => (.pointer (some ⟨bi1, 0 + 0, none⟩) : Value) = v,
    fun τ v => (.pointer (some ⟨bi1, 0 + 0 + (1 : Int).toNat * 256, none⟩) : Value) = v,
    fun τ v => (.pointer (some ⟨bi1, 0 + 0 + (1 : Int).toNat * 256 + (iand .u32 (ishr .u32 (ixor .u32 s18.1 (ior .u32 (ior .u32 (ior .u32 (IntKind.u32.wrap q21) (ishl .u32 (IntKind.u32.wrap q26) 8)) (ishl .u32 (IntKind.u32.wrap q31) 16)) (ishl .u32 (IntKind.u32.wrap q36) 24))) 16) 255).toNat * 1, none⟩) : Value) = v,
    fun τ v => (.int .u32 (a0.getD (256 + (iand .u32 (ishr .u32 (ixor .u32 s18.1 (ior .u32 (ior .u32 (ior .u32 (IntKind.u32.wrap q21) (ishl .u32 (IntKind.u32.wrap q26) 8)) (ishl .u32 (IntKind.u32.wrap q31) 16)) (ishl .u32 (IntKind.u32.wrap q36) 24))) 16) 255).toNat) 0) : Value) = v,
    fun τ v => (.int .u32 (ixor .u32 (ixor .u32 (a0.getD (768 + (iand .u32 (ixor .u32 s18.1 (ior .u32 (ior .u32 (ior .u32 (IntKind.u32.wrap q21) (ishl .u32 (IntKind.u32.wrap q26) 8)) (ishl .u32 (IntKind.u32.wrap q31) 16)) (ishl .u32 (IntKind.u32.wrap q36) 24))) 255).toNat) 0) (a0.getD (512 + (iand .u32 (ishr .u32 (ixor .u32 s18.1 (ior .u32 (ior .u32 (ior .u32 (IntKind.u32.wrap q21) (ishl .u32 (IntKind.u32.wrap q26) 8)) (ishl .u32 (IntKind.u32.wrap q31) 16)) (ishl .u32 (IntKind.u32.wrap q36) 24))) 8) 255).toNat) 0)) (a0.getD (256 + (iand .u32 (ishr .u32 (ixor .u32 s18.1 (ior .u32 (ior .u32 (ior .u32 (IntKind.u32.wrap q21) (ishl .u32 (IntKind.u32.wrap q26) 8)) (ishl .u32 (IntKind.u32.wrap q31) 16)) (ishl .u32 (IntKind.u32.wrap q36) 24))) 16) 255).toNat) 0)) : Value) = v,
    fun τ v => (.pointer (some ⟨bi1, 0, none⟩) : Value) = v,
    fun τ v => (.int .u32 (ixor .u32 s18.1 (ior .u32 (ior .u32 (ior .u32 (IntKind.u32.wrap q21) (ishl .u32 (IntKind.u32.wrap q26) 8)) (ishl .u32 (IntKind.u32.wrap q31) 16)) (ishl .u32 (IntKind.u32.wrap q36) 24))) : Value) = v,
    fun τ v => (.int .u32 (ishr .u32 (ixor .u32 s18.1 (ior .u32 (ior .u32 (ior .u32 (IntKind.u32.wrap q21) (ishl .u32 (IntKind.u32.wrap q26) 8)) (ishl .u32 (IntKind.u32.wrap q31) 16)) (ishl .u32 (IntKind.u32.wrap q36) 24))) 24) : Value) = v,
    fun τ v => (.pointer (some ⟨bi1, 0, none⟩) : Value) = v,
    fun τ v => (.pointer (some ⟨bi1, 0 + 0, none⟩) : Value) = v,
    fun τ v => (.pointer (some ⟨bi1, 0 + 0 + (0 : Int).toNat * 256, none⟩) : Value) = v,
    fun τ v => (.pointer (some ⟨bi1, 0 + 0 + (0 : Int).toNat * 256 + (ishr .u32 (ixor .u32 s18.1 (ior .u32 (ior .u32 (ior .u32 (IntKind.u32.wrap q21) (ishl .u32 (IntKind.u32.wrap q26) 8)) (ishl .u32 (IntKind.u32.wrap q31) 16)) (ishl .u32 (IntKind.u32.wrap q36) 24))) 24).toNat * 1, none⟩) : Value) = v,
    fun τ v => (.int .u32 (a0.getD ((ishr .u32 (ixor .u32 s18.1 (ior .u32 (ior .u32 (ior .u32 (IntKind.u32.wrap q21) (ishl .u32 (IntKind.u32.wrap q26) 8)) (ishl .u32 (IntKind.u32.wrap q31) 16)) (ishl .u32 (IntKind.u32.wrap q36) 24))) 24).toNat) 0) : Value) = v,
    fun τ v => (.int .u32 (ixor .u32 (ixor .u32 (ixor .u32 (a0.getD (768 + (iand .u32 (ixor .u32 s18.1 (ior .u32 (ior .u32 (ior .u32 (IntKind.u32.wrap q21) (ishl .u32 (IntKind.u32.wrap q26) 8)) (ishl .u32 (IntKind.u32.wrap q31) 16)) (ishl .u32 (IntKind.u32.wrap q36) 24))) 255).toNat) 0) (a0.getD (512 + (iand .u32 (ishr .u32 (ixor .u32 s18.1 (ior .u32 (ior .u32 (ior .u32 (IntKind.u32.wrap q21) (ishl .u32 (IntKind.u32.wrap q26) 8)) (ishl .u32 (IntKind.u32.wrap q31) 16)) (ishl .u32 (IntKind.u32.wrap q36) 24))) 8) 255).toNat) 0)) (a0.getD (256 + (iand .u32 (ishr .u32 (ixor .u32 s18.1 (ior .u32 (ior .u32 (ior .u32 (IntKind.u32.wrap q21) (ishl .u32 (IntKind.u32.wrap q26) 8)) (ishl .u32 (IntKind.u32.wrap q31) 16)) (ishl .u32 (IntKind.u32.wrap q36) 24))) 16) 255).toNat) 0)) (a0.getD ((ishr .u32 (ixor .u32 s18.1 (ior .u32 (ior .u32 (ior .u32 (IntKind.u32.wrap q21) (ishl .u32 (IntKind.u32.wrap q26) 8)) (ishl .u32 (IntKind.u32.wrap q31) 16)) (ishl .u32 (IntKind.u32.wrap q36) 24))) 24).toNat) 0)) : Value) = v]) (fun _ _ => []) z_mix rfl (tl_mono ⟨fun _ _ _ _ h => h, ⟨fun _ _ _ _ h => h, ⟨fun _ _ _ _ h => h, ⟨fun _ _ _ _ h => h, ⟨fun _ _ _ _ h => h, ⟨fun _ _ _ _ h => h, ⟨fun _ _ _ _ h => h, ⟨fun _ _ _ _ h => h, ⟨fun _ _ _ _ h => h, ⟨fun _ _ _ _ h => h, ⟨fun _ _ _ _ h => h, ⟨fun _ _ _ _ h => h, ⟨fun _ _ _ _ h => h, ⟨fun _ _ _ _ h => h, ⟨fun _ _ _ _ h => h, ⟨fun _ _ _ _ h => h, ⟨fun _ _ _ _ h => h, ⟨fun _ _ _ _ h => h, ⟨fun _ _ _ _ h => h, ⟨fun _ _ _ _ h => h, ⟨fun _ _ _ _ h => h, ⟨fun _ _ _ _ h => h, ⟨fun _ _ _ _ h => h, ⟨fun _ _ _ _ h => h, ⟨fun _ _ _ _ h => h, ⟨fun _ _ _ _ h => h, ⟨fun _ _ _ _ h => h, ⟨fun _ _ _ _ h => h, ⟨fun _ _ _ _ h => h, ⟨fun _ _ _ _ h => h, ⟨fun _ _ _ _ h => h, ⟨fun _ _ _ _ h => h, ⟨fun _ _ _ _ h => h, ⟨fun _ _ _ _ h => h, ⟨fun _ _ _ _ h => h, ⟨fun _ _ _ _ h => h, ⟨fun _ _ _ _ h => h, trivial⟩⟩⟩⟩⟩⟩⟩⟩⟩⟩⟩⟩⟩⟩⟩⟩⟩⟩⟩⟩⟩⟩⟩⟩⟩⟩⟩⟩⟩⟩⟩⟩⟩⟩⟩⟩⟩) (allB_cons (allB_cons (allB_cons (allB_cons (allB_cons (allB_cons (allB_cons (allB_cons (allB_cons (allB_cons (allB_cons (allB_cons (allB_cons (allB_cons (allB_cons (allB_cons (allB_cons (allB_cons (allB_cons (allB_cons (allB_cons (allB_cons (allB_cons (allB_cons (allB_cons (allB_cons (allB_cons (allB_cons (allB_cons (allB_cons (allB_cons (allB_cons (allB_cons (allB_cons (allB_cons (allB_cons (allB_cons allB_nil ?_) ?_) ?_) ?_) ?_) ?_) ?_) ?_) ?_) ?_) ?_) ?_) ?_) ?_) ?_) ?_) ?_) ?_) ?_) ?_) ?_) ?_) ?_) ?_) ?_) ?_) ?_) ?_) ?_) ?_) ?_) ?_) ?_) ?_) ?_) ?_) ?_) ?_
    · intro ρ' τ pool rs hl hd hout hk
      refine o_move rfl rfl rfl ((hout 0 rfl).trans rfl) ?_
      exact st_addNil (hk _ _ (Sto.Le.refl _) rfl)
    · intro ρ' τ pool rs hl hd hout hk
      refine o_move rfl rfl rfl ((hout 1 rfl).trans rfl) ?_
      exact st_addNil (hk _ _ (Sto.Le.refl _) rfl)
    · intro ρ' τ pool rs hl hd hout hk
      obtain ⟨_, e1, rfl⟩ := hd 1 rfl
      refine o_ibin (v := .int .u32 (iand .u32 (ixor .u32 s18.1 (ior .u32 (ior .u32 (ior .u32 (IntKind.u32.wrap q21) (ishl .u32 (IntKind.u32.wrap q26) 8)) (ishl .u32 (IntKind.u32.wrap q31) 16)) (ishl .u32 (IntKind.u32.wrap q36) 24))) 255)) rfl rfl rfl e1 rfl rfl ?_
      exact st_addNil (hk _ _ (Sto.Le.refl _) rfl)
    · intro ρ' τ pool rs hl hd hout hk
      obtain ⟨_, e0, rfl⟩ := hd 0 rfl
      refine o_nilCheck rfl rfl rfl e0 ?_
      exact st_addNil (hk _ _ (Sto.Le.refl _) rfl)
    · intro ρ' τ pool rs hl hd hout hk
      obtain ⟨_, e3, rfl⟩ := hd 3 rfl
      refine o_fieldAddr rfl rfl rfl z_field203_0 e3 ?_
      exact st_addNil (hk _ _ (Sto.Le.refl _) rfl)
    · intro ρ' τ pool rs hl hd hout hk
      obtain ⟨_, e4, rfl⟩ := hd 4 rfl
      refine o_indexA rfl rfl rfl z_arr201 e4 rfl (by decide) (by decide) ?_
      exact st_addNil (hk _ _ (Sto.Le.refl _) rfl)
    · intro ρ' τ pool rs hl hd hout hk
      obtain ⟨_, e2, rfl⟩ := hd 2 rfl
      obtain ⟨_, e5, rfl⟩ := hd 5 rfl
      refine o_indexA rfl rfl rfl z_arr200 e5 e2 hf42 hf43 ?_
      exact st_addNil (hk _ _ (Sto.Le.refl _) rfl)
    · intro ρ' τ pool rs hl hd hout hk
      obtain ⟨_, e6, rfl⟩ := hd 6 rfl
      refine o_loadI (v := .int .u32 (a0.getD (768 + (iand .u32 (ixor .u32 s18.1 (ior .u32 (ior .u32 (ior .u32 (IntKind.u32.wrap q21) (ishl .u32 (IntKind.u32.wrap q26) 8)) (ishl .u32 (IntKind.u32.wrap q31) 16)) (ishl .u32 (IntKind.u32.wrap q36) 24))) 255).toNat) 0)) rfl rfl rfl z_sc33 e6 (cel_big (q := (768 + (iand .u32 (ixor .u32 s18.1 (ior .u32 (ior .u32 (ior .u32 (IntKind.u32.wrap q21) (ishl .u32 (IntKind.u32.wrap q26) 8)) (ishl .u32 (IntKind.u32.wrap q31) 16)) (ishl .u32 (IntKind.u32.wrap q36) 24))) 255).toNat)) (hc2.up ((hl18.trans hl41).trans hl)) (by omega) (by omega)) ?_
      exact st_addNil (hk _ _ (Sto.Le.refl _) rfl)
    · intro ρ' τ pool rs hl hd hout hk
      refine o_move rfl rfl rfl ((hout 0 rfl).trans rfl) ?_
      exact st_addNil (hk _ _ (Sto.Le.refl _) rfl)
    · intro ρ' τ pool rs hl hd hout hk
      refine o_move rfl rfl rfl ((hout 1 rfl).trans rfl) ?_
      exact st_addNil (hk _ _ (Sto.Le.refl _) rfl)
    · intro ρ' τ pool rs hl hd hout hk
      obtain ⟨_, e9, rfl⟩ := hd 9 rfl
      refine o_shr rfl rfl rfl e9 rfl (by decide) ?_
      exact st_addNil (hk _ _ (Sto.Le.refl _) rfl)
    · intro ρ' τ pool rs hl hd hout hk
      obtain ⟨_, e10, rfl⟩ := hd 10 rfl
      refine o_ibin (v := .int .u32 (iand .u32 (ishr .u32 (ixor .u32 s18.1 (ior .u32 (ior .u32 (ior .u32 (IntKind.u32.wrap q21) (ishl .u32 (IntKind.u32.wrap q26) 8)) (ishl .u32 (IntKind.u32.wrap q31) 16)) (ishl .u32 (IntKind.u32.wrap q36) 24))) 8) 255)) rfl rfl rfl e10 rfl rfl ?_
      exact st_addNil (hk _ _ (Sto.Le.refl _) rfl)
    · intro ρ' τ pool rs hl hd hout hk
      obtain ⟨_, e8, rfl⟩ := hd 8 rfl
      refine o_nilCheck rfl rfl rfl e8 ?_
      exact st_addNil (hk _ _ (Sto.Le.refl _) rfl)
    · intro ρ' τ pool rs hl hd hout hk
      obtain ⟨_, e12, rfl⟩ := hd 12 rfl
      refine o_fieldAddr rfl rfl rfl z_field203_0 e12 ?_
      exact st_addNil (hk _ _ (Sto.Le.refl _) rfl)
    · intro ρ' τ pool rs hl hd hout hk
      obtain ⟨_, e13, rfl⟩ := hd 13 rfl
      refine o_indexA rfl rfl rfl z_arr201 e13 rfl (by decide) (by decide) ?_
      exact st_addNil (hk _ _ (Sto.Le.refl _) rfl)
    · intro ρ' τ pool rs hl hd hout hk
      obtain ⟨_, e11, rfl⟩ := hd 11 rfl
      obtain ⟨_, e14, rfl⟩ := hd 14 rfl
      refine o_indexA rfl rfl rfl z_arr200 e14 e11 hf44 hf45 ?_
      exact st_addNil (hk _ _ (Sto.Le.refl _) rfl)
    · intro ρ' τ pool rs hl hd hout hk
      obtain ⟨_, e15, rfl⟩ := hd 15 rfl
      refine o_loadI (v := .int .u32 (a0.getD (512 + (iand .u32 (ishr .u32 (ixor .u32 s18.1 (ior .u32 (ior .u32 (ior .u32 (IntKind.u32.wrap q21) (ishl .u32 (IntKind.u32.wrap q26) 8)) (ishl .u32 (IntKind.u32.wrap q31) 16)) (ishl .u32 (IntKind.u32.wrap q36) 24))) 8) 255).toNat) 0)) rfl rfl rfl z_sc33 e15 (cel_big (q := (512 + (iand .u32 (ishr .u32 (ixor .u32 s18.1 (ior .u32 (ior .u32 (ior .u32 (IntKind.u32.wrap q21) (ishl .u32 (IntKind.u32.wrap q26) 8)) (ishl .u32 (IntKind.u32.wrap q31) 16)) (ishl .u32 (IntKind.u32.wrap q36) 24))) 8) 255).toNat)) (hc2.up ((hl18.trans hl41).trans hl)) (by omega) (by omega)) ?_
      exact st_addNil (hk _ _ (Sto.Le.refl _) rfl)
    · intro ρ' τ pool rs hl hd hout hk
      obtain ⟨_, e7, rfl⟩ := hd 7 rfl
      obtain ⟨_, e16, rfl⟩ := hd 16 rfl
      refine o_ibin (v := .int .u32 (ixor .u32 (a0.getD (768 + (iand .u32 (ixor .u32 s18.1 (ior .u32 (ior .u32 (ior .u32 (IntKind.u32.wrap q21) (ishl .u32 (IntKind.u32.wrap q26) 8)) (ishl .u32 (IntKind.u32.wrap q31) 16)) (ishl .u32 (IntKind.u32.wrap q36) 24))) 255).toNat) 0) (a0.getD (512 + (iand .u32 (ishr .u32 (ixor .u32 s18.1 (ior .u32 (ior .u32 (ior .u32 (IntKind.u32.wrap q21) (ishl .u32 (IntKind.u32.wrap q26) 8)) (ishl .u32 (IntKind.u32.wrap q31) 16)) (ishl .u32 (IntKind.u32.wrap q36) 24))) 8) 255).toNat) 0))) rfl rfl rfl e7 e16 rfl ?_
      exact st_addNil (hk _ _ (Sto.Le.refl _) rfl)
    · intro ρ' τ pool rs hl hd hout hk
      refine o_move rfl rfl rfl ((hout 0 rfl).trans rfl) ?_
      exact st_addNil (hk _ _ (Sto.Le.refl _) rfl)
    · intro ρ' τ pool rs hl hd hout hk
      refine o_move rfl rfl rfl ((hout 1 rfl).trans rfl) ?_
      exact st_addNil (hk _ _ (Sto.Le.refl _) rfl)
    · intro ρ' τ pool rs hl hd hout hk
      obtain ⟨_, e19, rfl⟩ := hd 19 rfl
      refine o_shr rfl rfl rfl e19 rfl (by decide) ?_
      exact st_addNil (hk _ _ (Sto.Le.refl _) rfl)
    · intro ρ' τ pool rs hl hd hout hk
      obtain ⟨_, e20, rfl⟩ := hd 20 rfl
      refine o_ibin (v := .int .u32 (iand .u32 (ishr .u32 (ixor .u32 s18.1 (ior .u32 (ior .u32 (ior .u32 (IntKind.u32.wrap q21) (ishl .u32 (IntKind.u32.wrap q26) 8)) (ishl .u32 (IntKind.u32.wrap q31) 16)) (ishl .u32 (IntKind.u32.wrap q36) 24))) 16) 255)) rfl rfl rfl e20 rfl rfl ?_
      exact st_addNil (hk _ _ (Sto.Le.refl _) rfl)
    · intro ρ' τ pool rs hl hd hout hk
      obtain ⟨_, e18, rfl⟩ := hd 18 rfl
      refine o_nilCheck rfl rfl rfl e18 ?_
      exact st_addNil (hk _ _ (Sto.Le.refl _) rfl)
    · intro ρ' τ pool rs hl hd hout hk
      obtain ⟨_, e22, rfl⟩ := hd 22 rfl
      refine o_fieldAddr rfl rfl rfl z_field203_0 e22 ?_
      exact st_addNil (hk _ _ (Sto.Le.refl _) rfl)
    · intro ρ' τ pool rs hl hd hout hk
      obtain ⟨_, e23, rfl⟩ := hd 23 rfl
      refine o_indexA rfl rfl rfl z_arr201 e23 rfl (by decide) (by decide) ?_
      exact st_addNil (hk _ _ (Sto.Le.refl _) rfl)
    · intro ρ' τ pool rs hl hd hout hk
      obtain ⟨_, e21, rfl⟩ := hd 21 rfl
      obtain ⟨_, e24, rfl⟩ := hd 24 rfl
      refine o_indexA rfl rfl rfl z_arr200 e24 e21 hf46 hf47 ?_
      exact st_addNil (hk _ _ (Sto.Le.refl _) rfl)
    · intro ρ' τ pool rs hl hd hout hk
      obtain ⟨_, e25, rfl⟩ := hd 25 rfl
      refine o_loadI (v := .int .u32 (a0.getD (256 + (iand .u32 (ishr .u32 (ixor .u32 s18.1 (ior .u32 (ior .u32 (ior .u32 (IntKind.u32.wrap q21) (ishl .u32 (IntKind.u32.wrap q26) 8)) (ishl .u32 (IntKind.u32.wrap q31) 16)) (ishl .u32 (IntKind.u32.wrap q36) 24))) 16) 255).toNat) 0)) rfl rfl rfl z_sc33 e25 (cel_big (q := (256 + (iand .u32 (ishr .u32 (ixor .u32 s18.1 (ior .u32 (ior .u32 (ior .u32 (IntKind.u32.wrap q21) (ishl .u32 (IntKind.u32.wrap q26) 8)) (ishl .u32 (IntKind.u32.wrap q31) 16)) (ishl .u32 (IntKind.u32.wrap q36) 24))) 16) 255).toNat)) (hc2.up ((hl18.trans hl41).trans hl)) (by omega) (by omega)) ?_
      exact st_addNil (hk _ _ (Sto.Le.refl _) rfl)
    · intro ρ' τ pool rs hl hd hout hk
      obtain ⟨_, e17, rfl⟩ := hd 17 rfl
      obtain ⟨_, e26, rfl⟩ := hd 26 rfl
      refine o_ibin (v := .int .u32 (ixor .u32 (ixor .u32 (a0.getD (768 + (iand .u32 (ixor .u32 s18.1 (ior .u32 (ior .u32 (ior .u32 (IntKind.u32.wrap q21) (ishl .u32 (IntKind.u32.wrap q26) 8)) (ishl .u32 (IntKind.u32.wrap q31) 16)) (ishl .u32 (IntKind.u32.wrap q36) 24))) 255).toNat) 0) (a0.getD (512 + (iand .u32 (ishr .u32 (ixor .u32 s18.1 (ior .u32 (ior .u32 (ior .u32 (IntKind.u32.wrap q21) (ishl .u32 (IntKind.u32.wrap q26) 8)) (ishl .u32 (IntKind.u32.wrap q31) 16)) (ishl .u32 (IntKind.u32.wrap q36) 24))) 8) 255).toNat) 0)) (a0.getD (256 + (iand .u32 (ishr .u32 (ixor .u32 s18.1 (ior .u32 (ior .u32 (ior .u32 (IntKind.u32.wrap q21) (ishl .u32 (IntKind.u32.wrap q26) 8)) (ishl .u32 (IntKind.u32.wrap q31) 16)) (ishl .u32 (IntKind.u32.wrap q36) 24))) 16) 255).toNat) 0))) rfl rfl rfl e17 e26 rfl ?_
      exact st_addNil (hk _ _ (Sto.Le.refl _) rfl)
    · intro ρ' τ pool rs hl hd hout hk
      refine o_move rfl rfl rfl ((hout 0 rfl).trans rfl) ?_
      exact st_addNil (hk _ _ (Sto.Le.refl _) rfl)
    · intro ρ' τ pool rs hl hd hout hk
      refine o_move rfl rfl rfl ((hout 1 rfl).trans rfl) ?_
      exact st_addNil (hk _ _ (Sto.Le.refl _) rfl)
    · intro ρ' τ pool rs hl hd hout hk
      obtain ⟨_, e29, rfl⟩ := hd 29 rfl
      refine o_shr rfl rfl rfl e29 rfl (by decide) ?_
      exact st_addNil (hk _ _ (Sto.Le.refl _) rfl)
    · intro ρ' τ pool rs hl hd hout hk
      obtain ⟨_, e28, rfl⟩ := hd 28 rfl
      refine o_nilCheck rfl rfl rfl e28 ?_
      exact st_addNil (hk _ _ (Sto.Le.refl _) rfl)
    · intro ρ' τ pool rs hl hd hout hk
      obtain ⟨_, e31, rfl⟩ := hd 31 rfl
      refine o_fieldAddr rfl rfl rfl z_field203_0 e31 ?_
      exact st_addNil (hk _ _ (Sto.Le.refl _) rfl)
    · intro ρ' τ pool rs hl hd hout hk
      obtain ⟨_, e32, rfl⟩ := hd 32 rfl
      refine o_indexA rfl rfl rfl z_arr201 e32 rfl (by decide) (by decide) ?_
      exact st_addNil (hk _ _ (Sto.Le.refl _) rfl)
    · intro ρ' τ pool rs hl hd hout hk
      obtain ⟨_, e30, rfl⟩ := hd 30 rfl
      obtain ⟨_, e33, rfl⟩ := hd 33 rfl
      refine o_indexA rfl rfl rfl z_arr200 e33 e30 hf48 hf49 ?_
      exact st_addNil (hk _ _ (Sto.Le.refl _) rfl)
    · intro ρ' τ pool rs hl hd hout hk
      obtain ⟨_, e34, rfl⟩ := hd 34 rfl
      refine o_loadI (v := .int .u32 (a0.getD ((ishr .u32 (ixor .u32 s18.1 (ior .u32 (ior .u32 (ior .u32 (IntKind.u32.wrap q21) (ishl .u32 (IntKind.u32.wrap q26) 8)) (ishl .u32 (IntKind.u32.wrap q31) 16)) (ishl .u32 (IntKind.u32.wrap q36) 24))) 24).toNat) 0)) rfl rfl rfl z_sc33 e34 (cel_big (q := (ishr .u32 (ixor .u32 s18.1 (ior .u32 (ior .u32 (ior .u32 (IntKind.u32.wrap q21) (ishl .u32 (IntKind.u32.wrap q26) 8)) (ishl .u32 (IntKind.u32.wrap q31) 16)) (ishl .u32 (IntKind.u32.wrap q36) 24))) 24).toNat) (hc2.up ((hl18.trans hl41).trans hl)) (by omega) (by omega)) ?_
      exact st_addNil (hk _ _ (Sto.Le.refl _) rfl)
    · intro ρ' τ pool rs hl hd hout hk
      obtain ⟨_, e27, rfl⟩ := hd 27 rfl
      obtain ⟨_, e35, rfl⟩ := hd 35 rfl
      refine o_ibin (v := .int .u32 (ixor .u32 (ixor .u32 (ixor .u32 (a0.getD (768 + (iand .u32 (ixor .u32 s18.1 (ior .u32 (ior .u32 (ior .u32 (IntKind.u32.wrap q21) (ishl .u32 (IntKind.u32.wrap q26) 8)) (ishl .u32 (IntKind.u32.wrap q31) 16)) (ishl .u32 (IntKind.u32.wrap q36) 24))) 255).toNat) 0) (a0.getD (512 + (iand .u32 (ishr .u32 (ixor .u32 s18.1 (ior .u32 (ior .u32 (ior .u32 (IntKind.u32.wrap q21) (ishl .u32 (IntKind.u32.wrap q26) 8)) (ishl .u32 (IntKind.u32.wrap q31) 16)) (ishl .u32 (IntKind.u32.wrap q36) 24))) 8) 255).toNat) 0)) (a0.getD (256 + (iand .u32 (ishr .u32 (ixor .u32 s18.1 (ior .u32 (ior .u32 (ior .u32 (IntKind.u32.wrap q21) (ishl .u32 (IntKind.u32.wrap q26) 8)) (ishl .u32 (IntKind.u32.wrap q31) 16)) (ishl .u32 (IntKind.u32.wrap q36) 24))) 16) 255).toNat) 0)) (a0.getD ((ishr .u32 (ixor .u32 s18.1 (ior .u32 (ior .u32 (ior .u32 (IntKind.u32.wrap q21) (ishl .u32 (IntKind.u32.wrap q26) 8)) (ishl .u32 (IntKind.u32.wrap q31) 16)) (ishl .u32 (IntKind.u32.wrap q36) 24))) 24).toNat) 0))) rfl rfl rfl e27 e35 rfl ?_
      exact st_addNil (hk _ _ (Sto.Le.refl _) rfl)
    intro ρ' τ50 vals hl50 hv hout
    have l36 : Eng.look ρ' 74 = some (.int .u32 (ixor .u32 (ixor .u32 (ixor .u32 (a0.getD (768 + (iand .u32 (ixor .u32 s18.1 (ior .u32 (ior .u32 (ior .u32 (IntKind.u32.wrap q21) (ishl .u32 (IntKind.u32.wrap q26) 8)) (ishl .u32 (IntKind.u32.wrap q31) 16)) (ishl .u32 (IntKind.u32.wrap q36) 24))) 255).toNat) 0) (a0.getD (512 + (iand .u32 (ishr .u32 (ixor .u32 s18.1 (ior .u32 (ior .u32 (ior .u32 (IntKind.u32.wrap q21) (ishl .u32 (IntKind.u32.wrap q26) 8)) (ishl .u32 (IntKind.u32.wrap q31) 16)) (ishl .u32 (IntKind.u32.wrap q36) 24))) 8) 255).toNat) 0)) (a0.getD (256 + (iand .u32 (ishr .u32 (ixor .u32 s18.1 (ior .u32 (ior .u32 (ior .u32 (IntKind.u32.wrap q21) (ishl .u32 (IntKind.u32.wrap q26) 8)) (ishl .u32 (IntKind.u32.wrap q31) 16)) (ishl .u32 (IntKind.u32.wrap q36) 24))) 16) 255).toNat) 0)) (a0.getD ((ishr .u32 (ixor .u32 s18.1 (ior .u32 (ior .u32 (ior .u32 (IntKind.u32.wrap q21) (ishl .u32 (IntKind.u32.wrap q26) 8)) (ishl .u32 (IntKind.u32.wrap q31) 16)) (ishl .u32 (IntKind.u32.wrap q36) 24))) 24).toNat) 0))) := ((hv 36 (by decide)).1).trans (congrArg some (show vals 36 = .int .u32 (ixor .u32 (ixor .u32 (ixor .u32 (a0.getD (768 + (iand .u32 (ixor .u32 s18.1 (ior .u32 (ior .u32 (ior .u32 (IntKind.u32.wrap q21) (ishl .u32 (IntKind.u32.wrap q26) 8)) (ishl .u32 (IntKind.u32.wrap q31) 16)) (ishl .u32 (IntKind.u32.wrap q36) 24))) 255).toNat) 0) (a0.getD (512 + (iand .u32 (ishr .u32 (ixor .u32 s18.1 (ior .u32 (ior .u32 (ior .u32 (IntKind.u32.wrap q21) (ishl .u32 (IntKind.u32.wrap q26) 8)) (ishl .u32 (IntKind.u32.wrap q31) 16)) (ishl .u32 (IntKind.u32.wrap q36) 24))) 8) 255).toNat) 0)) (a0.getD (256 + (iand .u32 (ishr .u32 (ixor .u32 s18.1 (ior .u32 (ior .u32 (ior .u32 (IntKind.u32.wrap q21) (ishl .u32 (IntKind.u32.wrap q26) 8)) (ishl .u32 (IntKind.u32.wrap q31) 16)) (ishl .u32 (IntKind.u32.wrap q36) 24))) 16) 255).toNat) 0)) (a0.getD ((ishr .u32 (ixor .u32 s18.1 (ior .u32 (ior .u32 (ior .u32 (IntKind.u32.wrap q21) (ishl .u32 (IntKind.u32.wrap q26) 8)) (ishl .u32 (IntKind.u32.wrap q31) 16)) (ishl .u32 (IntKind.u32.wrap q36) 24))) 24).toNat) 0)) from Eq.symm (hv 36 (by decide)).2))
    refine st_ord [] [] rfl ?_
    refine st_env (ρ' := [(74, .int .u32 (ixor .u32 (ixor .u32 (ixor .u32 (a0.getD (768 + (iand .u32 (ixor .u32 s18.1 (ior .u32 (ior .u32 (ior .u32 (IntKind.u32.wrap q21) (ishl .u32 (IntKind.u32.wrap q26) 8)) (ishl .u32 (IntKind.u32.wrap q31) 16)) (ishl .u32 (IntKind.u32.wrap q36) 24))) 255).toNat) 0) (a0.getD (512 + (iand .u32 (ishr .u32 (ixor .u32 s18.1 (ior .u32 (ior .u32 (ior .u32 (IntKind.u32.wrap q21) (ishl .u32 (IntKind.u32.wrap q26) 8)) (ishl .u32 (IntKind.u32.wrap q31) 16)) (ishl .u32 (IntKind.u32.wrap q36) 24))) 8) 255).toNat) 0)) (a0.getD (256 + (iand .u32 (ishr .u32 (ixor .u32 s18.1 (ior .u32 (ior .u32 (ior .u32 (IntKind.u32.wrap q21) (ishl .u32 (IntKind.u32.wrap q26) 8)) (ishl .u32 (IntKind.u32.wrap q31) 16)) (ishl .u32 (IntKind.u32.wrap q36) 24))) 16) 255).toNat) 0)) (a0.getD ((ishr .u32 (ixor .u32 s18.1 (ior .u32 (ior .u32 (ior .u32 (IntKind.u32.wrap q21) (ishl .u32 (IntKind.u32.wrap q26) 8)) (ishl .u32 (IntKind.u32.wrap q31) 16)) (ishl .u32 (IntKind.u32.wrap q36) 24))) 24).toNat) 0))), (0, .pointer (some ⟨bi1, 0, none⟩)), (2, v19), (6, .int .u32 0)]) ⟨l36, (hout 0 rfl).trans rfl, (hout 2 rfl).trans rfl, (hout 6 rfl).trans rfl, trivial⟩ ?_
    refine o_assign rfl rfl rfl rfl ?_
    refine st_end ?_
    refine st_region ?_
    refine o_move rfl rfl rfl rfl ?_
    obtain ⟨hf51, h⟩ := h
    obtain ⟨hf52, h⟩ := h
    refine o_slice (L := 4) (H := (s18.2.length : Int)) rfl rfl rfl z_slT67 rfl rfl (hs20.up (hl41.trans hl50)) ⟨_, rfl⟩ rfl (by decide) hf51 hf52 trivial (by simp) (fun v53 hs54 => ?_)
    refine o_assign rfl rfl rfl rfl ?_
    refine st_end ?_
    refine st_inBlock ?_
    refine st_env (ρ' := [(0, .pointer (some ⟨bi1, 0, none⟩)), (1, .int .u32 (ixor .u32 (ixor .u32 (ixor .u32 (a0.getD (768 + (iand .u32 (ixor .u32 s18.1 (ior .u32 (ior .u32 (ior .u32 (IntKind.u32.wrap q21) (ishl .u32 (IntKind.u32.wrap q26) 8)) (ishl .u32 (IntKind.u32.wrap q31) 16)) (ishl .u32 (IntKind.u32.wrap q36) 24))) 255).toNat) 0) (a0.getD (512 + (iand .u32 (ishr .u32 (ixor .u32 s18.1 (ior .u32 (ior .u32 (ior .u32 (IntKind.u32.wrap q21) (ishl .u32 (IntKind.u32.wrap q26) 8)) (ishl .u32 (IntKind.u32.wrap q31) 16)) (ishl .u32 (IntKind.u32.wrap q36) 24))) 8) 255).toNat) 0)) (a0.getD (256 + (iand .u32 (ishr .u32 (ixor .u32 s18.1 (ior .u32 (ior .u32 (ior .u32 (IntKind.u32.wrap q21) (ishl .u32 (IntKind.u32.wrap q26) 8)) (ishl .u32 (IntKind.u32.wrap q31) 16)) (ishl .u32 (IntKind.u32.wrap q36) 24))) 16) 255).toNat) 0)) (a0.getD ((ishr .u32 (ixor .u32 s18.1 (ior .u32 (ior .u32 (ior .u32 (IntKind.u32.wrap q21) (ishl .u32 (IntKind.u32.wrap q26) 8)) (ishl .u32 (IntKind.u32.wrap q31) 16)) (ishl .u32 (IntKind.u32.wrap q36) 24))) 24).toNat) 0))), (2, v53), (6, .int .u32 0)]) ⟨rfl, rfl, rfl, rfl, trivial⟩ ?_
    exact hn18 _ _ _ _ h ⟨((hl18.trans hl41).trans hl50), _, rfl, rfl, hs54⟩
theorem crc_Table_End_ok {a0 : List Int} {a1 : Int} {bi1 : Nat} {r : Int} (h : crc_Table_End a0 a1 r) (σ : Sto) (hc2 : CelN σ ⟨bi1, 0, none⟩ (cellsN (Value.int .u32) 0 1024 a0)) :
    Does Tryd.prog 177 [.pointer (some ⟨bi1, 0, none⟩), .int .u32 a1] σ [] (fun v τ gs => gs = [] ∧ .int .u32 r = v) := by
  refine call_of Tryd.func177 Tryd.ntmps177 rfl rfl (fun cs fs => ?_)
  refine st_seq ?_
  refine st_region ?_
  refine o_assign rfl rfl rfl rfl ?_
  refine st_end ?_
  refine st_seq ?_
  refine st_seq ?_
  refine st_region ?_
  refine o_move rfl rfl rfl rfl ?_
  refine o_ptrNil (b := false) rfl rfl rfl Tryd.underlying149 rfl rfl rfl ?_
  refine st_end ?_
  refine st_condF rfl ?_
  refine st_skip ?_
  refine st_seq ?_
  refine st_region ?_
  refine o_move rfl rfl rfl rfl ?_
  refine o_compl rfl rfl rfl rfl rfl ?_
  refine o_assign rfl rfl rfl rfl ?_
  refine st_end ?_
  obtain rfl := Eq.symm h
  exact st_ret (gs' := []) Tryd.func177 rfl (List.Sublist.refl _) (Sto.Le.refl _) ⟨rfl, rfl⟩
theorem crc_Table_Sum_ok {a0 : List Int} {a1 : List (List Int)} {bi1 : Nat} {v3 : Value} {r : Int} (h : crc_Table_Sum a0 a1 r) (σ : Sto) (hc2 : CelN σ ⟨bi1, 0, none⟩ (cellsN (Value.int .u32) 0 1024 a0)) (hs4 : Sl (kSl (kI .u8)) σ v3 a1) :
    Does Tryd.prog 154 [.pointer (some ⟨bi1, 0, none⟩), v3] σ [] (fun v τ gs => gs = [] ∧ .int .u32 r = v) := by
  refine call_of Tryd.func154 Tryd.ntmps154 rfl rfl (fun cs fs => ?_)
  refine st_seq ?_
  refine st_region ?_
  refine o_assign rfl rfl rfl rfl ?_
  refine st_end ?_
  refine st_seq ?_
  refine st_region ?_
  refine o_move rfl rfl rfl rfl ?_
  obtain ⟨r5, hr6, h⟩ := h
  refine st_call (foot := []) rfl rfl rfl rfl rfl rfl (callV_fn z_en175 (crc_Table_Begin_ok hr6 σ hc2)) ?_
  rintro vτ7 τ7 gsτ7 hl8 ⟨rfl, rfl⟩
  refine o_assign rfl rfl rfl rfl ?_
  refine st_end ?_
  refine st_seq ?_
  refine st_cut (fun ρ τ9 gs => ∃ (s9 : Int), crc_Table_Sum_j1 a0 s9 r ∧ τ7.Le τ9 ∧ ρ = [(0, .pointer (some ⟨bi1, 0, none⟩)), (4, .int .u32 0), (5, .int .u32 s9)] ∧ gs = []) ?_ (fun hk9 => ?_)
  · rintro ρ9 τ9 gs9 ⟨s9, h, hl9, rfl, rfl⟩
    refine st_seq ?_
    refine st_region ?_
    refine o_move rfl rfl rfl rfl ?_
    refine o_move rfl rfl rfl rfl ?_
    obtain ⟨r10, hr11, h⟩ := h
    refine st_call (foot := []) rfl rfl rfl rfl rfl rfl (callV_fn z_en177 (crc_Table_End_ok hr11 τ9 (hc2.up (hl8.trans hl9)))) ?_
    rintro vτ12 τ12 gsτ12 hl13 ⟨rfl, rfl⟩
    refine o_assign rfl rfl rfl rfl ?_
    refine st_end ?_
    obtain rfl := Eq.symm h
    exact st_ret (gs' := []) Tryd.func154 rfl (List.Sublist.refl _) ((hl8.trans hl9).trans hl13) ⟨rfl, rfl⟩
  refine st_seq ?_
  refine st_region ?_
  refine o_move rfl rfl rfl rfl ?_
  refine o_lenI rfl rfl rfl z_slT137 rfl (hs4.up hl8) ?_
  refine o_move rfl rfl rfl rfl ?_
  refine st_end ?_
  obtain ⟨e14, hL14, hA14⟩ := h
  refine st_env (ρ' := [(0, .pointer (some ⟨bi1, 0, none⟩)), (4, .int .u32 0), (5, .int .u32 r5), (10, v3), (11, .int .i64 (a1.length : Int)), (12, .int .i64 0)]) ⟨rfl, rfl, rfl, rfl, rfl, rfl, trivial⟩ ?_
  refine st_loop hL14 (fun (s14 : Int × Int) ρ τ14 gs => τ7.Le τ14 ∧ ρ = [(0, .pointer (some ⟨bi1, 0, none⟩)), (4, .int .u32 0), (5, .int .u32 s14.1), (10, v3), (11, .int .i64 (a1.length : Int)), (12, .int .i64 s14.2)] ∧ gs = []) ⟨Sto.Le.refl _, rfl, rfl⟩ ?_
  rintro s14 o14 h he14 ρ14 τ14 gs14 ⟨hl14, rfl, rfl⟩ hn14
  refine st_seq ?_
  refine st_region ?_
  refine o_ibin (v := .bool (decide (s14.2 < (a1.length : Int)))) rfl rfl rfl rfl rfl rfl ?_
  refine st_end ?_
  refine st_seq ?_
  refine st_cond rfl (fun hc => ?_) (fun hc => ?_)
  · replace h := (if_pos hc).mp h
    refine st_skip ?_
    refine st_seq ?_
    refine st_block ?_
    refine st_seq ?_
    refine st_region ?_
    obtain ⟨q15, hf16, h⟩ := h
    refine o_index rfl rfl rfl z_slT137 rfl rfl (hs4.up (hl8.trans hl14)) rfl hf16 (fun b17 of18 vs hc20 hrep => ?_)
    obtain ⟨v19, rfl, hs21⟩ := hrep
    refine o_loadI (v := v19) rfl rfl rfl z_sc67 rfl (hc20 0 _ rfl) ?_
    refine o_assign rfl rfl rfl rfl ?_
    refine st_end ?_
    refine st_region ?_
    refine o_move rfl rfl rfl rfl ?_
    refine o_move rfl rfl rfl rfl ?_
    refine o_move rfl rfl rfl rfl ?_
    obtain ⟨r22, hr23, h⟩ := h
    refine st_call (foot := []) rfl rfl rfl rfl rfl rfl (callV_fn z_en176 (crc_Table_Add_ok hr23 τ14 (hc2.up (hl8.trans hl14)) hs21)) ?_
    rintro vτ24 τ24 gsτ24 hl25 ⟨rfl, rfl⟩
    refine o_assign rfl rfl rfl rfl ?_
    refine st_end ?_
    refine st_inBlock ?_
    refine st_region ?_
    refine o_ibin (v := .int .i64 (IntKind.i64.wrap (s14.2 + 1))) rfl rfl rfl rfl rfl rfl ?_
    refine o_move rfl rfl rfl rfl ?_
    refine st_end ?_
    refine st_env (ρ' := [(0, .pointer (some ⟨bi1, 0, none⟩)), (4, .int .u32 0), (5, .int .u32 r22), (10, v3), (11, .int .i64 (a1.length : Int)), (12, .int .i64 (IntKind.i64.wrap (s14.2 + 1)))]) ⟨rfl, rfl, rfl, rfl, rfl, rfl, trivial⟩ ?_
    exact hn14 _ _ _ _ h ⟨(hl14.trans hl25), rfl, rfl⟩
  · replace h := (if_neg (ne_t hc)).mp h
    refine st_exit rfl ?_
    obtain rfl := he14 _ h
    replace h := hA14
    refine st_env (ρ' := [(0, .pointer (some ⟨bi1, 0, none⟩)), (4, .int .u32 0), (5, .int .u32 s14.1)]) ⟨rfl, rfl, rfl, trivial⟩ ?_
    exact hk9 _ _ _ ⟨s14.1, h, hl14, rfl, rfl⟩
theorem crc_bytes_ok {a0 : Int} {r : List Int} (h : crc_bytes a0 r) (σ : Sto)  :
    Does Tryd.prog 153 [.int .u32 a0] σ [] (fun v τ gs => gs = [] ∧ .agg [.int .u8 (r.getD 0 0), .int .u8 (r.getD 1 0), .int .u8 (r.getD 2 0), .int .u8 (r.getD 3 0)].toArray = v) := by
  refine call_of Tryd.func153 Tryd.ntmps153 rfl rfl (fun cs fs => ?_)
  refine st_seq ?_
  refine st_region ?_
  refine o_alloc rfl rfl rfl z_zero230 (fun b1 => ?_)
  refine st_end ?_
  refine st_seq ?_
  refine st_region ?_
  refine o_move rfl rfl rfl rfl ?_
  refine o_conv rfl rfl rfl Tryd.underlying33 Tryd.underlying5 rfl ?_
  refine o_move rfl rfl rfl rfl ?_
  refine o_shr rfl rfl rfl rfl rfl (by decide) ?_
  refine o_conv rfl rfl rfl Tryd.underlying33 Tryd.underlying5 rfl ?_
  refine o_move rfl rfl rfl rfl ?_
  refine o_shr rfl rfl rfl rfl rfl (by decide) ?_
  refine o_conv rfl rfl rfl Tryd.underlying33 Tryd.underlying5 rfl ?_
  refine o_move rfl rfl rfl rfl ?_
  refine o_shr rfl rfl rfl rfl rfl (by decide) ?_
  refine o_conv rfl rfl rfl Tryd.underlying33 Tryd.underlying5 rfl ?_
  refine o_buildA (ps := [(0, [.int .u8 (IntKind.u8.wrap a0)]), (1, [.int .u8 (IntKind.u8.wrap (ishr .u32 a0 8))]), (2, [.int .u8 (IntKind.u8.wrap (ishr .u32 a0 16))]), (3, [.int .u8 (IntKind.u8.wrap (ishr .u32 a0 24))])]) (cs := [.int .u8 (IntKind.u8.wrap a0), .int .u8 (IntKind.u8.wrap (ishr .u32 a0 8)), .int .u8 (IntKind.u8.wrap (ishr .u32 a0 16)), .int .u8 (IntKind.u8.wrap (ishr .u32 a0 24))]) rfl rfl rfl z_arrz230 ⟨rfl, ⟨_, rfl, rfl⟩, ⟨rfl, ⟨_, rfl, rfl⟩, ⟨rfl, ⟨_, rfl, rfl⟩, ⟨rfl, ⟨_, rfl, rfl⟩, trivial⟩⟩⟩⟩ (fill_all [.int .u8 (IntKind.u8.wrap a0), .int .u8 (IntKind.u8.wrap (ishr .u32 a0 8)), .int .u8 (IntKind.u8.wrap (ishr .u32 a0 16)), .int .u8 (IntKind.u8.wrap (ishr .u32 a0 24))] _ rfl) ?_
  refine o_store (j := 0) (vs := [.int .u8 (IntKind.u8.wrap a0), .int .u8 (IntKind.u8.wrap (ishr .u32 a0 8)), .int .u8 (IntKind.u8.wrap (ishr .u32 a0 16)), .int .u8 (IntKind.u8.wrap (ishr .u32 a0 24))]) (cs' := [.int .u8 (IntKind.u8.wrap a0), .int .u8 (IntKind.u8.wrap (ishr .u32 a0 8)), .int .u8 (IntKind.u8.wrap (ishr .u32 a0 16)), .int .u8 (IntKind.u8.wrap (ishr .u32 a0 24))]) rfl rfl rfl z_size230 rfl rfl rfl (ones_cons rfl (ones_cons rfl (ones_cons rfl (ones_cons rfl ones_nil)))) rfl rfl rfl ?_
  refine st_gs [[(b1, .cells [.int .u8 (IntKind.u8.wrap a0), .int .u8 (IntKind.u8.wrap (ishr .u32 a0 8)), .int .u8 (IntKind.u8.wrap (ishr .u32 a0 16)), .int .u8 (IntKind.u8.wrap (ishr .u32 a0 24))].toArray 230 (0, 0))]] rfl ?_
  refine st_end ?_
  obtain rfl := Eq.symm h
  exact st_retC (gs' := []) [.agg [.int .u8 (IntKind.u8.wrap a0), .int .u8 (IntKind.u8.wrap (ishr .u32 a0 8)), .int .u8 (IntKind.u8.wrap (ishr .u32 a0 16)), .int .u8 (IntKind.u8.wrap (ishr .u32 a0 24))].toArray] Tryd.func153 ⟨⟨_, _, _, _, rfl, mem_flat 0 rfl, fun w hw => cellOfN (vs := [.int .u8 (IntKind.u8.wrap a0), .int .u8 (IntKind.u8.wrap (ishr .u32 a0 8)), .int .u8 (IntKind.u8.wrap (ishr .u32 a0 16)), .int .u8 (IntKind.u8.wrap (ishr .u32 a0 24))]) z_agg230 rfl w hw⟩, trivial⟩ (by simp) (Sto.Le.refl _) ⟨rfl, rfl⟩
theorem crc_Open_ok {a0 : List Int} {a1 : List Int} {bi1 : Nat} {v3 : Value} {r : List Int × Int} (h : crc_Open a0 a1 r) (σ : Sto) (hc2 : CelN σ ⟨bi1, 0, none⟩ (cellsN (Value.int .u32) 0 1024 a0)) (hs4 : Sl (kI .u8) σ v3 a1) :
    Does Tryd.prog 123 [.pointer (some ⟨bi1, 0, none⟩), v3] σ [] (fun v τ gs => ∃ (v49 : Value), gs = [] ∧ .tuple [v49, .int .i64 r.2].toArray = v ∧ Sl (kI .u8) τ v49 r.1) := by
  refine call_of Tryd.func123 Tryd.ntmps123 rfl rfl (fun cs fs => ?_)
  refine st_seq ?_
  refine st_region ?_
  refine o_assign rfl rfl rfl rfl ?_
  refine o_assign rfl rfl rfl rfl ?_
  refine st_end ?_
  refine st_seq ?_
  refine st_region ?_
  refine o_move rfl rfl rfl rfl ?_
  refine o_lenI rfl rfl rfl z_slT67 rfl hs4 ?_
  refine o_ibin (v := .int .i64 (IntKind.i64.wrap ((a1.length : Int) - 4))) rfl rfl rfl rfl rfl rfl ?_
  refine o_assign rfl rfl rfl rfl ?_
  refine st_end ?_
  refine st_seq ?_
  refine st_block ?_
  refine st_seq ?_
  refine st_region ?_
  refine o_move rfl rfl rfl rfl ?_
  refine o_ptrNil (b := false) rfl rfl rfl Tryd.underlying149 rfl rfl rfl ?_
  refine o_assign rfl rfl rfl rfl ?_
  refine st_end ?_
  refine st_condF rfl ?_
  refine st_seq ?_
  refine st_region ?_
  refine o_move rfl rfl rfl rfl ?_
  refine o_ibin (v := .bool (decide ((IntKind.i64.wrap ((a1.length : Int) - 4)) < 0))) rfl rfl rfl rfl rfl rfl ?_
  refine o_assign rfl rfl rfl rfl ?_
  refine st_end ?_
  refine st_cond rfl (fun hc => ?_) (fun hc => ?_)
  · replace h := (if_pos hc).mp h
    refine st_seq ?_
    refine st_region ?_
    refine o_assign rfl rfl rfl rfl ?_
    refine o_assign rfl rfl rfl rfl ?_
    refine st_end ?_
    obtain rfl := Eq.symm h
    exact st_ret (gs' := []) Tryd.func123 rfl (List.Sublist.refl _) (Sto.Le.refl _) ⟨_, rfl, rfl, Sl.nil⟩
  · replace h := (if_neg (ne_t hc)).mp h
    refine st_skip ?_
    refine st_inBlock ?_
    refine st_seq ?_
    refine st_region ?_
    refine o_move rfl rfl rfl rfl ?_
    refine o_move rfl rfl rfl rfl ?_
    refine o_move rfl rfl rfl rfl ?_
    obtain ⟨hf5, h⟩ := h
    obtain ⟨hf6, h⟩ := h
    obtain ⟨hf7, h⟩ := h
    obtain ⟨hf8, h⟩ := h
    refine o_slice (L := 0) (H := (IntKind.i64.wrap ((a1.length : Int) - 4))) rfl rfl rfl z_slT67 rfl rfl hs4 rfl ⟨_, rfl⟩ (by decide) hf5 hf6 ⟨_, _, rfl, hf7, hf8⟩ (by simp) (fun v9 hs10 => ?_)
    refine o_assign rfl rfl rfl rfl ?_
    refine st_end ?_
    refine st_seq ?_
    refine st_seq ?_
    obtain ⟨r18, hr19, h⟩ := h
    obtain ⟨r22, hr23, h⟩ := h
    obtain ⟨hf26, h⟩ := h
    obtain ⟨hf27, h⟩ := h
    obtain ⟨hf28, h⟩ := h
    obtain ⟨hf31, h⟩ := h
    refine st_draw 11 (tl [fun τ v => (.pointer (some ⟨bi1, 0, none⟩) : Value) = v,
    fun τ v => (v9 : Value) = v,
    fun τ v => ∃ (v11 : Value), (v11 : Value) = v ∧ Sl (kSl (kI .u8)) τ v11 [((a1.drop (0 : Int).toNat).take (((IntKind.i64.wrap ((a1.length : Int) - 4)) : Int) - 0).toNat)],
    fun τ v => (.int .u32 r18 : Value) = v,
    fun τ v => (.agg [.int .u8 (r22.getD 0 0), .int .u8 (r22.getD 1 0), .int .u8 (r22.getD 2 0), .int .u8 (r22.getD 3 0)].toArray : Value) = v,
    fun τ v => (v3 : Value) = v,
    fun τ v => (.int .i64 (IntKind.i64.wrap ((a1.length : Int) - 4)) : Value) = v,
    fun τ v => ∃ (v29 : Value), (v29 : Value) = v ∧ Sl (kI .u8) τ v29 ((a1.drop (IntKind.i64.wrap ((a1.length : Int) - 4)).toNat).take (((a1.length : Int) : Int) - (IntKind.i64.wrap ((a1.length : Int) - 4))).toNat),
    fun τ v => ∃ (b32 : Nat) (of33 : Nat) (vsb32 : List Value), (.pointer (some ⟨b32, of33, none⟩) : Value) = v ∧ CelN τ ⟨b32, of33, none⟩ vsb32 ∧ (kA .u8 4).rep τ vsb32 ((a1.drop (IntKind.i64.wrap ((a1.length : Int) - 4)).toNat).take (((a1.length : Int) : Int) - (IntKind.i64.wrap ((a1.length : Int) - 4))).toNat),
    fun τ v => (.agg [.int .u8 (((a1.drop (IntKind.i64.wrap ((a1.length : Int) - 4)).toNat).take (((a1.length : Int) : Int) - (IntKind.i64.wrap ((a1.length : Int) - 4))).toNat).getD 0 0), .int .u8 (((a1.drop (IntKind.i64.wrap ((a1.length : Int) - 4)).toNat).take (((a1.length : Int) : Int) - (IntKind.i64.wrap ((a1.length : Int) - 4))).toNat).getD 1 0), .int .u8 (((a1.drop (IntKind.i64.wrap ((a1.length : Int) - 4)).toNat).take (((a1.length : Int) : Int) - (IntKind.i64.wrap ((a1.length : Int) - 4))).toNat).getD 2 0), .int .u8 (((a1.drop (IntKind.i64.wrap ((a1.length : Int) - 4)).toNat).take (((a1.length : Int) : Int) - (IntKind.i64.wrap ((a1.length : Int) - 4))).toNat).getD 3 0)].toArray : Value) = v,
    fun τ v => (.bool (!(eqN 4 0 r22 ((a1.drop (IntKind.i64.wrap ((a1.length : Int) - 4)).toNat).take (((a1.length : Int) : Int) - (IntKind.i64.wrap ((a1.length : Int) - 4))).toNat))) : Value) = v]) (fun _ _ => []) z_mix rfl (tl_mono ⟨fun _ _ _ _ h => h, ⟨fun _ _ _ _ h => h, ⟨fun _ _ _ hl ⟨v11, hv, hs17⟩ => ⟨v11, hv, hs17.up hl⟩, ⟨fun _ _ _ _ h => h, ⟨fun _ _ _ _ h => h, ⟨fun _ _ _ _ h => h, ⟨fun _ _ _ _ h => h, ⟨fun _ _ _ hl ⟨v29, hv, hs30⟩ => ⟨v29, hv, hs30.up hl⟩, ⟨fun _ _ _ hl ⟨b32, of33, vsb32, hv, hc34, hrepb32⟩ => ⟨b32, of33, vsb32, hv, hc34.up hl, Kd.mono _ hl hrepb32⟩, ⟨fun _ _ _ _ h => h, ⟨fun _ _ _ _ h => h, trivial⟩⟩⟩⟩⟩⟩⟩⟩⟩⟩⟩) (allB_cons (allB_cons (allB_cons (allB_cons (allB_cons (allB_cons (allB_cons (allB_cons (allB_cons (allB_cons (allB_cons allB_nil ?_) ?_) ?_) ?_) ?_) ?_) ?_) ?_) ?_) ?_) ?_) ?_
    · intro ρ' τ pool rs hl hd hout hk
      refine o_move rfl rfl rfl ((hout 0 rfl).trans rfl) ?_
      exact st_addNil (hk _ _ (Sto.Le.refl _) rfl)
    · intro ρ' τ pool rs hl hd hout hk
      refine o_move rfl rfl rfl ((hout 7 rfl).trans rfl) ?_
      exact st_addNil (hk _ _ (Sto.Le.refl _) rfl)
    · intro ρ' τ pool rs hl hd hout hk
      obtain ⟨_, e1, rfl⟩ := hd 1 rfl
      refine o_lit (dk := (kSl (kI .u8))) (xs := [((a1.drop (0 : Int).toNat).take (((IntKind.i64.wrap ((a1.length : Int) - 4)) : Int) - 0).toNat)]) (ps := [(0, [v9])]) (cs := [v9]) rfl rfl rfl z_slT137 z_zero67 ⟨rfl, ⟨_, e1, (oneL_sl (hs10.up hl))⟩, trivial⟩ rfl rfl rfl rfl (Kd.Many.cons (d := (kSl (kI .u8))) (x := ((a1.drop (0 : Int).toNat).take (((IntKind.i64.wrap ((a1.length : Int) - 4)) : Int) - 0).toNat)) (a := [v9]) ⟨_, rfl, (hs10.up hl)⟩ Kd.Many.nil) (fun v11 g12 ho13 => ?_)
      refine st_freeze (fun τ14 hl15 hg16 => ?_)
      have hs17 := ho13.freeze hl15 hg16
      exact st_addNil (hk _ _ hl15 ⟨v11, rfl, hs17⟩)
    · intro ρ' τ pool rs hl hd hout hk
      obtain ⟨_, e0, rfl⟩ := hd 0 rfl
      obtain ⟨_, e2, v11, rfl, hs17⟩ := hd 2 rfl
      refine st_call (foot := []) rfl rfl rfl rfl (evs_cons e0 (evs_cons e2 rfl)) rfl (callV_fn z_en154 (crc_Table_Sum_ok hr19 τ (hc2.up hl) hs17)) ?_
      rintro vτ20 τ20 gsτ20 hl21 ⟨rfl, rfl⟩
      exact st_addNil (hk _ _ hl21 rfl)
    · intro ρ' τ pool rs hl hd hout hk
      obtain ⟨_, e3, rfl⟩ := hd 3 rfl
      refine st_call (foot := []) rfl rfl rfl rfl (evs_cons e3 rfl) rfl (callV_fn z_en153 (crc_bytes_ok hr23 τ)) ?_
      rintro vτ24 τ24 gsτ24 hl25 ⟨rfl, rfl⟩
      exact st_addNil (hk _ _ hl25 rfl)
    · intro ρ' τ pool rs hl hd hout hk
      refine o_move rfl rfl rfl ((hout 1 rfl).trans rfl) ?_
      exact st_addNil (hk _ _ (Sto.Le.refl _) rfl)
    · intro ρ' τ pool rs hl hd hout hk
      refine o_move rfl rfl rfl ((hout 6 rfl).trans rfl) ?_
      exact st_addNil (hk _ _ (Sto.Le.refl _) rfl)
    · intro ρ' τ pool rs hl hd hout hk
      obtain ⟨_, e5, rfl⟩ := hd 5 rfl
      obtain ⟨_, e6, rfl⟩ := hd 6 rfl
      refine o_slice (L := (IntKind.i64.wrap ((a1.length : Int) - 4))) (H := (a1.length : Int)) rfl rfl rfl z_slT67 rfl e5 (hs4.up hl) ⟨_, e6⟩ rfl hf26 hf27 hf28 trivial (by simp) (fun v29 hs30 => ?_)
      exact st_addNil (hk _ _ (Sto.Le.refl _) ⟨v29, rfl, hs30⟩)
    · intro ρ' τ pool rs hl hd hout hk
      obtain ⟨_, e7, v29, rfl, hs30⟩ := hd 7 rfl
      refine o_toArr (dk := (kI .u8)) rfl rfl rfl z_arr230 e7 hs30 rfl hf31 (fun b32 of33 csb32 hcsb32 hmb32 => ?_)
      obtain ⟨vsb32, hc34, hrepb32⟩ : ∃ vs, CelN τ ⟨b32, of33, none⟩ vs ∧ Kd.rep (kA .u8 4) τ vs ((a1.drop (IntKind.i64.wrap ((a1.length : Int) - 4)).toNat).take (((a1.length : Int) : Int) - (IntKind.i64.wrap ((a1.length : Int) - 4))).toNat) := ⟨_, celn_arr hcsb32 hmb32 hf31, rfl⟩
      exact st_addNil (hk _ _ (Sto.Le.refl _) ⟨b32, of33, _, rfl, hc34, hrepb32⟩)
    · intro ρ' τ pool rs hl hd hout hk
      obtain ⟨_, e8, b32, of33, vsb32, rfl, hc34, hrepb32⟩ := hd 8 rfl
      have hrepb32 := hrepb32
      obtain rfl := hrepb32
      refine o_loadIN (vs := [.int .u8 (((a1.drop (IntKind.i64.wrap ((a1.length : Int) - 4)).toNat).take (((a1.length : Int) : Int) - (IntKind.i64.wrap ((a1.length : Int) - 4))).toNat).getD 0 0), .int .u8 (((a1.drop (IntKind.i64.wrap ((a1.length : Int) - 4)).toNat).take (((a1.length : Int) : Int) - (IntKind.i64.wrap ((a1.length : Int) - 4))).toNat).getD 1 0), .int .u8 (((a1.drop (IntKind.i64.wrap ((a1.length : Int) - 4)).toNat).take (((a1.length : Int) : Int) - (IntKind.i64.wrap ((a1.length : Int) - 4))).toNat).getD 2 0), .int .u8 (((a1.drop (IntKind.i64.wrap ((a1.length : Int) - 4)).toNat).take (((a1.length : Int) : Int) - (IntKind.i64.wrap ((a1.length : Int) - 4))).toNat).getD 3 0)]) rfl rfl rfl z_agg230 e8 rfl (celn_part 0 rfl hc34) ?_
      exact st_addNil (hk _ _ (Sto.Le.refl _) rfl)
    · intro ρ' τ pool rs hl hd hout hk
      obtain ⟨_, e4, rfl⟩ := hd 4 rfl
      obtain ⟨_, e9, rfl⟩ := hd 9 rfl
      refine o_aggEq (b := (eqN 4 0 r22 ((a1.drop (IntKind.i64.wrap ((a1.length : Int) - 4)).toNat).take (((a1.length : Int) : Int) - (IntKind.i64.wrap ((a1.length : Int) - 4))).toNat))) (e := (!(eqN 4 0 r22 ((a1.drop (IntKind.i64.wrap ((a1.length : Int) - 4)).toNat).take (((a1.length : Int) : Int) - (IntKind.i64.wrap ((a1.length : Int) - 4))).toNat)))) rfl rfl rfl z_eqg230 e4 e9 (fun w => by exact eq_arr (xs := r22) (ys := ((a1.drop (IntKind.i64.wrap ((a1.length : Int) - 4)).toNat).take (((a1.length : Int) : Int) - (IntKind.i64.wrap ((a1.length : Int) - 4))).toNat)) Tryd.underlying230 Tryd.underlying5 z_info5 z_cell5) rfl ?_
      exact st_addNil (hk _ _ (Sto.Le.refl _) rfl)
    intro ρ' τ35 vals hl35 hv hout
    have l10 : Eng.look ρ' 31 = some (.bool (!(eqN 4 0 r22 ((a1.drop (IntKind.i64.wrap ((a1.length : Int) - 4)).toNat).take (((a1.length : Int) : Int) - (IntKind.i64.wrap ((a1.length : Int) - 4))).toNat)))) := ((hv 10 (by decide)).1).trans (congrArg some (show vals 10 = .bool (!(eqN 4 0 r22 ((a1.drop (IntKind.i64.wrap ((a1.length : Int) - 4)).toNat).take (((a1.length : Int) : Int) - (IntKind.i64.wrap ((a1.length : Int) - 4))).toNat))) from Eq.symm (hv 10 (by decide)).2))
    refine st_ord [] [] rfl ?_
    refine st_env (ρ' := [(31, .bool (!(eqN 4 0 r22 ((a1.drop (IntKind.i64.wrap ((a1.length : Int) - 4)).toNat).take (((a1.length : Int) : Int) - (IntKind.i64.wrap ((a1.length : Int) - 4))).toNat)))), (4, .slice none 0 0), (5, .int .i64 0), (7, v9)]) ⟨l10, (hout 4 rfl).trans rfl, (hout 5 rfl).trans rfl, (hout 7 rfl).trans rfl, trivial⟩ ?_
    refine st_end ?_
    refine st_cond rfl (fun hc => ?_) (fun hc => ?_)
    · replace h := (if_pos hc).mp h
      refine st_seq ?_
      refine st_region ?_
      refine o_assign rfl rfl rfl rfl ?_
      refine o_assign rfl rfl rfl rfl ?_
      refine st_end ?_
      obtain rfl := Eq.symm h
      exact st_ret (gs' := []) Tryd.func123 rfl (List.Sublist.refl _) hl35 ⟨_, rfl, rfl, Sl.nil⟩
    · replace h := (if_neg (ne_t hc)).mp h
      refine st_skip ?_
      refine st_seq ?_
      refine st_region ?_
      refine o_lit (dk := (kI .u8)) (xs := ([] : List Int)) (ps := []) (cs := []) rfl rfl rfl z_slT67 z_zero5 trivial rfl rfl rfl rfl Kd.Many.nil (fun v36 g37 ho38 => ?_)
      refine o_move rfl rfl rfl rfl ?_
      obtain ⟨hf42, h⟩ := h
      obtain ⟨hf43, h⟩ := h
      refine o_append (dk := (kI .u8)) (xs := ([] : List Int)) (ys := ((a1.drop (0 : Int).toNat).take (((IntKind.i64.wrap ((a1.length : Int) - 4)) : Int) - 0).toNat)) rfl rfl rfl rfl z_slT67 rfl ho38 rfl (Sl.src (hs10.up hl35)) hf42 hf43 (fun v39 g40 ho41 => ?_)
      refine o_assign rfl rfl rfl rfl ?_
      refine o_assign rfl rfl rfl rfl ?_
      refine st_end ?_
      refine st_freeze (fun τ44 hl45 hg46 => ?_)
      have hs47 := ho41.freeze hl45 hg46
      obtain rfl := Eq.symm h
      exact st_ret (gs' := []) Tryd.func123 rfl (List.Sublist.refl _) (hl35.trans hl45) ⟨_, rfl, rfl, hs47⟩
theorem lens_New_ok {a0 : List Int} {v1 : Value} {r : (List Int × Int × Int)} (h : lens_New a0 r) (σ : Sto) (hs2 : Sl (kI .u8) σ v1 a0) :
    Does Tryd.prog 155 [v1] σ [] (fun v τ gs => ∃ (b15 : Nat) (v16 : Value), gs = [[(b15, .cells [v16, .int .i64 r.2.1, .int .i64 r.2.2].toArray 258 (0, 0))]] ∧ .pointer (some ⟨b15, 0, none⟩) = v ∧ Sl (kI .u8) τ v16 r.1) := by
  refine call_of Tryd.func155 Tryd.ntmps155 rfl rfl (fun cs fs => ?_)
  refine st_seq ?_
  refine st_region ?_
  refine o_assign rfl rfl rfl rfl ?_
  refine st_end ?_
  refine st_seq ?_
  refine st_region ?_
  refine o_move rfl rfl rfl rfl ?_
  obtain ⟨hf6, h⟩ := h
  obtain ⟨hf7, h⟩ := h
  refine st_addNil ?_
  refine o_append (dk := (kI .u8)) (xs := ([] : List Int)) (ys := a0) rfl rfl rfl rfl z_slT67 rfl Ow.nil rfl (Sl.src hs2) hf6 hf7 (fun v3 g4 ho5 => ?_)
  refine o_build (ps := [(0, [v3])]) (cs := [v3, .int .i64 0, .int .i64 0]) rfl rfl rfl z_struct258 ⟨rfl, ⟨_, rfl, (oneL_ow ho5)⟩, trivial⟩ rfl ?_
  refine o_box (cs := [v3, .int .i64 0, .int .i64 0]) rfl rfl rfl rfl rfl (fun b8 => ?_)
  refine o_assign rfl rfl rfl rfl ?_
  refine st_end ?_
  refine st_ord [1, 0] [g4, [(b8, .cells [v3, .int .i64 0, .int .i64 0].toArray 258 (0, 0))]] rfl ?_
  refine st_freeze (fun τ9 hl10 hg11 => ?_)
  have hs12 := ho5.freeze hl10 hg11
  obtain rfl := Eq.symm h
  exact st_ret (gs' := [[(b8, .cells [v3, .int .i64 0, .int .i64 0].toArray 258 (0, 0))]]) Tryd.func155 rfl (List.Sublist.refl _) hl10 ⟨_, _, rfl, rfl, hs12⟩
theorem lens_Lens_left_ok {a0 : List Int × Int × Int} {ba0 : Nat} {v1 : Value} {r : List Int} (h : lens_Lens_left a0 r) (σ : Sto) (hs2 : Sl (kI .u8) σ v1 a0.1) :
    Does Tryd.prog 203 [.pointer (some ⟨ba0, 0, none⟩)] σ [[(ba0, .cells [v1, .int .i64 a0.2.1, .int .i64 a0.2.2].toArray 258 (0, 0))]] (fun v τ gs => ∃ (v11 : Value), gs = [[(ba0, .cells [v1, .int .i64 a0.2.1, .int .i64 a0.2.2].toArray 258 (0, 0))]] ∧ v11 = v ∧ Sl (kI .u8) τ v11 r) := by
  refine call_of Tryd.func203 Tryd.ntmps203 rfl rfl (fun cs fs => ?_)
  refine st_seq ?_
  refine st_region ?_
  refine o_assign rfl rfl rfl rfl ?_
  refine st_end ?_
  refine st_seq ?_
  obtain ⟨hf3, h⟩ := h
  obtain ⟨hf4, h⟩ := h
  obtain ⟨hf5, h⟩ := h
  obtain ⟨hf6, h⟩ := h
  obtain ⟨hf7, h⟩ := h
  refine st_draw 19 (tl [fun τ v => (.pointer (some ⟨ba0, 0, none⟩) : Value) = v,
    fun τ v => (.pointer (some ⟨ba0, 0, none⟩) : Value) = v,
    fun τ v => (.pointer (some ⟨ba0, 0, none⟩) : Value) = v,
    fun τ v => (v1 : Value) = v,
    fun τ v => (.pointer (some ⟨ba0, 0, none⟩) : Value) = v,
    fun τ v => (.pointer (some ⟨ba0, 0, none⟩) : Value) = v,
    fun τ v => (.pointer (some ⟨ba0, 1, none⟩) : Value) = v,
    fun τ v => (.int .i64 a0.2.1 : Value) = v,
    fun τ v => (.pointer (some ⟨ba0, 0, none⟩) : Value) = v,
    fun τ v => (.pointer (some ⟨ba0, 0, none⟩) : Value) = v,
    fun τ v => (.pointer (some ⟨ba0, 0, none⟩) : Value) = v,
    fun τ v => (v1 : Value) = v,
    fun τ v => (.int .i64 (a0.1.length : Int) : Value) = v,
    fun τ v => (.pointer (some ⟨ba0, 0, none⟩) : Value) = v,
    fun τ v => (.pointer (some ⟨ba0, 0, none⟩) : Value) = v,
    fun τ v => (.pointer (some ⟨ba0, 0, none⟩) : Value) = v,
    fun τ v => (v1 : Value) = v,
    fun τ v => (.int .i64 (a0.1.length : Int) : Value) = v,
    fun τ v => ∃ (v8 : Value), (v8 : Value) = v ∧ Sl (kI .u8) τ v8 ((a0.1.drop a0.2.1.toNat).take (((a0.1.length : Int) : Int) - a0.2.1).toNat)]) (fun _ _ => []) z_mix rfl (tl_mono ⟨fun _ _ _ _ h => h, ⟨fun _ _ _ _ h => h, ⟨fun _ _ _ _ h => h, ⟨fun _ _ _ _ h => h, ⟨fun _ _ _ _ h => h, ⟨fun _ _ _ _ h => h, ⟨fun _ _ _ _ h => h, ⟨fun _ _ _ _ h => h, ⟨fun _ _ _ _ h => h, ⟨fun _ _ _ _ h => h, ⟨fun _ _ _ _ h => h, ⟨fun _ _ _ _ h => h, ⟨fun _ _ _ _ h => h, ⟨fun _ _ _ _ h => h, ⟨fun _ _ _ _ h => h, ⟨fun _ _ _ _ h => h, ⟨fun _ _ _ _ h => h, ⟨fun _ _ _ _ h => h, ⟨fun _ _ _ hl ⟨v8, hv, hs9⟩ => ⟨v8, hv, hs9.up hl⟩, trivial⟩⟩⟩⟩⟩⟩⟩⟩⟩⟩⟩⟩⟩⟩⟩⟩⟩⟩⟩) (allB_cons (allB_cons (allB_cons (allB_cons (allB_cons (allB_cons (allB_cons (allB_cons (allB_cons (allB_cons (allB_cons (allB_cons (allB_cons (allB_cons (allB_cons (allB_cons (allB_cons (allB_cons (allB_cons allB_nil ?_) ?_) ?_) ?_) ?_) ?_) ?_) ?_) ?_) ?_) ?_) ?_) ?_) ?_) ?_) ?_) ?_) ?_) ?_) ?_
  · intro ρ' τ pool rs hl hd hout hk
    refine o_move rfl rfl rfl ((hout 0 rfl).trans rfl) ?_
    exact st_addNil (hk _ _ (Sto.Le.refl _) rfl)
  · intro ρ' τ pool rs hl hd hout hk
    obtain ⟨_, e0, rfl⟩ := hd 0 rfl
    refine o_nilCheck rfl rfl rfl e0 ?_
    exact st_addNil (hk _ _ (Sto.Le.refl _) rfl)
  · intro ρ' τ pool rs hl hd hout hk
    obtain ⟨_, e1, rfl⟩ := hd 1 rfl
    refine o_fieldAddr rfl rfl rfl z_field258_0 e1 ?_
    exact st_addNil (hk _ _ (Sto.Le.refl _) rfl)
  · intro ρ' τ pool rs hl hd hout hk
    obtain ⟨_, e2, rfl⟩ := hd 2 rfl
    refine o_load (j := 0) (v := v1) rfl rfl rfl z_sc67 e2 rfl rfl ?_
    exact st_addNil (hk _ _ (Sto.Le.refl _) rfl)
  · intro ρ' τ pool rs hl hd hout hk
    refine o_move rfl rfl rfl ((hout 0 rfl).trans rfl) ?_
    exact st_addNil (hk _ _ (Sto.Le.refl _) rfl)
  · intro ρ' τ pool rs hl hd hout hk
    obtain ⟨_, e4, rfl⟩ := hd 4 rfl
    refine o_nilCheck rfl rfl rfl e4 ?_
    exact st_addNil (hk _ _ (Sto.Le.refl _) rfl)
  · intro ρ' τ pool rs hl hd hout hk
    obtain ⟨_, e5, rfl⟩ := hd 5 rfl
    refine o_fieldAddr rfl rfl rfl z_field258_1 e5 ?_
    exact st_addNil (hk _ _ (Sto.Le.refl _) rfl)
  · intro ρ' τ pool rs hl hd hout hk
    obtain ⟨_, e6, rfl⟩ := hd 6 rfl
    refine o_load (j := 0) (v := .int .i64 a0.2.1) rfl rfl rfl z_sc3 e6 rfl rfl ?_
    exact st_addNil (hk _ _ (Sto.Le.refl _) rfl)
  · intro ρ' τ pool rs hl hd hout hk
    refine o_move rfl rfl rfl ((hout 0 rfl).trans rfl) ?_
    exact st_addNil (hk _ _ (Sto.Le.refl _) rfl)
  · intro ρ' τ pool rs hl hd hout hk
    obtain ⟨_, e8, rfl⟩ := hd 8 rfl
    refine o_nilCheck rfl rfl rfl e8 ?_
    exact st_addNil (hk _ _ (Sto.Le.refl _) rfl)
  · intro ρ' τ pool rs hl hd hout hk
    obtain ⟨_, e9, rfl⟩ := hd 9 rfl
    refine o_fieldAddr rfl rfl rfl z_field258_0 e9 ?_
    exact st_addNil (hk _ _ (Sto.Le.refl _) rfl)
  · intro ρ' τ pool rs hl hd hout hk
    obtain ⟨_, e10, rfl⟩ := hd 10 rfl
    refine o_load (j := 0) (v := v1) rfl rfl rfl z_sc67 e10 rfl rfl ?_
    exact st_addNil (hk _ _ (Sto.Le.refl _) rfl)
  · intro ρ' τ pool rs hl hd hout hk
    obtain ⟨_, e11, rfl⟩ := hd 11 rfl
    refine o_lenI rfl rfl rfl z_slT67 e11 (hs2.up hl) ?_
    exact st_addNil (hk _ _ (Sto.Le.refl _) rfl)
  · intro ρ' τ pool rs hl hd hout hk
    refine o_move rfl rfl rfl ((hout 0 rfl).trans rfl) ?_
    exact st_addNil (hk _ _ (Sto.Le.refl _) rfl)
  · intro ρ' τ pool rs hl hd hout hk
    obtain ⟨_, e13, rfl⟩ := hd 13 rfl
    refine o_nilCheck rfl rfl rfl e13 ?_
    exact st_addNil (hk _ _ (Sto.Le.refl _) rfl)
  · intro ρ' τ pool rs hl hd hout hk
    obtain ⟨_, e14, rfl⟩ := hd 14 rfl
    refine o_fieldAddr rfl rfl rfl z_field258_0 e14 ?_
    exact st_addNil (hk _ _ (Sto.Le.refl _) rfl)
  · intro ρ' τ pool rs hl hd hout hk
    obtain ⟨_, e15, rfl⟩ := hd 15 rfl
    refine o_load (j := 0) (v := v1) rfl rfl rfl z_sc67 e15 rfl rfl ?_
    exact st_addNil (hk _ _ (Sto.Le.refl _) rfl)
  · intro ρ' τ pool rs hl hd hout hk
    obtain ⟨_, e16, rfl⟩ := hd 16 rfl
    refine o_lenI rfl rfl rfl z_slT67 e16 (hs2.up hl) ?_
    exact st_addNil (hk _ _ (Sto.Le.refl _) rfl)
  · intro ρ' τ pool rs hl hd hout hk
    obtain ⟨_, e3, rfl⟩ := hd 3 rfl
    obtain ⟨_, e7, rfl⟩ := hd 7 rfl
    obtain ⟨_, e12, rfl⟩ := hd 12 rfl
    obtain ⟨_, e17, rfl⟩ := hd 17 rfl
    refine o_slice (L := a0.2.1) (H := (a0.1.length : Int)) rfl rfl rfl z_slT67 rfl e3 (hs2.up hl) ⟨_, e7⟩ ⟨_, e12⟩ hf3 hf4 hf5 ⟨_, _, e17, hf6, hf7⟩ (by simp) (fun v8 hs9 => ?_)
    exact st_addNil (hk _ _ (Sto.Le.refl _) ⟨v8, rfl, hs9⟩)
  intro ρ' τ10 vals hl10 hv hout
  obtain ⟨l18, v8, t18, hs9⟩ := hv 18 (by decide)
  replace l18 : Eng.look ρ' 21 = some (v8) := l18.trans (congrArg some (Eq.symm t18))
  refine st_ord [0] [[(ba0, .cells [v1, .int .i64 a0.2.1, .int .i64 a0.2.2].toArray 258 (0, 0))]] rfl ?_
  refine st_env (ρ' := [(21, v8), (2, .slice none 0 0)]) ⟨l18, (hout 2 rfl).trans rfl, trivial⟩ ?_
  refine o_assign rfl rfl rfl rfl ?_
  refine st_end ?_
  obtain rfl := Eq.symm h
  exact st_ret (gs' := [[(ba0, .cells [v1, .int .i64 a0.2.1, .int .i64 a0.2.2].toArray 258 (0, 0))]]) Tryd.func203 rfl (List.Sublist.refl _) hl10 ⟨_, rfl, rfl, hs9⟩
theorem slices_Backward_byte_byte_1_ok {c0 : List Int} {bc0 : Nat} {v1 : Value} {σ0 : Sto} (hc0_0 : Cel σ0 ⟨bc0, 0, none⟩ (v1)) (hs2 : Sl (kI .u8) σ0 v1 c0) :
    IterV Tryd.prog (fun _ x vx => vx = [.int .i64 x.1, .int .u8 x.2]) (.func (.func 214) #[] [.pointer (some ⟨bc0, 0, none⟩)].toArray) σ0 [] (fun (_ : Unit) _ f => f = []) (slices_Backward_byte_byte_1 c0) := by
  intro S Y I y hyc hyo hIm hY s s' o hR σ g hle hIg
  obtain ⟨r, hr0⟩ : ∃ r, r = (s', o) := ⟨_, rfl⟩
  rw [← hr0] at hR
  have h := hR
  refine callV_of (caps := [.pointer (some ⟨bc0, 0, none⟩)]) z_en214 ?_
  refine call_of Tryd.func214 Tryd.ntmps214 rfl rfl (fun cs fs => ?_)
  refine st_ord [0] [g] rfl ?_
  refine st_seq ?_
  refine st_region ?_
  refine o_loadI (v := v1) rfl rfl rfl z_sc67 rfl (Cel.up hc0_0 hle) ?_
  refine o_lenI rfl rfl rfl z_slT67 rfl (hs2.up hle) ?_
  refine o_ibin (v := .int .i64 (IntKind.i64.wrap ((c0.length : Int) - 1))) rfl rfl rfl rfl rfl rfl ?_
  refine o_assign rfl rfl rfl rfl ?_
  refine st_end ?_
  obtain ⟨e3, hL3, hA3⟩ := h
  refine st_env (ρ' := [(0, y), (1, .pointer (some ⟨bc0, 0, none⟩)), (3, .int .i64 (IntKind.i64.wrap ((c0.length : Int) - 1)))]) ⟨rfl, rfl, rfl, trivial⟩ ?_
  refine st_loop hL3 (fun (s3 : S × Int) ρ τ3 gs => σ.Le τ3 ∧ ∃ (g4 : Grp), ρ = [(0, y), (1, .pointer (some ⟨bc0, 0, none⟩)), (3, .int .i64 s3.2)] ∧ gs = [g4] ∧ I s3.1 τ3 g4) ⟨Sto.Le.refl _, g, rfl, rfl, hIg⟩ ?_
  rintro s3 o3 h he3 ρ3 τ3 gs3 ⟨hl3, g4, rfl, rfl, hI5⟩ hn3
  refine st_seq ?_
  refine st_seq ?_
  refine st_region ?_
  refine o_move rfl rfl rfl rfl ?_
  refine o_ibin (v := .bool (decide (0 ≤ s3.2))) rfl rfl rfl rfl rfl rfl ?_
  refine st_end ?_
  refine st_cond rfl (fun hc => ?_) (fun hc => ?_)
  · replace h := (if_pos hc).mp h
    refine st_skip ?_
    refine st_seq ?_
    refine st_block ?_
    refine st_seq ?_
    refine st_region ?_
    refine o_move rfl rfl rfl rfl ?_
    refine o_move rfl rfl rfl rfl ?_
    refine o_loadI (v := v1) rfl rfl rfl z_sc67 rfl (Cel.up hc0_0 (hle.trans hl3)) ?_
    refine o_move rfl rfl rfl rfl ?_
    obtain ⟨q6, hf7, h⟩ := h
    refine o_index rfl rfl rfl z_slT67 rfl rfl (hs2.up (hle.trans hl3)) rfl hf7 (fun b8 of9 vs hc10 hrep => ?_)
    obtain rfl := hrep
    refine o_loadI (v := .int .u8 q6) rfl rfl rfl z_sc5 rfl (hc10 0 _ rfl) ?_
    obtain ⟨y11, u12, hy13, h⟩ := h
    refine st_call (foot := [g4]) rfl rfl rfl rfl rfl rfl (hY (s3.2, q6) s3.1 _ _ _ _ _ (hle.trans hl3) hy13 rfl hI5) ?_
    rintro vτ14 τ14 gsτ14 hl15 ⟨rfl, g16, rfl, hI17⟩
    refine o_not rfl rfl rfl rfl ?_
    refine st_end ?_
    refine st_cond rfl (fun hc => ?_) (fun hc => ?_)
    · replace h := (if_pos hc).mp h
      obtain rfl := he3 _ h
      replace h := hA3
      obtain rfl := Eq.symm h
      cases hr0
      exact st_ret (gs' := [g16, []]) Tryd.func214 rfl (by simp) (hl3.trans hl15) ⟨g16, _, rfl, hI17, rfl⟩
    · replace h := (if_neg (ne_t hc)).mp h
      refine st_skip ?_
      refine st_inBlock ?_
      refine st_region ?_
      refine o_move rfl rfl rfl rfl ?_
      refine o_ibin (v := .int .i64 (IntKind.i64.wrap (s3.2 - 1))) rfl rfl rfl rfl rfl rfl ?_
      refine o_assign rfl rfl rfl rfl ?_
      refine st_end ?_
      refine st_env (ρ' := [(0, y), (1, .pointer (some ⟨bc0, 0, none⟩)), (3, .int .i64 (IntKind.i64.wrap (s3.2 - 1)))]) ⟨rfl, rfl, rfl, trivial⟩ ?_
      exact hn3 _ _ _ _ h ⟨(hl3.trans hl15), g16, rfl, rfl, hI17⟩
  · replace h := (if_neg (ne_t hc)).mp h
    refine st_exit rfl ?_
    obtain rfl := he3 _ h
    replace h := hA3
    obtain rfl := Eq.symm h
    cases hr0
    exact st_fin (gs' := [g4, []]) Tryd.func214 rfl (by simp) hl3 ⟨g4, _, rfl, hI5, rfl⟩
theorem slices_Backward_byte_byte_ok {a0 : List Int} {v1 : Value} {r : (((S : Type) → ((Int × Int) → S → Bool × S → Prop) → S → S × Unit → Prop))} (h : slices_Backward_byte_byte a0 r) (σ : Sto) (hs2 : Sl (kI .u8) σ v1 a0) :
    Does Tryd.prog 202 [v1] σ [] (fun v τ gs => ∃ (f7 : Nat) (q8 : Array Value), gs = [] ∧ .func (.func f7) #[] q8 = v ∧ IterV Tryd.prog (fun _ x vx => vx = [.int .i64 x.1, .int .u8 x.2]) (.func (.func f7) #[] q8) τ [] (fun (_ : Unit) _ f => f = []) r) := by
  refine call_of Tryd.func202 Tryd.ntmps202 rfl rfl (fun cs fs => ?_)
  refine st_seq ?_
  refine st_region ?_
  refine o_box (cs := [v1]) rfl rfl rfl rfl (oneL_sl hs2) (fun b3 => ?_)
  refine o_assign rfl rfl rfl rfl ?_
  refine st_end ?_
  refine st_seq ?_
  refine st_region ?_
  refine st_freeze (fun τ4 hl5 hg6 => ?_)
  refine o_func rfl rfl rfl rfl rfl ?_
  refine o_assign rfl rfl rfl rfl ?_
  refine st_end ?_
  obtain rfl := Eq.symm h
  exact st_ret (gs' := []) Tryd.func202 rfl (List.Sublist.refl _) hl5 ⟨_, _, rfl, rfl, (slices_Backward_byte_byte_1_ok (cel_of hg6 rfl) (hs2.up hl5))⟩
theorem lens_Lens_word_1_ok {a0 : List Int} {c0 : Int} {c1 : Int} {v1 : Value} {bc0 : Nat} {bc1 : Nat} {r : Int × Int × Int} (h : lens_Lens_word_1 a0 c0 c1 r) (σ : Sto) (hs2 : Sl (kI .u8) σ v1 a0) :
    Does Tryd.prog 201 [v1, .pointer (some ⟨bc0, 0, none⟩), .pointer (some ⟨bc1, 0, none⟩)] σ [[(bc0, .cells [.int .i64 c0].toArray 3 (0, 0))], [(bc1, .cells [.int .u32 c1].toArray 33 (0, 0))]] (fun v τ gs => gs = [[(bc0, .cells [.int .i64 c0].toArray 3 (0, 0))], [(bc1, .cells [.int .u32 r.2.2].toArray 33 (0, 0))]] ∧ .tuple [.int .i64 r.1, .int .i64 r.2.1].toArray = v) := by
  refine call_of Tryd.func201 Tryd.ntmps201 rfl rfl (fun cs fs => ?_)
  refine st_seq ?_
  refine st_region ?_
  refine o_assign rfl rfl rfl rfl ?_
  refine o_assign rfl rfl rfl rfl ?_
  refine st_end ?_
  refine st_seq ?_
  refine st_seq ?_
  refine st_region ?_
  refine o_move rfl rfl rfl rfl ?_
  refine o_lenI rfl rfl rfl z_slT67 rfl hs2 ?_
  refine o_load (j := 0) (v := .int .i64 c0) rfl rfl rfl z_sc3 rfl rfl rfl ?_
  refine o_ibin (v := .bool (decide ((a0.length : Int) < c0))) rfl rfl rfl rfl rfl rfl ?_
  refine st_end ?_
  refine st_cond rfl (fun hc => ?_) (fun hc => ?_)
  · replace h := (if_pos hc).mp h
    refine st_seq ?_
    refine st_region ?_
    refine o_assign rfl rfl rfl rfl ?_
    refine o_assign rfl rfl rfl rfl ?_
    refine st_end ?_
    obtain rfl := Eq.symm h
    exact st_ret (gs' := [[(bc0, .cells [.int .i64 c0].toArray 3 (0, 0))], [(bc1, .cells [.int .u32 c1].toArray 33 (0, 0))]]) Tryd.func201 rfl (List.Sublist.refl _) (Sto.Le.refl _) ⟨rfl, rfl⟩
  · replace h := (if_neg (ne_t hc)).mp h
    refine st_skip ?_
    refine st_seq ?_
    refine st_seq ?_
    refine st_region ?_
    refine o_move rfl rfl rfl rfl ?_
    refine o_load (j := 0) (v := .int .i64 c0) rfl rfl rfl z_sc3 rfl rfl rfl ?_
    obtain ⟨hf3, h⟩ := h
    obtain ⟨hf4, h⟩ := h
    refine o_slice (L := 0) (H := c0) rfl rfl rfl z_slT67 rfl rfl hs2 rfl ⟨_, rfl⟩ (by decide) hf3 hf4 trivial (by simp) (fun v5 hs6 => ?_)
    obtain ⟨r7, hr8, h⟩ := h
    refine st_call (foot := []) rfl rfl rfl rfl rfl rfl (callV_fn z_en202 (slices_Backward_byte_byte_ok hr8 σ hs6)) ?_
    rintro vτ9 τ9 gsτ9 hl10 ⟨f11, q12, rfl, rfl, hit13⟩
    refine st_end ?_
    refine st_block ?_
    obtain ⟨t14, w14, hR14, hA14⟩ := h
    refine st_env (ρ' := [(1, .pointer (some ⟨bc0, 0, none⟩)), (2, .pointer (some ⟨bc1, 0, none⟩)), (4, .int .i64 0), (5, .int .i64 0), (15, .func (.func f11) #[] q12)]) ⟨rfl, rfl, rfl, rfl, rfl, trivial⟩ ?_
    refine st_addNil ?_
    refine st_range (B := lens_Lens_word_1_l1) (s0 := c1) ranges_fctx rfl hit13 (Sto.Le.refl _) hR14 rfl (fun _ _ _ h => by cases h; rfl) (fun (s14 : Int) τ14 gs => τ9.Le τ14 ∧ gs = [[(bc0, .cells [.int .i64 c0].toArray 3 (0, 0))], [(bc1, .cells [.int .u32 s14].toArray 33 (0, 0))]]) (fun _ _ _ _ => False) (fun _ _ _ _ hl ⟨hb, hg⟩ => ⟨hb.trans hl, hg⟩) (fun _ _ _ _ _ _ h => h.elim) ⟨Sto.Le.refl _, rfl⟩ ?_ ?_ ?_
    · rintro x14 s14 o14 τ14 gs14 vx14 hl14 h rfl ⟨hb14, rfl⟩ l14 rc14 caller14 cs14 fs14
      refine st_region ?_
      refine o_assign rfl rfl rfl rfl ?_
      refine st_end ?_
      refine st_begin ?_
      refine st_block ?_
      refine st_region ?_
      refine o_load (j := 1) (v := .int .u32 s14) rfl rfl rfl z_sc33 rfl rfl rfl ?_
      refine o_shl rfl rfl rfl rfl rfl (by decide) ?_
      refine o_move rfl rfl rfl rfl ?_
      refine o_conv rfl rfl rfl Tryd.underlying5 Tryd.underlying33 rfl ?_
      refine o_ibin (v := .int .u32 (ior .u32 (ishl .u32 s14 8) (IntKind.u32.wrap x14.2))) rfl rfl rfl rfl rfl rfl ?_
      refine o_store (j := 1) (vs := [.int .u32 (ior .u32 (ishl .u32 s14 8) (IntKind.u32.wrap x14.2))]) (cs' := [.int .u32 (ior .u32 (ishl .u32 s14 8) (IntKind.u32.wrap x14.2))]) rfl rfl rfl z_size33 rfl rfl rfl (ones_cons rfl ones_nil) rfl rfl rfl ?_
      refine st_gs [[(bc0, .cells [.int .i64 c0].toArray 3 (0, 0))], [(bc1, .cells [.int .u32 (ior .u32 (ishl .u32 s14 8) (IntKind.u32.wrap x14.2))].toArray 33 (0, 0))]] rfl ?_
      refine st_end ?_
      refine st_inBlock ?_
      exact st_rend (List.Sublist.refl _) (Sto.Le.refl _) ⟨_, h, hl14, rfl⟩
    · rintro p15 τ16 gs14 f14 ht hl17 ⟨hb, rfl⟩ rfl
      subst ht
      replace h := hA14
      refine st_ord [1, 1] [[(bc0, .cells [.int .i64 c0].toArray 3 (0, 0))], [(bc1, .cells [.int .u32 p15].toArray 33 (0, 0))]] rfl ?_
      refine st_inBlock ?_
      refine st_seq ?_
      refine st_region ?_
      refine o_load (j := 0) (v := .int .i64 c0) rfl rfl rfl z_sc3 rfl rfl rfl ?_
      refine o_assign rfl rfl rfl rfl ?_
      refine o_assign rfl rfl rfl rfl ?_
      refine st_end ?_
      obtain rfl := Eq.symm h
      exact st_ret (gs' := [[(bc0, .cells [.int .i64 c0].toArray 3 (0, 0))], [(bc1, .cells [.int .u32 p15].toArray 33 (0, 0))]]) Tryd.func201 rfl (List.Sublist.refl _) (hl10.trans hl17) ⟨rfl, rfl⟩
    · exact fun _ _ _ _ _ _ _ h => h.elim
theorem lens_Lens_read__lens_Lens_word_1_ok {a0 : List Int × Int × Int} {a1_0 : Int} {a1_1 : Int} {ba0 : Nat} {v1 : Value} {ba1_0 : Nat} {ba1_1 : Nat} {r : Bool × (List Int × Int × Int) × Int} (h : lens_Lens_read__lens_Lens_word_1 a0 a1_0 a1_1 r) (σ : Sto) (hs2 : Sl (kI .u8) σ v1 a0.1) :
    Does Tryd.prog 200 [.pointer (some ⟨ba0, 0, none⟩), .func (.func 201) #[] [.pointer (some ⟨ba1_0, 0, none⟩), .pointer (some ⟨ba1_1, 0, none⟩)].toArray] σ [[(ba0, .cells [v1, .int .i64 a0.2.1, .int .i64 a0.2.2].toArray 258 (0, 0))], [(ba1_0, .cells [.int .i64 a1_0].toArray 3 (0, 0))], [(ba1_1, .cells [.int .u32 a1_1].toArray 33 (0, 0))]] (fun v τ gs => ∃ (v13 : Value), gs = [[(ba0, .cells [v13, .int .i64 r.2.1.2.1, .int .i64 r.2.1.2.2].toArray 258 (0, 0))], [(ba1_0, .cells [.int .i64 a1_0].toArray 3 (0, 0))], [(ba1_1, .cells [.int .u32 r.2.2].toArray 33 (0, 0))]] ∧ .bool r.1 = v ∧ Sl (kI .u8) τ v13 r.2.1.1) := by
  refine call_of Tryd.func200 Tryd.ntmps200 rfl rfl (fun cs fs => ?_)
  refine st_seq ?_
  refine st_region ?_
  refine o_assign rfl rfl rfl rfl ?_
  refine st_end ?_
  refine st_seq ?_
  refine st_seq ?_
  refine st_region ?_
  refine o_move rfl rfl rfl rfl ?_
  refine o_ptrNil (b := false) rfl rfl rfl Tryd.underlying233 rfl rfl rfl ?_
  refine o_move rfl rfl rfl rfl ?_
  refine o_move rfl rfl rfl rfl ?_
  refine o_nilCheck rfl rfl rfl rfl ?_
  refine o_fieldAddr rfl rfl rfl z_field258_2 rfl ?_
  refine o_load (j := 0) (v := .int .i64 a0.2.2) rfl rfl rfl z_sc28 rfl rfl rfl ?_
  refine o_ibin (v := .bool (!(decide (a0.2.2 = 0)))) rfl rfl rfl rfl rfl rfl ?_
  refine o_pick rfl rfl rfl rfl rfl ?_
  refine st_end ?_
  refine st_cond rfl (fun hc => ?_) (fun hc => ?_)
  · replace h := (if_pos hc).mp h
    refine st_seq ?_
    refine st_region ?_
    refine o_assign rfl rfl rfl rfl ?_
    refine st_end ?_
    obtain rfl := Eq.symm h
    exact st_ret (gs' := [[(ba0, .cells [v1, .int .i64 a0.2.1, .int .i64 a0.2.2].toArray 258 (0, 0))], [(ba1_0, .cells [.int .i64 a1_0].toArray 3 (0, 0))], [(ba1_1, .cells [.int .u32 a1_1].toArray 33 (0, 0))]]) Tryd.func200 rfl (List.Sublist.refl _) (Sto.Le.refl _) ⟨_, rfl, rfl, hs2⟩
  · replace h := (if_neg (ne_t hc)).mp h
    refine st_skip ?_
    refine st_seq ?_
    refine st_region ?_
    refine o_move rfl rfl rfl rfl ?_
    refine o_move rfl rfl rfl rfl ?_
    obtain ⟨r3, hr4, h⟩ := h
    refine st_call (foot := [[(ba0, .cells [v1, .int .i64 a0.2.1, .int .i64 a0.2.2].toArray 258 (0, 0))]]) rfl rfl rfl rfl rfl rfl (callV_fn z_en203 (lens_Lens_left_ok hr4 σ hs2)) ?_
    rintro vτ5 τ5 gsτ5 hl6 ⟨v7, rfl, rfl, hs8⟩
    obtain ⟨r9, hr10, h⟩ := h
    refine st_ord [1, 1, 0] [[(ba1_0, .cells [.int .i64 a1_0].toArray 3 (0, 0))], [(ba1_1, .cells [.int .u32 a1_1].toArray 33 (0, 0))], [(ba0, .cells [v1, .int .i64 a0.2.1, .int .i64 a0.2.2].toArray 258 (0, 0))]] rfl ?_
    refine st_call (foot := [[(ba1_0, .cells [.int .i64 a1_0].toArray 3 (0, 0))], [(ba1_1, .cells [.int .u32 a1_1].toArray 33 (0, 0))]]) rfl rfl rfl rfl rfl rfl (callV_of2 (caps := [.pointer (some ⟨ba1_0, 0, none⟩), .pointer (some ⟨ba1_1, 0, none⟩)]) z_en201 (lens_Lens_word_1_ok hr10 τ5 hs8) rfl) ?_
    rintro vτ11 τ11 gsτ11 hl12 ⟨rfl, rfl⟩
    refine o_move rfl rfl rfl rfl ?_
    refine o_extract rfl rfl rfl rfl rfl ?_
    refine o_extract rfl rfl rfl rfl rfl ?_
    refine o_assign rfl rfl rfl rfl ?_
    refine o_assign rfl rfl rfl rfl ?_
    refine st_end ?_
    refine st_seq ?_
    refine st_seq ?_
    refine st_region ?_
    refine o_move rfl rfl rfl rfl ?_
    refine o_ibin (v := .bool (!(decide (r9.2.1 = 0)))) rfl rfl rfl rfl rfl rfl ?_
    refine st_end ?_
    refine st_cond rfl (fun hc => ?_) (fun hc => ?_)
    · replace h := (if_pos hc).mp h
      refine st_seq ?_
      refine st_region ?_
      refine o_move rfl rfl rfl rfl ?_
      refine o_move rfl rfl rfl rfl ?_
      refine o_nilCheck rfl rfl rfl rfl ?_
      refine o_fieldAddr rfl rfl rfl z_field258_2 rfl ?_
      refine o_store (j := 2) (vs := [.int .i64 r9.2.1]) (cs' := [v1, .int .i64 a0.2.1, .int .i64 r9.2.1]) rfl rfl rfl z_size28 rfl rfl rfl (ones_cons rfl ones_nil) rfl rfl rfl ?_
      refine st_gs [[(ba1_0, .cells [.int .i64 a1_0].toArray 3 (0, 0))], [(ba1_1, .cells [.int .u32 r9.2.2].toArray 33 (0, 0))], [(ba0, .cells [v1, .int .i64 a0.2.1, .int .i64 r9.2.1].toArray 258 (0, 0))]] rfl ?_
      refine st_end ?_
      refine st_seq ?_
      refine st_region ?_
      refine o_assign rfl rfl rfl rfl ?_
      refine st_end ?_
      refine st_ord [2, 0, 0] [[(ba0, .cells [v1, .int .i64 a0.2.1, .int .i64 r9.2.1].toArray 258 (0, 0))], [(ba1_0, .cells [.int .i64 a1_0].toArray 3 (0, 0))], [(ba1_1, .cells [.int .u32 r9.2.2].toArray 33 (0, 0))]] rfl ?_
      obtain rfl := Eq.symm h
      exact st_ret (gs' := [[(ba0, .cells [v1, .int .i64 a0.2.1, .int .i64 r9.2.1].toArray 258 (0, 0))], [(ba1_0, .cells [.int .i64 a1_0].toArray 3 (0, 0))], [(ba1_1, .cells [.int .u32 r9.2.2].toArray 33 (0, 0))]]) Tryd.func200 rfl (List.Sublist.refl _) (hl6.trans hl12) ⟨_, rfl, rfl, (hs2.up (hl6.trans hl12))⟩
    · replace h := (if_neg (ne_t hc)).mp h
      refine st_skip ?_
      refine st_seq ?_
      refine st_region ?_
      refine o_move rfl rfl rfl rfl ?_
      refine o_nilCheck rfl rfl rfl rfl ?_
      refine o_fieldAddr rfl rfl rfl z_field258_1 rfl ?_
      refine o_load (j := 2) (v := .int .i64 a0.2.1) rfl rfl rfl z_sc3 rfl rfl rfl ?_
      refine o_move rfl rfl rfl rfl ?_
      refine o_ibin (v := .int .i64 (IntKind.i64.wrap (a0.2.1 + r9.1))) rfl rfl rfl rfl rfl rfl ?_
      refine o_nilCheck rfl rfl rfl rfl ?_
      refine o_fieldAddr rfl rfl rfl z_field258_1 rfl ?_
      refine o_store (j := 2) (vs := [.int .i64 (IntKind.i64.wrap (a0.2.1 + r9.1))]) (cs' := [v1, .int .i64 (IntKind.i64.wrap (a0.2.1 + r9.1)), .int .i64 a0.2.2]) rfl rfl rfl z_size3 rfl rfl rfl (ones_cons rfl ones_nil) rfl rfl rfl ?_
      refine st_gs [[(ba1_0, .cells [.int .i64 a1_0].toArray 3 (0, 0))], [(ba1_1, .cells [.int .u32 r9.2.2].toArray 33 (0, 0))], [(ba0, .cells [v1, .int .i64 (IntKind.i64.wrap (a0.2.1 + r9.1)), .int .i64 a0.2.2].toArray 258 (0, 0))]] rfl ?_
      refine st_end ?_
      refine st_seq ?_
      refine st_region ?_
      refine o_assign rfl rfl rfl rfl ?_
      refine st_end ?_
      refine st_ord [2, 0, 0] [[(ba0, .cells [v1, .int .i64 (IntKind.i64.wrap (a0.2.1 + r9.1)), .int .i64 a0.2.2].toArray 258 (0, 0))], [(ba1_0, .cells [.int .i64 a1_0].toArray 3 (0, 0))], [(ba1_1, .cells [.int .u32 r9.2.2].toArray 33 (0, 0))]] rfl ?_
      obtain rfl := Eq.symm h
      exact st_ret (gs' := [[(ba0, .cells [v1, .int .i64 (IntKind.i64.wrap (a0.2.1 + r9.1)), .int .i64 a0.2.2].toArray 258 (0, 0))], [(ba1_0, .cells [.int .i64 a1_0].toArray 3 (0, 0))], [(ba1_1, .cells [.int .u32 r9.2.2].toArray 33 (0, 0))]]) Tryd.func200 rfl (List.Sublist.refl _) (hl6.trans hl12) ⟨_, rfl, rfl, (hs2.up (hl6.trans hl12))⟩
theorem lens_Lens_word_ok {a0 : List Int × Int × Int} {a1 : Int} {ba0 : Nat} {v1 : Value} {r : Int × (List Int × Int × Int)} (h : lens_Lens_word a0 a1 r) (σ : Sto) (hs2 : Sl (kI .u8) σ v1 a0.1) :
    Does Tryd.prog 178 [.pointer (some ⟨ba0, 0, none⟩), .int .i64 a1] σ [[(ba0, .cells [v1, .int .i64 a0.2.1, .int .i64 a0.2.2].toArray 258 (0, 0))]] (fun v τ gs => ∃ (v11 : Value), gs = [[(ba0, .cells [v11, .int .i64 r.2.2.1, .int .i64 r.2.2.2].toArray 258 (0, 0))]] ∧ .int .u32 r.1 = v ∧ Sl (kI .u8) τ v11 r.2.1) := by
  refine call_of Tryd.func178 Tryd.ntmps178 rfl rfl (fun cs fs => ?_)
  refine st_seq ?_
  refine st_region ?_
  refine o_box (cs := [.int .i64 a1]) rfl rfl rfl rfl rfl (fun b3 => ?_)
  refine o_assign rfl rfl rfl rfl ?_
  refine st_end ?_
  refine st_seq ?_
  refine st_region ?_
  refine o_alloc rfl rfl rfl z_zero33 (fun b4 => ?_)
  refine o_store (j := 0) (vs := [.int .u32 0]) (cs' := [.int .u32 0]) rfl rfl rfl z_size33 rfl rfl rfl (ones_cons rfl ones_nil) rfl rfl rfl ?_
  refine st_gs [[(b4, .cells [.int .u32 0].toArray 33 (0, 0))], [(b3, .cells [.int .i64 a1].toArray 3 (0, 0))], [(ba0, .cells [v1, .int .i64 a0.2.1, .int .i64 a0.2.2].toArray 258 (0, 0))]] rfl ?_
  refine st_end ?_
  refine st_seq ?_
  refine st_region ?_
  refine o_move rfl rfl rfl rfl ?_
  refine o_func rfl rfl rfl rfl rfl ?_
  obtain ⟨r5, hr6, h⟩ := h
  refine st_ord [2, 1, 0] [[(ba0, .cells [v1, .int .i64 a0.2.1, .int .i64 a0.2.2].toArray 258 (0, 0))], [(b3, .cells [.int .i64 a1].toArray 3 (0, 0))], [(b4, .cells [.int .u32 0].toArray 33 (0, 0))]] rfl ?_
  refine st_call (foot := [[(ba0, .cells [v1, .int .i64 a0.2.1, .int .i64 a0.2.2].toArray 258 (0, 0))], [(b3, .cells [.int .i64 a1].toArray 3 (0, 0))], [(b4, .cells [.int .u32 0].toArray 33 (0, 0))]]) rfl rfl rfl rfl rfl rfl (callV_fn z_en200 (lens_Lens_read__lens_Lens_word_1_ok hr6 σ hs2)) ?_
  rintro vτ7 τ7 gsτ7 hl8 ⟨v9, rfl, rfl, hs10⟩
  refine st_end ?_
  refine st_seq ?_
  refine st_region ?_
  refine o_load (j := 2) (v := .int .u32 r5.2.2) rfl rfl rfl z_sc33 rfl rfl rfl ?_
  refine o_assign rfl rfl rfl rfl ?_
  refine st_end ?_
  refine st_ord [0] [[(ba0, .cells [v9, .int .i64 r5.2.1.2.1, .int .i64 r5.2.1.2.2].toArray 258 (0, 0))]] rfl ?_
  obtain rfl := Eq.symm h
  exact st_ret (gs' := [[(ba0, .cells [v9, .int .i64 r5.2.1.2.1, .int .i64 r5.2.1.2.2].toArray 258 (0, 0))]]) Tryd.func178 rfl (List.Sublist.refl _) hl8 ⟨_, rfl, rfl, hs10⟩
theorem lens_Lens_U8_ok {a0 : List Int × Int × Int} {ba0 : Nat} {v1 : Value} {r : Int × (List Int × Int × Int)} (h : lens_Lens_U8 a0 r) (σ : Sto) (hs2 : Sl (kI .u8) σ v1 a0.1) :
    Does Tryd.prog 156 [.pointer (some ⟨ba0, 0, none⟩)] σ [[(ba0, .cells [v1, .int .i64 a0.2.1, .int .i64 a0.2.2].toArray 258 (0, 0))]] (fun v τ gs => ∃ (v9 : Value), gs = [[(ba0, .cells [v9, .int .i64 r.2.2.1, .int .i64 r.2.2.2].toArray 258 (0, 0))]] ∧ .int .u8 r.1 = v ∧ Sl (kI .u8) τ v9 r.2.1) := by
  refine call_of Tryd.func156 Tryd.ntmps156 rfl rfl (fun cs fs => ?_)
  refine st_seq ?_
  refine st_region ?_
  refine o_assign rfl rfl rfl rfl ?_
  refine st_end ?_
  refine st_seq ?_
  refine st_region ?_
  refine o_move rfl rfl rfl rfl ?_
  obtain ⟨r3, hr4, h⟩ := h
  refine st_call (foot := [[(ba0, .cells [v1, .int .i64 a0.2.1, .int .i64 a0.2.2].toArray 258 (0, 0))]]) rfl rfl rfl rfl rfl rfl (callV_fn z_en178 (lens_Lens_word_ok hr4 σ hs2)) ?_
  rintro vτ5 τ5 gsτ5 hl6 ⟨v7, rfl, rfl, hs8⟩
  refine o_conv rfl rfl rfl Tryd.underlying33 Tryd.underlying5 rfl ?_
  refine o_assign rfl rfl rfl rfl ?_
  refine st_end ?_
  obtain rfl := Eq.symm h
  exact st_ret (gs' := [[(ba0, .cells [v7, .int .i64 r3.2.2.1, .int .i64 r3.2.2.2].toArray 258 (0, 0))]]) Tryd.func156 rfl (List.Sublist.refl _) hl6 ⟨_, rfl, rfl, hs8⟩
theorem lens_Lens_U32_ok {a0 : List Int × Int × Int} {ba0 : Nat} {v1 : Value} {r : Int × (List Int × Int × Int)} (h : lens_Lens_U32 a0 r) (σ : Sto) (hs2 : Sl (kI .u8) σ v1 a0.1) :
    Does Tryd.prog 157 [.pointer (some ⟨ba0, 0, none⟩)] σ [[(ba0, .cells [v1, .int .i64 a0.2.1, .int .i64 a0.2.2].toArray 258 (0, 0))]] (fun v τ gs => ∃ (v9 : Value), gs = [[(ba0, .cells [v9, .int .i64 r.2.2.1, .int .i64 r.2.2.2].toArray 258 (0, 0))]] ∧ .int .u32 r.1 = v ∧ Sl (kI .u8) τ v9 r.2.1) := by
  refine call_of Tryd.func157 Tryd.ntmps157 rfl rfl (fun cs fs => ?_)
  refine st_seq ?_
  refine st_region ?_
  refine o_assign rfl rfl rfl rfl ?_
  refine st_end ?_
  refine st_seq ?_
  refine st_region ?_
  refine o_move rfl rfl rfl rfl ?_
  obtain ⟨r3, hr4, h⟩ := h
  refine st_call (foot := [[(ba0, .cells [v1, .int .i64 a0.2.1, .int .i64 a0.2.2].toArray 258 (0, 0))]]) rfl rfl rfl rfl rfl rfl (callV_fn z_en178 (lens_Lens_word_ok hr4 σ hs2)) ?_
  rintro vτ5 τ5 gsτ5 hl6 ⟨v7, rfl, rfl, hs8⟩
  refine o_assign rfl rfl rfl rfl ?_
  refine st_end ?_
  obtain rfl := Eq.symm h
  exact st_ret (gs' := [[(ba0, .cells [v7, .int .i64 r3.2.2.1, .int .i64 r3.2.2.2].toArray 258 (0, 0))]]) Tryd.func157 rfl (List.Sublist.refl _) hl6 ⟨_, rfl, rfl, hs8⟩
theorem lens_Lens_Err_ok {a0 : List Int × Int × Int} {ba0 : Nat} {v1 : Value} {r : Int} (h : lens_Lens_Err a0 r) (σ : Sto) (hs2 : Sl (kI .u8) σ v1 a0.1) :
    Does Tryd.prog 179 [.pointer (some ⟨ba0, 0, none⟩)] σ [[(ba0, .cells [v1, .int .i64 a0.2.1, .int .i64 a0.2.2].toArray 258 (0, 0))]] (fun v τ gs => gs = [[(ba0, .cells [v1, .int .i64 a0.2.1, .int .i64 a0.2.2].toArray 258 (0, 0))]] ∧ .int .i64 r = v) := by
  refine call_of Tryd.func179 Tryd.ntmps179 rfl rfl (fun cs fs => ?_)
  refine st_seq ?_
  refine st_region ?_
  refine o_assign rfl rfl rfl rfl ?_
  refine st_end ?_
  refine st_seq ?_
  refine st_seq ?_
  refine st_region ?_
  refine o_move rfl rfl rfl rfl ?_
  refine o_ptrNil (b := false) rfl rfl rfl Tryd.underlying233 rfl rfl rfl ?_
  refine st_end ?_
  refine st_condF rfl ?_
  refine st_skip ?_
  refine st_seq ?_
  refine st_region ?_
  refine o_move rfl rfl rfl rfl ?_
  refine o_nilCheck rfl rfl rfl rfl ?_
  refine o_fieldAddr rfl rfl rfl z_field258_2 rfl ?_
  refine o_load (j := 0) (v := .int .i64 a0.2.2) rfl rfl rfl z_sc28 rfl rfl rfl ?_
  refine o_assign rfl rfl rfl rfl ?_
  refine st_end ?_
  obtain rfl := Eq.symm h
  exact st_ret (gs' := [[(ba0, .cells [v1, .int .i64 a0.2.1, .int .i64 a0.2.2].toArray 258 (0, 0))]]) Tryd.func179 rfl (List.Sublist.refl _) (Sto.Le.refl _) ⟨rfl, rfl⟩
theorem lens_Lens_Left_ok {a0 : List Int × Int × Int} {ba0 : Nat} {v1 : Value} {r : Int} (h : lens_Lens_Left a0 r) (σ : Sto) (hs2 : Sl (kI .u8) σ v1 a0.1) :
    Does Tryd.prog 180 [.pointer (some ⟨ba0, 0, none⟩)] σ [[(ba0, .cells [v1, .int .i64 a0.2.1, .int .i64 a0.2.2].toArray 258 (0, 0))]] (fun v τ gs => gs = [[(ba0, .cells [v1, .int .i64 a0.2.1, .int .i64 a0.2.2].toArray 258 (0, 0))]] ∧ .int .i64 r = v) := by
  refine call_of Tryd.func180 Tryd.ntmps180 rfl rfl (fun cs fs => ?_)
  refine st_seq ?_
  refine st_region ?_
  refine o_assign rfl rfl rfl rfl ?_
  refine st_end ?_
  refine st_seq ?_
  refine st_seq ?_
  refine st_region ?_
  refine o_move rfl rfl rfl rfl ?_
  refine o_ptrNil (b := false) rfl rfl rfl Tryd.underlying233 rfl rfl rfl ?_
  refine st_end ?_
  refine st_condF rfl ?_
  refine st_skip ?_
  refine st_seq ?_
  refine st_region ?_
  refine o_move rfl rfl rfl rfl ?_
  obtain ⟨r3, hr4, h⟩ := h
  refine st_call (foot := [[(ba0, .cells [v1, .int .i64 a0.2.1, .int .i64 a0.2.2].toArray 258 (0, 0))]]) rfl rfl rfl rfl rfl rfl (callV_fn z_en203 (lens_Lens_left_ok hr4 σ hs2)) ?_
  rintro vτ5 τ5 gsτ5 hl6 ⟨v7, rfl, rfl, hs8⟩
  refine o_lenI rfl rfl rfl z_slT67 rfl hs8 ?_
  refine o_assign rfl rfl rfl rfl ?_
  refine st_end ?_
  obtain rfl := Eq.symm h
  exact st_ret (gs' := [[(ba0, .cells [v1, .int .i64 a0.2.1, .int .i64 a0.2.2].toArray 258 (0, 0))]]) Tryd.func180 rfl (List.Sublist.refl _) hl6 ⟨rfl, rfl⟩
theorem lens_Lens_End_ok {a0 : List Int × Int × Int} {ba0 : Nat} {v1 : Value} {r : Int} (h : lens_Lens_End a0 r) (σ : Sto) (hs2 : Sl (kI .u8) σ v1 a0.1) :
    Does Tryd.prog 158 [.pointer (some ⟨ba0, 0, none⟩)] σ [[(ba0, .cells [v1, .int .i64 a0.2.1, .int .i64 a0.2.2].toArray 258 (0, 0))]] (fun v τ gs => gs = [[(ba0, .cells [v1, .int .i64 a0.2.1, .int .i64 a0.2.2].toArray 258 (0, 0))]] ∧ .int .i64 r = v) := by
  refine call_of Tryd.func158 Tryd.ntmps158 rfl rfl (fun cs fs => ?_)
  refine st_seq ?_
  refine st_region ?_
  refine o_assign rfl rfl rfl rfl ?_
  refine st_end ?_
  refine st_seq ?_
  refine st_seq ?_
  refine st_region ?_
  refine o_move rfl rfl rfl rfl ?_
  obtain ⟨r3, hr4, h⟩ := h
  refine st_call (foot := [[(ba0, .cells [v1, .int .i64 a0.2.1, .int .i64 a0.2.2].toArray 258 (0, 0))]]) rfl rfl rfl rfl rfl rfl (callV_fn z_en179 (lens_Lens_Err_ok hr4 σ hs2)) ?_
  rintro vτ5 τ5 gsτ5 hl6 ⟨rfl, rfl⟩
  refine o_assign rfl rfl rfl rfl ?_
  refine st_end ?_
  refine st_seq ?_
  refine st_cut (fun ρ τ7 gs => ∃ (s7 : Bool), lens_Lens_End_j1 r3 s7 r ∧ τ5.Le τ7 ∧ ρ = [(2, .int .i64 0), (3, .int .i64 r3), (12, .bool s7)] ∧ gs = [[(ba0, .cells [v1, .int .i64 a0.2.1, .int .i64 a0.2.2].toArray 258 (0, 0))]]) ?_ (fun hk7 => ?_)
  · rintro ρ7 τ7 gs7 ⟨s7, h, hl7, rfl, rfl⟩
    refine st_cond rfl (fun hc => ?_) (fun hc => ?_)
    · replace h := (if_pos hc).mp h
      refine st_seq ?_
      refine st_region ?_
      refine o_move rfl rfl rfl rfl ?_
      refine o_assign rfl rfl rfl rfl ?_
      refine st_end ?_
      obtain rfl := Eq.symm h
      exact st_ret (gs' := [[(ba0, .cells [v1, .int .i64 a0.2.1, .int .i64 a0.2.2].toArray 258 (0, 0))]]) Tryd.func158 rfl (List.Sublist.refl _) (hl6.trans hl7) ⟨rfl, rfl⟩
    · replace h := (if_neg (ne_t hc)).mp h
      refine st_skip ?_
      refine st_seq ?_
      refine st_region ?_
      refine o_assign rfl rfl rfl rfl ?_
      refine st_end ?_
      obtain rfl := Eq.symm h
      exact st_ret (gs' := [[(ba0, .cells [v1, .int .i64 a0.2.1, .int .i64 a0.2.2].toArray 258 (0, 0))]]) Tryd.func158 rfl (List.Sublist.refl _) (hl6.trans hl7) ⟨rfl, rfl⟩
  refine st_region ?_
  refine o_move rfl rfl rfl rfl ?_
  refine o_ibin (v := .bool (!(decide (r3 = 0)))) rfl rfl rfl rfl rfl rfl ?_
  refine o_moveB rfl rfl rfl rfl (fun hc => ?_) (fun hc => ?_)
  · replace h := (if_pos hc).mp h
    refine st_pass rfl rfl rfl rfl rfl rfl ?_
    refine st_pass rfl rfl rfl rfl rfl rfl ?_
    refine st_pass rfl rfl rfl rfl rfl rfl ?_
    refine o_pick rfl rfl rfl rfl rfl ?_
    refine st_end ?_
    refine st_env (ρ' := [(2, .int .i64 0), (3, .int .i64 r3), (12, .bool true)]) ⟨rfl, rfl, rfl, trivial⟩ ?_
    exact hk7 _ _ _ ⟨true, h, (Sto.Le.refl _), rfl, rfl⟩
  · replace h := (if_neg (ne_t hc)).mp h
    refine o_move rfl rfl rfl rfl ?_
    obtain ⟨r8, hr9, h⟩ := h
    refine st_call (foot := [[(ba0, .cells [v1, .int .i64 a0.2.1, .int .i64 a0.2.2].toArray 258 (0, 0))]]) rfl rfl rfl rfl rfl rfl (callV_fn z_en180 (lens_Lens_Left_ok hr9 τ5 (hs2.up hl6))) ?_
    rintro vτ10 τ10 gsτ10 hl11 ⟨rfl, rfl⟩
    refine o_ibin (v := .bool (decide (r8 = 0))) rfl rfl rfl rfl rfl rfl ?_
    refine o_pick rfl rfl rfl rfl rfl ?_
    refine st_end ?_
    refine st_env (ρ' := [(2, .int .i64 0), (3, .int .i64 r3), (12, .bool (decide (r8 = 0)))]) ⟨rfl, rfl, rfl, trivial⟩ ?_
    exact hk7 _ _ _ ⟨(decide (r8 = 0)), h, hl11, rfl, rfl⟩
end Go.Rel
