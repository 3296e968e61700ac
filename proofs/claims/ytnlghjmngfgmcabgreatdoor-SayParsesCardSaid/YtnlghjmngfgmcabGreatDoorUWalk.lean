import Derived.Test.YtnlghjmngfgmcabGreatDoorURel
import Derived.Test.YtnlghjmngfgmcabGreatDoorUFacts
import Derived.Test.YtnlghjmngfgmcabGreatDoorUWalk0
/-! The walks. -/
set_option linter.unusedVariables false
set_option linter.unusedSimpArgs false
set_option maxRecDepth 4000
set_option maxHeartbeats 4000000
namespace Go.Rel
open Go Go.Eng Go.Proofs
theorem unicode_utf8_DecodeLastRuneInString_ok {a0 : ByteArray} {r : Int × Int} (h : unicode_utf8_DecodeLastRuneInString a0 r) (σ : Sto)  :
    Does Tryz.prog 166 [.string a0] σ [] (fun v τ gs => gs = [] ∧ .tuple [.int .i32 r.1, .int .i64 r.2].toArray = v) := by
 refine call_of Tryz.func166 Tryz.ntmps166 rfl rfl (fun cs fs => ?_)
 refine Z 17 rfl ?_
 refine st_if rfl h (fun h => ?_) (fun h => ?_)
 ·refine Z 5 rfl ?_
  obtain rfl := Eq.symm h
  exact st_ret (gs' := []) Tryz.func166 rfl (List.Sublist.refl _) (Sto.Le.refl _) ⟨rfl, rfl⟩
 ·refine Z 11 rfl ?_
  obtain ⟨q1, hf2, h⟩ := h
  refine o_indexS rfl rfl rfl Tryz.underlying9 rfl rfl hf2 ?_
  refine Z 9 rfl ?_
  refine st_if rfl h (fun h => ?_) (fun h => ?_)
  ·refine Z 6 rfl ?_
   obtain rfl := Eq.symm h
   exact st_ret (gs' := []) Tryz.func166 rfl (List.Sublist.refl _) (Sto.Le.refl _) ⟨rfl, rfl⟩
  ·refine Z 9 rfl ?_
   refine st_cut (fun ρ τ3 gs => ∃ (s3 : Int), unicode_utf8_DecodeLastRuneInString_j1 a0 s3 r ∧ σ.Le τ3 ∧ ESub ρ [(0, .string a0), (2, .int .i32 (IntKind.i32.wrap q1)), (3, .int .i64 0), (4, .int .i64 (a0.size : Int)), (5, .int .i64 s3)] ∧ gs = []) ?_ (fun hk3 => ?_)
   ·rintro ρ3 τ3 gs3 ⟨s3, h, hl3, hρ, rfl⟩
    refine st_es hρ ?_
    refine st_seq ?_
    refine st_cut (fun ρ τ4 gs => ∃ (s4 : Int), unicode_utf8_DecodeLastRuneInString_j2 a0 s4 r ∧ τ3.Le τ4 ∧ ESub ρ [(0, .string a0), (2, .int .i32 (IntKind.i32.wrap q1)), (3, .int .i64 0), (4, .int .i64 (a0.size : Int)), (5, .int .i64 s4)] ∧ gs = []) ?_ (fun hk4 => ?_)
    ·rintro ρ4 τ4 gs4 ⟨s4, h, hl4, hρ, rfl⟩
     refine st_es hρ ?_
     refine Z 5 rfl ?_
     obtain ⟨hf5, hf6, hf7, h⟩ := h
     refine o_sliceS rfl rfl rfl Tryz.underlying9 rfl rfl rfl hf5 hf6 hf7 ?_
     obtain ⟨r8, hr9, h⟩ := h
     refine st_call (foot := []) rfl rfl rfl rfl rfl rfl (callV_fn z_en147 (unicode_utf8_DecodeRuneInString_ok hr9 τ4)) ?_
     rintro vτ10 τ10 gsτ10 hl11 ⟨rfl, rfl⟩
     refine Z 15 rfl ?_
     refine st_if rfl h (fun h => ?_) (fun h => ?_)
     ·refine Z 5 rfl ?_
      obtain rfl := Eq.symm h
      exact st_ret (gs' := []) Tryz.func166 rfl (List.Sublist.refl _) ((hl3.trans hl4).trans hl11) ⟨rfl, rfl⟩
     ·refine Z 8 rfl ?_
      obtain rfl := Eq.symm h
      exact st_ret (gs' := []) Tryz.func166 rfl (List.Sublist.refl _) ((hl3.trans hl4).trans hl11) ⟨rfl, rfl⟩
    refine Z 5 rfl ?_
    refine st_if rfl h (fun h => ?_) (fun h => ?_)
    ·refine Z 3 rfl ?_
     exact hk4 _ _ _ ⟨0, h, (Sto.Le.refl _), rfl, rfl⟩
    ·refine st_skip ?_
     exact hk4 _ _ _ ⟨s3, h, (Sto.Le.refl _), rfl, rfl⟩
   refine Z 6 rfl ?_
   obtain ⟨e12, hL12, hA12⟩ := h
   refine st_loop hL12 (fun (s12 : Int) ρ τ12 gs => σ.Le τ12 ∧ ESub ρ [(0, .string a0), (2, .int .i32 (IntKind.i32.wrap q1)), (3, .int .i64 0), (4, .int .i64 (a0.size : Int)), (5, .int .i64 s12), (6, .int .i64 (max (IntKind.i64.wrap ((a0.size : Int) - 4)) 0))] ∧ gs = []) ⟨Sto.Le.refl _, rfl, rfl⟩ ?_
   rintro s12 o12 h he12 ρ12 τ12 gs12 ⟨hl12, hρ, rfl⟩ hn12
   refine st_es hρ ?_
   refine Z 7 rfl ?_
   refine st_if rfl h (fun h => ?_) (fun h => ?_)
   ·refine Z 7 rfl ?_
    obtain ⟨q13, hf14, h⟩ := h
    refine o_indexS rfl rfl rfl Tryz.underlying9 rfl rfl hf14 ?_
    obtain ⟨r15, hr16, h⟩ := h
    refine st_call (foot := []) rfl rfl rfl rfl rfl rfl (callV_fn z_en178 (unicode_utf8_RuneStart_ok hr16 τ12)) ?_
    rintro vτ17 τ17 gsτ17 hl18 ⟨rfl, rfl⟩
    refine st_end ?_
    refine st_if rfl h (fun h => ?_) (fun h => ?_)
    ·refine st_exit rfl ?_
     obtain rfl := he12 _ h
     replace h := hA12
     exact hk3 _ _ _ ⟨s12, h, (hl12.trans hl18), rfl, rfl⟩
    ·refine Z 7 rfl ?_
     exact hn12 _ _ _ _ h ⟨(hl12.trans hl18), rfl, rfl⟩
   ·refine st_exit rfl ?_
    obtain rfl := he12 _ h
    replace h := hA12
    exact hk3 _ _ _ ⟨s12, h, hl12, rfl, rfl⟩
theorem strings_IndexByte_ok {a0 : ByteArray} {a1 : Int} {r : Int} (h : strings_IndexByte a0 a1 r) (σ : Sto) :
    Does Tryz.prog 105 [.string a0, .int .u8 a1] σ [] (fun v τ gs => gs = [] ∧ .int .i64 r = v) := by
 obtain ⟨hc, rfl⟩ := h
 exact indexByte_does Tryz.strings_IndexByte hc
theorem unicode_utf8_ValidRune_ok {a0 : Int} {r : Bool} (h : unicode_utf8_ValidRune a0 r) (σ : Sto)  :
    Does Tryz.prog 186 [.int .i32 a0] σ [] (fun v τ gs => gs = [] ∧ .bool r = v) := by
 refine call_of Tryz.func186 Tryz.ntmps186 rfl rfl (fun cs fs => ?_)
 refine Z 7 rfl ?_
 refine st_cut (fun ρ τ1 gs => ∃ (s1 : Bool), unicode_utf8_ValidRune_j1 a0 s1 r ∧ σ.Le τ1 ∧ ESub ρ [(0, .int .i32 a0), (2, .bool false), (3, .bool s1)] ∧ gs = []) ?_ (fun hk1 => ?_)
 ·rintro ρ1 τ1 gs1 ⟨s1, h, hl1, hρ, rfl⟩
  refine st_es hρ ?_
  refine st_if rfl h (fun h => ?_) (fun h => ?_)
  ·refine Z 4 rfl ?_
   obtain rfl := Eq.symm h
   exact st_ret (gs' := []) Tryz.func186 rfl (List.Sublist.refl _) hl1 ⟨rfl, rfl⟩
  ·refine st_seq ?_
   refine st_cut (fun ρ τ2 gs => ∃ (s2 : Bool), unicode_utf8_ValidRune_j2 s2 r ∧ τ1.Le τ2 ∧ ESub ρ [(2, .bool false), (10, .bool s2)] ∧ gs = []) ?_ (fun hk2 => ?_)
   ·rintro ρ2 τ2 gs2 ⟨s2, h, hl2, hρ, rfl⟩
    refine st_es hρ ?_
    refine st_if rfl h (fun h => ?_) (fun h => ?_)
    ·refine Z 4 rfl ?_
     obtain rfl := Eq.symm h
     exact st_ret (gs' := []) Tryz.func186 rfl (List.Sublist.refl _) (hl1.trans hl2) ⟨rfl, rfl⟩
    ·refine Z 6 rfl ?_
     obtain rfl := Eq.symm h
     exact st_ret (gs' := []) Tryz.func186 rfl (List.Sublist.refl _) (hl1.trans hl2) ⟨rfl, rfl⟩
   refine Z 3 rfl ?_
   refine o_mif rfl rfl rfl rfl h (fun h => ?_) (fun h => ?_)
   ·refine Z 5 rfl ?_
    exact hk2 _ _ _ ⟨(decide (a0 ≤ 1114111)), h, (Sto.Le.refl _), rfl, rfl⟩
   ·refine Z 5 rfl ?_
    exact hk2 _ _ _ ⟨false, h, (Sto.Le.refl _), rfl, rfl⟩
 refine Z 3 rfl ?_
 refine o_mif rfl rfl rfl rfl h (fun h => ?_) (fun h => ?_)
 ·refine Z 5 rfl ?_
  exact hk1 _ _ _ ⟨(decide (a0 < 55296)), h, (Sto.Le.refl _), rfl, rfl⟩
 ·refine Z 5 rfl ?_
  exact hk1 _ _ _ ⟨false, h, (Sto.Le.refl _), rfl, rfl⟩
theorem strings_IndexRune_ok {a0 : ByteArray} {a1 : Int} {r : Int} (h : strings_IndexRune a0 a1 r) (σ : Sto)  :
    Does Tryz.prog 177 [.string a0, .int .i32 a1] σ [] (fun v τ gs => gs = [] ∧ .int .i64 r = v) := by
 refine call_of Tryz.func177 Tryz.ntmps177 rfl rfl (fun cs fs => ?_)
 refine Z 6 rfl ?_
 refine st_cut (fun ρ τ1 gs => ∃ (s1 : Bool), strings_IndexRune_j1 a0 a1 s1 r ∧ σ.Le τ1 ∧ ESub ρ [(0, .string a0), (1, .int .i32 a1), (4, .int .i64 0), (160, .bool s1)] ∧ gs = []) ?_ (fun hk1 => ?_)
 ·rintro ρ1 τ1 gs1 ⟨s1, h, hl1, hρ, rfl⟩
  refine st_es hρ ?_
  refine st_if rfl h (fun h => ?_) (fun h => ?_)
  ·refine Z 5 rfl ?_
   obtain ⟨r2, hr3, h⟩ := h
   refine st_call (foot := []) rfl rfl rfl rfl rfl rfl (callV_fn z_en105 (strings_IndexByte_ok hr3 τ1)) ?_
   rintro vτ4 τ4 gsτ4 hl5 ⟨rfl, rfl⟩
   refine Z 2 rfl ?_
   obtain rfl := Eq.symm h
   exact st_ret (gs' := []) Tryz.func177 rfl (List.Sublist.refl _) (hl1.trans hl5) ⟨rfl, rfl⟩
  ·refine Z 6 rfl ?_
   refine st_if rfl h (fun h => ?_) (fun h => ?_)
   ·refine Z 4 rfl ?_
    exact h.elim
   ·refine Z 3 rfl ?_
    obtain ⟨r6, hr7, h⟩ := h
    refine st_call (foot := []) rfl rfl rfl rfl rfl rfl (callV_fn z_en186 (unicode_utf8_ValidRune_ok hr7 τ1)) ?_
    rintro vτ8 τ8 gsτ8 hl9 ⟨rfl, rfl⟩
    refine Z 3 rfl ?_
    refine st_if rfl h (fun h => ?_) (fun h => ?_)
    ·refine Z 4 rfl ?_
     obtain rfl := Eq.symm h
     exact st_ret (gs' := []) Tryz.func177 rfl (List.Sublist.refl _) (hl1.trans hl9) ⟨rfl, rfl⟩
    ·refine Z 4 rfl ?_
     exact h.elim
 refine Z 3 rfl ?_
 refine o_mif rfl rfl rfl rfl h (fun h => ?_) (fun h => ?_)
 ·refine Z 5 rfl ?_
  exact hk1 _ _ _ ⟨(decide (a1 < 128)), h, (Sto.Le.refl _), rfl, rfl⟩
 ·refine Z 5 rfl ?_
  exact hk1 _ _ _ ⟨false, h, (Sto.Le.refl _), rfl, rfl⟩
theorem strings_ContainsRune_ok {a0 : ByteArray} {a1 : Int} {r : Bool} (h : strings_ContainsRune a0 a1 r) (σ : Sto)  :
    Does Tryz.prog 165 [.string a0, .int .i32 a1] σ [] (fun v τ gs => gs = [] ∧ .bool r = v) := by
 refine call_of Tryz.func165 Tryz.ntmps165 rfl rfl (fun cs fs => ?_)
 refine Z 8 rfl ?_
 obtain ⟨r1, hr2, h⟩ := h
 refine st_call (foot := []) rfl rfl rfl rfl rfl rfl (callV_fn z_en177 (strings_IndexRune_ok hr2 σ)) ?_
 rintro vτ3 τ3 gsτ3 hl4 ⟨rfl, rfl⟩
 refine Z 3 rfl ?_
 obtain rfl := Eq.symm h
 exact st_ret (gs' := []) Tryz.func165 rfl (List.Sublist.refl _) hl4 ⟨rfl, rfl⟩
theorem strings_trimRightUnicode_ok {a0 : ByteArray} {a1 : ByteArray} {r : ByteArray} (h : strings_trimRightUnicode a0 a1 r) (σ : Sto)  :
    Does Tryz.prog 142 [.string a0, .string a1] σ [] (fun v τ gs => gs = [] ∧ .string r = v) := by
 refine call_of Tryz.func142 Tryz.ntmps142 rfl rfl (fun cs fs => ?_)
 refine Z 2 rfl ?_
 refine o_assign rfl rfl rfl (ev_str z_str0) ?_
 refine Z 2 rfl ?_
 refine st_cut (fun ρ τ1 gs => ∃ (s1 : ByteArray), strings_trimRightUnicode_j1 s1 r ∧ σ.Le τ1 ∧ ESub ρ [(0, .string s1), (4, .string (bstr []))] ∧ gs = []) ?_ (fun hk1 => ?_)
 ·rintro ρ1 τ1 gs1 ⟨s1, h, hl1, hρ, rfl⟩
  refine st_es hρ ?_
  refine Z 5 rfl ?_
  obtain rfl := Eq.symm h
  exact st_ret (gs' := []) Tryz.func142 rfl (List.Sublist.refl _) hl1 ⟨rfl, rfl⟩
 obtain ⟨e2, hL2, hA2⟩ := h
 refine st_loop hL2 (fun (s2 : ByteArray) ρ τ2 gs => σ.Le τ2 ∧ ESub ρ [(0, .string s2), (1, .string a1), (4, .string (bstr []))] ∧ gs = []) ⟨Sto.Le.refl _, rfl, rfl⟩ ?_
 rintro s2 o2 h he2 ρ2 τ2 gs2 ⟨hl2, hρ, rfl⟩ hn2
 refine st_es hρ ?_
 refine Z 7 rfl ?_
 refine st_if rfl h (fun h => ?_) (fun h => ?_)
 ·refine Z 8 rfl ?_
  obtain ⟨q3, hf4, h⟩ := h
  refine o_indexS rfl rfl rfl Tryz.underlying9 rfl rfl hf4 ?_
  refine Z 5 rfl ?_
  refine st_cut (fun ρ τ5 gs => ∃ (s5 : Int × Int), strings_trimRightUnicode_j3 a1 s2 s5 o2 ∧ τ2.Le τ5 ∧ ESub ρ [(0, .string s2), (1, .string a1), (4, .string (bstr [])), (5, .int .i32 s5.1), (6, .int .i64 s5.2)] ∧ gs = []) ?_ (fun hk5 => ?_)
  ·rintro ρ5 τ5 gs5 ⟨s5, h, hl5, hρ, rfl⟩
   refine st_es hρ ?_
   refine Z 5 rfl ?_
   obtain ⟨r6, hr7, h⟩ := h
   refine st_call (foot := []) rfl rfl rfl rfl rfl rfl (callV_fn z_en165 (strings_ContainsRune_ok hr7 τ5)) ?_
   rintro vτ8 τ8 gsτ8 hl9 ⟨rfl, rfl⟩
   refine Z 2 rfl ?_
   refine st_if rfl h (fun h => ?_) (fun h => ?_)
   ·refine st_exit rfl ?_
    obtain rfl := he2 _ h
    replace h := hA2
    exact hk1 _ _ _ ⟨s2, h, ((hl2.trans hl5).trans hl9), rfl, rfl⟩
   ·refine Z 7 rfl ?_
    obtain ⟨hf10, hf11, h⟩ := h
    refine o_sliceSh rfl rfl rfl Tryz.underlying9 rfl rfl hf10 hf11 ?_
    refine Z 3 rfl ?_
    exact hn2 _ _ _ _ h ⟨((hl2.trans hl5).trans hl9), rfl, rfl⟩
  refine Z 5 rfl ?_
  refine st_if rfl h (fun h => ?_) (fun h => ?_)
  ·refine Z 2 rfl ?_
   obtain ⟨r12, hr13, h⟩ := h
   refine st_call (foot := []) rfl rfl rfl rfl rfl rfl (callV_fn z_en166 (unicode_utf8_DecodeLastRuneInString_ok hr13 τ2)) ?_
   rintro vτ14 τ14 gsτ14 hl15 ⟨rfl, rfl⟩
   refine Z 6 rfl ?_
   exact hk5 _ _ _ ⟨(r12.1, r12.2), h, hl15, rfl, rfl⟩
  ·refine st_skip ?_
   exact hk5 _ _ _ ⟨((IntKind.i32.wrap q3), 1), h, (Sto.Le.refl _), rfl, rfl⟩
 ·refine st_exit rfl ?_
  obtain rfl := he2 _ h
  replace h := hA2
  exact hk1 _ _ _ ⟨s2, h, hl2, rfl, rfl⟩
theorem strings_trimLeftUnicode_ok {a0 : ByteArray} {a1 : ByteArray} {r : ByteArray} (h : strings_trimLeftUnicode a0 a1 r) (σ : Sto)  :
    Does Tryz.prog 141 [.string a0, .string a1] σ [] (fun v τ gs => gs = [] ∧ .string r = v) := by
 refine call_of Tryz.func141 Tryz.ntmps141 rfl rfl (fun cs fs => ?_)
 refine Z 2 rfl ?_
 refine o_assign rfl rfl rfl (ev_str z_str0) ?_
 refine Z 2 rfl ?_
 refine st_cut (fun ρ τ1 gs => ∃ (s1 : ByteArray), strings_trimLeftUnicode_j1 s1 r ∧ σ.Le τ1 ∧ ESub ρ [(0, .string s1), (4, .string (bstr []))] ∧ gs = []) ?_ (fun hk1 => ?_)
 ·rintro ρ1 τ1 gs1 ⟨s1, h, hl1, hρ, rfl⟩
  refine st_es hρ ?_
  refine Z 5 rfl ?_
  obtain rfl := Eq.symm h
  exact st_ret (gs' := []) Tryz.func141 rfl (List.Sublist.refl _) hl1 ⟨rfl, rfl⟩
 obtain ⟨e2, hL2, hA2⟩ := h
 refine st_loop hL2 (fun (s2 : ByteArray) ρ τ2 gs => σ.Le τ2 ∧ ESub ρ [(0, .string s2), (1, .string a1), (4, .string (bstr []))] ∧ gs = []) ⟨Sto.Le.refl _, rfl, rfl⟩ ?_
 rintro s2 o2 h he2 ρ2 τ2 gs2 ⟨hl2, hρ, rfl⟩ hn2
 refine st_es hρ ?_
 refine Z 7 rfl ?_
 refine st_if rfl h (fun h => ?_) (fun h => ?_)
 ·refine Z 5 rfl ?_
  obtain ⟨r3, hr4, h⟩ := h
  refine st_call (foot := []) rfl rfl rfl rfl rfl rfl (callV_fn z_en147 (unicode_utf8_DecodeRuneInString_ok hr4 τ2)) ?_
  rintro vτ5 τ5 gsτ5 hl6 ⟨rfl, rfl⟩
  refine Z 11 rfl ?_
  obtain ⟨r7, hr8, h⟩ := h
  refine st_call (foot := []) rfl rfl rfl rfl rfl rfl (callV_fn z_en165 (strings_ContainsRune_ok hr8 τ5)) ?_
  rintro vτ9 τ9 gsτ9 hl10 ⟨rfl, rfl⟩
  refine Z 2 rfl ?_
  refine st_if rfl h (fun h => ?_) (fun h => ?_)
  ·refine st_exit rfl ?_
   obtain rfl := he2 _ h
   replace h := hA2
   exact hk1 _ _ _ ⟨s2, h, ((hl2.trans hl6).trans hl10), rfl, rfl⟩
  ·refine Z 4 rfl ?_
   obtain ⟨hf11, hf12, h⟩ := h
   refine o_sliceSl rfl rfl rfl Tryz.underlying9 rfl rfl hf11 hf12 ?_
   refine Z 3 rfl ?_
   exact hn2 _ _ _ _ h ⟨((hl2.trans hl6).trans hl10), rfl, rfl⟩
 ·refine st_exit rfl ?_
  obtain rfl := he2 _ h
  replace h := hA2
  exact hk1 _ _ _ ⟨s2, h, hl2, rfl, rfl⟩
theorem strings_Trim_ok {a0 : ByteArray} {a1 : ByteArray} {r : ByteArray} (h : strings_Trim a0 a1 r) (σ : Sto)  :
    Does Tryz.prog 108 [.string a0, .string a1] σ [] (fun v τ gs => gs = [] ∧ .string r = v) := by
 refine call_of Tryz.func108 Tryz.ntmps108 rfl rfl (fun cs fs => ?_)
 refine Z 2 rfl ?_
 refine o_assign rfl rfl rfl (ev_str z_str0) ?_
 refine Z 3 rfl ?_
 refine st_cut (fun ρ τ1 gs => ∃ (s1 : Bool), strings_Trim_j1 a0 a1 s1 r ∧ σ.Le τ1 ∧ ESub ρ [(0, .string a0), (1, .string a1), (4, .string (bstr [])), (12, .bool s1)] ∧ gs = []) ?_ (fun hk1 => ?_)
 ·rintro ρ1 τ1 gs1 ⟨s1, h, hl1, hρ, rfl⟩
  refine st_es hρ ?_
  refine st_if rfl h (fun h => ?_) (fun h => ?_)
  ·refine Z 5 rfl ?_
   obtain rfl := Eq.symm h
   exact st_ret (gs' := []) Tryz.func108 rfl (List.Sublist.refl _) hl1 ⟨rfl, rfl⟩
  ·refine Z 3 rfl ?_
   refine st_cut (fun ρ τ2 gs => ∃ (s2 : Bool), strings_Trim_j2 a0 a1 s2 r ∧ τ1.Le τ2 ∧ ESub ρ [(0, .string a0), (1, .string a1), (4, .string (bstr [])), (21, .bool s2)] ∧ gs = []) ?_ (fun hk2 => ?_)
   ·rintro ρ2 τ2 gs2 ⟨s2, h, hl2, hρ, rfl⟩
    refine st_es hρ ?_
    refine st_if rfl h (fun h => ?_) (fun h => ?_)
    ·refine st_seq ?_
     obtain ⟨q3, hf4, r5, hr6, q9, hf10, r11, hr12, h⟩ := h
     refine st_draw 7 (dl [.v (.string a0), .v (.string a1), .v (.int .u8 q3), .v (.string r5), .v (.string a1), .v (.int .u8 q9), .v (.string r11)]) (fun _ _ => []) z_mix rfl (dl_mono trivial) (allB_cons (allB_cons (allB_cons (allB_cons (allB_cons (allB_cons (allB_cons allB_nil (p1 dA)) (p1 dA)) ?_) ?_) (p1 dA)) ?_) ?_) ?_
     ·intro ρ' τ pool rs hl hd hout hk
      obtain ⟨_, e1, rfl⟩ := hd 1 rfl
      refine o_indexS rfl rfl rfl Tryz.underlying9 e1 rfl hf4 ?_
      exact st_addNil (hk _ _ (Sto.Le.refl _) rfl)
     ·intro ρ' τ pool rs hl hd hout hk
      obtain ⟨_, e0, rfl⟩ := hd 0 rfl
      obtain ⟨_, e2, rfl⟩ := hd 2 rfl
      refine st_call (foot := []) rfl rfl rfl rfl (evs_cons e0 (evs_cons e2 rfl)) rfl (callV_fn z_en137 (strings_trimRightByte_ok hr6 τ)) ?_
      rintro vτ7 τ7 gsτ7 hl8 ⟨rfl, rfl⟩
      exact st_addNil (hk _ _ hl8 rfl)
     ·intro ρ' τ pool rs hl hd hout hk
      obtain ⟨_, e4, rfl⟩ := hd 4 rfl
      refine o_indexS rfl rfl rfl Tryz.underlying9 e4 rfl hf10 ?_
      exact st_addNil (hk _ _ (Sto.Le.refl _) rfl)
     ·intro ρ' τ pool rs hl hd hout hk
      obtain ⟨_, e3, rfl⟩ := hd 3 rfl
      obtain ⟨_, e5, rfl⟩ := hd 5 rfl
      refine st_call (foot := []) rfl rfl rfl rfl (evs_cons e3 (evs_cons e5 rfl)) rfl (callV_fn z_en136 (strings_trimLeftByte_ok hr12 τ)) ?_
      rintro vτ13 τ13 gsτ13 hl14 ⟨rfl, rfl⟩
      exact st_addNil (hk _ _ hl14 rfl)
     intro ρ' τ15 vals hl15 hv hout
     refine st_ord [] _ rfl ?_
     refine st_env (ρ' := [(28, .string r11), (0, .string a0), (1, .string a1), (4, .string (bstr []))]) ⟨(lv1 hv 6 rfl rfl), (hout 0 rfl).trans rfl, (hout 1 rfl).trans rfl, (hout 4 rfl).trans rfl, trivial⟩ ?_
     refine Z 2 rfl ?_
     obtain rfl := Eq.symm h
     exact st_ret (gs' := []) Tryz.func108 rfl (List.Sublist.refl _) ((hl1.trans hl2).trans hl15) ⟨rfl, rfl⟩
    ·refine Z 5 rfl ?_
     obtain ⟨r16, hr17, h⟩ := h
     refine st_call (foot := []) rfl rfl rfl rfl rfl rfl (callV_fn z_en138 (strings_makeASCIISet_ok hr17 τ2)) ?_
     rintro vτ18 τ18 gsτ18 hl19 ⟨rfl, rfl⟩
     refine Z 3 rfl ?_
     refine o_alloc rfl rfl rfl z_zero234 (fun b20 => ?_)
     refine o_store (j := 0) (vs := (cellsN Value.bool false 256 r16.1)) (cs' := (cellsN Value.bool false 256 r16.1)) rfl rfl rfl z_size234 rfl rfl rfl ones_cellsNB rfl rfl rfl ?_
     refine st_gs [[(b20, .cells (cellsN Value.bool false 256 r16.1).toArray 234 (0, 0))]] rfl ?_
     refine Z 6 rfl ?_
     refine st_if rfl h (fun h => ?_) (fun h => ?_)
     ·refine Z 3 rfl ?_
      obtain ⟨r21, hr22, h⟩ := h
      refine st_call (foot := [[(b20, .cells (cellsN Value.bool false 256 r16.1).toArray 234 (0, 0))]]) rfl rfl rfl rfl rfl rfl (callV_fn z_en140 (strings_trimRightASCII_ok hr22 τ18)) ?_
      rintro vτ23 τ23 gsτ23 hl24 ⟨rfl, rfl⟩
      obtain ⟨r25, hr26, h⟩ := h
      refine st_call (foot := [[(b20, .cells (cellsN Value.bool false 256 r16.1).toArray 234 (0, 0))]]) rfl rfl rfl rfl rfl rfl (callV_fn z_en139 (strings_trimLeftASCII_ok hr26 τ23)) ?_
      rintro vτ27 τ27 gsτ27 hl28 ⟨rfl, rfl⟩
      refine Z 2 rfl ?_
      refine st_ord [] _ rfl ?_
      obtain rfl := Eq.symm h
      exact st_ret (gs' := []) Tryz.func108 rfl (List.Sublist.refl _) ((((hl1.trans hl2).trans hl19).trans hl24).trans hl28) ⟨rfl, rfl⟩
     ·refine Z 5 rfl ?_
      obtain ⟨r29, hr30, h⟩ := h
      refine st_call (foot := []) rfl rfl rfl rfl rfl rfl (callV_fn z_en142 (strings_trimRightUnicode_ok hr30 τ18)) ?_
      rintro vτ31 τ31 gsτ31 hl32 ⟨rfl, rfl⟩
      refine o_move rfl rfl rfl rfl ?_
      obtain ⟨r33, hr34, h⟩ := h
      refine st_call (foot := []) rfl rfl rfl rfl rfl rfl (callV_fn z_en141 (strings_trimLeftUnicode_ok hr34 τ31)) ?_
      rintro vτ35 τ35 gsτ35 hl36 ⟨rfl, rfl⟩
      refine Z 2 rfl ?_
      refine st_ord [] _ rfl ?_
      obtain rfl := Eq.symm h
      exact st_ret (gs' := []) Tryz.func108 rfl (List.Sublist.refl _) ((((hl1.trans hl2).trans hl19).trans hl32).trans hl36) ⟨rfl, rfl⟩
   refine Z 4 rfl ?_
   refine o_mif rfl rfl rfl rfl h (fun h => ?_) (fun h => ?_)
   ·refine o_move rfl rfl rfl rfl ?_
    obtain ⟨q37, hf38, h⟩ := h
    refine o_indexS rfl rfl rfl Tryz.underlying9 rfl rfl hf38 ?_
    refine Z 3 rfl ?_
    exact hk2 _ _ _ ⟨(decide (q37 < 128)), h, (Sto.Le.refl _), rfl, rfl⟩
   ·refine Z 5 rfl ?_
    exact hk2 _ _ _ ⟨false, h, (Sto.Le.refl _), rfl, rfl⟩
 refine Z 2 rfl ?_
 refine o_sbin (v := .bool (decide (a0 = (bstr [])))) rfl rfl rfl rfl (ev_str z_str0) rfl ?_
 refine o_mif rfl rfl rfl rfl h (fun h => ?_) (fun h => ?_)
 ·refine Z 4 rfl ?_
  exact hk1 _ _ _ ⟨true, h, (Sto.Le.refl _), rfl, rfl⟩
 ·refine o_move rfl rfl rfl rfl ?_
  refine o_sbin (v := .bool (decide (a1 = (bstr [])))) rfl rfl rfl rfl (ev_str z_str0) rfl ?_
  refine Z 2 rfl ?_
  exact hk1 _ _ _ ⟨(decide (a1 = (bstr []))), h, (Sto.Le.refl _), rfl, rfl⟩
theorem say_Read_ok {a0 : ByteArray} {r : Int × Int} (h : say_Read a0 r) (σ : Sto) (hE : Errs Tryz.prog σ) :
    Does Tryz.prog 66 [.string a0] σ [] (fun v τ gs => gs = [] ∧ .tuple [.int .i64 r.1, .int .i64 r.2].toArray = v) := by
 refine call_of Tryz.func66 Tryz.ntmps66 rfl rfl (fun cs fs => ?_)
 refine Z 8 rfl ?_
 obtain ⟨r1, hr2, h⟩ := h
 refine st_call (foot := []) rfl rfl rfl rfl rfl rfl (callV_fn z_en106 (strconv_ParseInt_ok hr2 σ hE)) ?_
 rintro vτ3 τ3 gsτ3 hl4 ⟨v5, rfl, rfl, hi6⟩
 refine Z 9 rfl ?_
 obtain ⟨r7, hr8, h⟩ := h
 refine st_call (foot := []) rfl rfl rfl rfl (evs_cons rfl (evs_cons (ev_str z_str28) rfl)) rfl (callV_fn z_en107 (strings_TrimPrefix_ok hr8 τ3)) ?_
 rintro vτ9 τ9 gsτ9 hl10 ⟨rfl, rfl⟩
 refine Z 5 rfl ?_
 refine st_cut (fun ρ τ11 gs => ∃ (s11 : Bool), say_Read_j1 r1 s11 r ∧ τ9.Le τ11 ∧ ESub ρ [(2, .int .i64 0), (3, .int .i64 0), (4, .int .i64 r1.1), (5, v5), (14, .bool s11)] ∧ gs = []) ?_ (fun hk11 => ?_)
 ·rintro ρ11 τ11 gs11 ⟨s11, h, hl11, hρ, rfl⟩
  refine st_es hρ ?_
  refine st_if rfl h (fun h => ?_) (fun h => ?_)
  ·refine Z 5 rfl ?_
   obtain rfl := Eq.symm h
   exact st_ret (gs' := []) Tryz.func66 rfl (List.Sublist.refl _) ((hl4.trans hl10).trans hl11) ⟨rfl, rfl⟩
  ·refine Z 3 rfl ?_
   refine o_ifNil rfl rfl rfl Tryz.underlying195 rfl (hi6.up (hl10.trans hl11)) rfl ?_
   refine Z 2 rfl ?_
   refine st_if rfl h (fun h => ?_) (fun h => ?_)
   ·refine Z 5 rfl ?_
    obtain rfl := Eq.symm h
    exact st_ret (gs' := []) Tryz.func66 rfl (List.Sublist.refl _) ((hl4.trans hl10).trans hl11) ⟨rfl, rfl⟩
   ·refine Z 8 rfl ?_
    obtain rfl := Eq.symm h
    exact st_ret (gs' := []) Tryz.func66 rfl (List.Sublist.refl _) ((hl4.trans hl10).trans hl11) ⟨rfl, rfl⟩
 refine Z 2 rfl ?_
 refine o_sbin (v := .bool (decide (r7 = (bstr [])))) rfl rfl rfl rfl (ev_str z_str0) rfl ?_
 refine o_mif rfl rfl rfl rfl h (fun h => ?_) (fun h => ?_)
 ·refine Z 15 rfl ?_
  exact hk11 _ _ _ ⟨true, h, (Sto.Le.refl _), rfl, rfl⟩
 ·refine o_move rfl rfl rfl rfl ?_
  obtain ⟨r12, hr13, h⟩ := h
  refine st_call (foot := []) rfl rfl rfl rfl (evs_cons rfl (evs_cons (ev_str z_str30) rfl)) rfl (callV_fn z_en108 (strings_Trim_ok hr13 τ9)) ?_
  rintro vτ14 τ14 gsτ14 hl15 ⟨rfl, rfl⟩
  refine o_sbin (v := .bool (!(decide (r12 = (bstr []))))) rfl rfl rfl rfl (ev_str z_str0) rfl ?_
  refine o_pick rfl rfl rfl rfl rfl ?_
  refine o_mif rfl rfl rfl rfl h (fun h => ?_) (fun h => ?_)
  ·refine Z 10 rfl ?_
   exact hk11 _ _ _ ⟨true, h, hl15, rfl, rfl⟩
  ·refine o_move rfl rfl rfl rfl ?_
   obtain ⟨q16, hf17, h⟩ := h
   refine o_indexS rfl rfl rfl Tryz.underlying9 rfl rfl hf17 ?_
   refine o_ibin (v := .bool (decide (q16 = 48))) rfl rfl rfl rfl rfl rfl ?_
   refine o_mif rfl rfl rfl rfl h (fun h => ?_) (fun h => ?_)
   ·refine o_move rfl rfl rfl rfl ?_
    refine o_sbin (v := .bool (!(decide (a0 = (bstr [48]))))) rfl rfl rfl rfl (ev_str z_str31) rfl ?_
    refine Z 4 rfl ?_
    exact hk11 _ _ _ ⟨(!(decide (a0 = (bstr [48])))), h, hl15, rfl, rfl⟩
   ·refine Z 6 rfl ?_
    exact hk11 _ _ _ ⟨false, h, hl15, rfl, rfl⟩
theorem say_points_ok {a0 : ByteArray} {r : (List (Int × Int)) × Int} (h : say_points a0 r) (σ : Sto) (hE : Errs Tryz.prog σ) :
    Does Tryz.prog 78 [.string a0] σ [] (fun v τ gs => ∃ (v63 : Value), gs = [] ∧ .tuple [v63, .int .i64 r.2].toArray = v ∧ Sl (kP (kI .i64) (kI .i64)) τ v63 r.1) := by
 refine call_of Tryz.func78 Tryz.ntmps78 rfl rfl (fun cs fs => ?_)
 refine Z 2 rfl ?_
 refine o_alloc rfl rfl rfl z_zero36 (fun b1 => ?_)
 refine o_alloc rfl rfl rfl z_zero46 (fun b2 => ?_)
 refine Z 3 rfl ?_
 refine o_alloc rfl rfl rfl z_zero36 (fun b3 => ?_)
 refine Z 5 rfl ?_
 obtain ⟨r4, hr5, h⟩ := h
 refine st_call (foot := []) rfl rfl rfl rfl (evs_cons rfl (evs_cons (ev_str z_str27) rfl)) rfl (callV_fn z_en76 (strings_SplitSeq_ok hr5 σ)) ?_
 rintro vτ6 τ6 gsτ6 hl7 ⟨f8, q9, b11, rfl, rfl, hit10⟩
 refine Z 2 rfl ?_
 obtain ⟨t15, w15, hR15, hA15⟩ := h
 refine st_env (ρ' := [(2, .pointer (some ⟨b1, 0, none⟩)), (3, .pointer (some ⟨b2, 0, none⟩)), (4, .pointer (some ⟨b3, 0, none⟩)), (13, .func (.func f8) #[] q9)]) ⟨rfl, rfl, rfl, rfl, trivial⟩ ?_
 refine st_addNil ?_
 refine st_ord [1, 3, 2, 1, 0] _ rfl ?_
 refine st_range (B := say_points_l1) (s0 := []) ranges_fctx rfl (hit10 r4.2 τ6 (Sto.Le.refl _)) (Sto.Le.refl _) hR15 rfl (fun _ _ _ h => by cases h; rfl) (fun (s15 : (List (Int × Int))) τ15 gs => τ6.Le τ15 ∧ ∃ (v16 : Value) (g17 : Grp), gs = [[(b1, .cells #[.slice none 0 0] 36 (0, 0))], [(b2, .cells #[.int .i64 0] 46 (0, 0))], [(b3, .cells #[v16] 36 (0, 0))], g17] ∧ Ow (kP (kI .i64) (kI .i64)) 105 τ15 v16 s15 g17) (fun (p44 : Int × (List (Int × Int))) cd τ45 gs => cd = .ret ∧ τ6.Le τ45 ∧ ∃ (v47 : Value) (g48 : Grp), gs = [[(b1, .cells #[.slice none 0 0] 36 (0, 0))], [(b2, .cells #[.int .i64 p44.1] 46 (0, 0))], [(b3, .cells #[v47] 36 (0, 0))], g48] ∧ Ow (kP (kI .i64) (kI .i64)) 105 τ45 v47 p44.2 g48) (fun _ _ _ _ hl ⟨hb, v16, g17, hg, ho18⟩ => ⟨hb.trans hl, v16, g17, hg, ho18.up hl⟩) (fun _ _ _ _ _ hl ⟨hc, hb, v47, g48, hg, ho49⟩ => ⟨hc, hb.trans hl, v47, g48, hg, ho49.up hl⟩) ⟨Sto.Le.refl _, _, _, rfl, Ow.nil⟩ ?_ ?_ ?_
 ·rintro x15 s15 o15 τ15 gs15 vx15 hl15 h rfl ⟨hb15, v16, g17, rfl, ho18⟩ l15 rc15 caller15 cs15 fs15
  refine Z 3 rfl ?_
  refine st_begin ?_
  refine Z 4 rfl ?_
  obtain ⟨r19, hr20, h⟩ := h
  refine st_call (foot := []) rfl rfl rfl rfl (evs_cons rfl (evs_cons (ev_str z_str26) rfl)) rfl (callV_fn z_en115 (strings_Cut_ok hr20 τ15)) ?_
  rintro vτ21 τ21 gsτ21 hl22 ⟨rfl, rfl⟩
  refine Z 10 rfl ?_
  refine st_cut (fun ρ τ23 gs => ∃ (s23 : Bool), say_points_j2 s15 r19 s23 o15 ∧ τ21.Le τ23 ∧ ESub ρ [(2, .pointer (some ⟨b1, 0, none⟩)), (3, .pointer (some ⟨b2, 0, none⟩)), (4, .pointer (some ⟨b3, 0, none⟩)), (14, .string x15), (5, .string x15), (6, .string r19.1), (7, .string r19.2.1), (26, .bool s23)] ∧ gs = [[(b1, .cells #[.slice none 0 0] 36 (0, 0))], [(b2, .cells #[.int .i64 0] 46 (0, 0))], [(b3, .cells #[v16] 36 (0, 0))], g17]) ?_ (fun hk23 => ?_)
  ·rintro ρ23 τ23 gs23 ⟨s23, h, hl23, hρ, rfl⟩
   refine st_es hρ ?_
   refine st_if rfl h (fun h => ?_) (fun h => ?_)
   ·refine ZZ 5 [0, 1] rfl rfl ?_
    exact st_rret (List.Sublist.refl _) (hl22.trans hl23) ⟨_, h, rfl, ((hl15.trans hl22).trans hl23), _, _, rfl, (ho18.up (hl22.trans hl23))⟩
   ·refine Z 4 rfl ?_
    obtain ⟨r24, hr25, h⟩ := h
    refine st_call (foot := []) rfl rfl rfl rfl rfl rfl (callV_fn z_en66 (say_Read_ok hr25 τ23 (hE.up (((hl7.trans hl15).trans hl22).trans hl23)))) ?_
    rintro vτ26 τ26 gsτ26 hl27 ⟨rfl, rfl⟩
    refine Z 12 rfl ?_
    refine st_if rfl h (fun h => ?_) (fun h => ?_)
    ·refine ZZ 6 [0, 1] rfl rfl ?_
     exact st_rret (List.Sublist.refl _) ((hl22.trans hl23).trans hl27) ⟨_, h, rfl, (((hl15.trans hl22).trans hl23).trans hl27), _, _, rfl, (ho18.up ((hl22.trans hl23).trans hl27))⟩
    ·refine Z 4 rfl ?_
     obtain ⟨r28, hr29, h⟩ := h
     refine st_call (foot := []) rfl rfl rfl rfl rfl rfl (callV_fn z_en66 (say_Read_ok hr29 τ26 (hE.up ((((hl7.trans hl15).trans hl22).trans hl23).trans hl27)))) ?_
     rintro vτ30 τ30 gsτ30 hl31 ⟨rfl, rfl⟩
     refine Z 12 rfl ?_
     refine st_if rfl h (fun h => ?_) (fun h => ?_)
     ·refine ZZ 6 [0, 1] rfl rfl ?_
      exact st_rret (List.Sublist.refl _) (((hl22.trans hl23).trans hl27).trans hl31) ⟨_, h, rfl, ((((hl15.trans hl22).trans hl23).trans hl27).trans hl31), _, _, rfl, (ho18.up (((hl22.trans hl23).trans hl27).trans hl31))⟩
     ·refine ZZ 6 [2] rfl rfl ?_
      refine o_litE (eP (eI .i64) (eI .i64)) [(r24.1, r28.1)] rfl rfl rfl z_slT36 z_zero105 ⟨rfl, ⟨_, rfl, rfl⟩, trivial⟩ rfl rfl rfl rfl (fun v32 g33 ho34 => ?_)
      obtain ⟨hf38, hf39, h⟩ := h
      refine st_ord [4, 0, 0, 0, 0] _ rfl ?_
      refine o_append (dk := (kP (kI .i64) (kI .i64))) (xs := s15) (ys := [(r24.1, r28.1)]) rfl rfl rfl rfl z_slT36 rfl (ho18.up (((hl22.trans hl23).trans hl27).trans hl31)) rfl (Ow.src (j := 1) ho34 rfl) hf38 hf39 (fun v35 g36 ho37 => ?_)
      refine o_store (j := 4) (vs := [v35]) (cs' := [v35]) rfl rfl rfl z_size36 rfl rfl (oneL_ow ho37) (ones_cons ho37.one' ones_nil) rfl rfl rfl ?_
      refine st_gs [g36, g33, [(b1, .cells #[.slice none 0 0] 36 (0, 0))], [(b2, .cells #[.int .i64 0] 46 (0, 0))], [(b3, .cells #[v35] 36 (0, 0))]] rfl ?_
      refine Z 2 rfl ?_
      refine st_ord [2, 2, 2, 0] _ rfl ?_
      exact st_rend (List.Sublist.refl _) (((hl22.trans hl23).trans hl27).trans hl31) ⟨_, h, ((((hl15.trans hl22).trans hl23).trans hl27).trans hl31), _, _, rfl, ho37⟩
  refine Z 3 rfl ?_
  refine o_mif rfl rfl rfl rfl h (fun h => ?_) (fun h => ?_)
  ·refine Z 4 rfl ?_
   exact hk23 _ _ _ ⟨true, h, (Sto.Le.refl _), rfl, rfl⟩
  ·refine o_move rfl rfl rfl rfl ?_
   obtain ⟨r40, hr41, h⟩ := h
   refine st_call (foot := []) rfl rfl rfl rfl (evs_cons rfl (evs_cons (ev_str z_str26) rfl)) rfl (callV_fn z_en116 (strings_Contains_ok hr41 τ21)) ?_
   rintro vτ42 τ42 gsτ42 hl43 ⟨rfl, rfl⟩
   refine Z 2 rfl ?_
   exact hk23 _ _ _ ⟨r40, h, hl43, rfl, rfl⟩
 ·rintro p51 τ52 gs15 f15 ht hl53 ⟨hb, v54, g55, rfl, ho56⟩ rfl
  subst ht
  replace h := hA15
  refine st_gs [[(b11, .cells #[.string w15] 9 (0, 0))], [(b1, .cells #[.slice none 0 0] 36 (0, 0))], [(b2, .cells #[.int .i64 0] 46 (0, 0))], [(b3, .cells #[v54] 36 (0, 0))], g55] rfl ?_
  refine ZZ 4 [3] rfl rfl ?_
  refine o_store (j := 1) (vs := [v54]) (cs' := [v54]) rfl rfl rfl z_size36 rfl rfl (oneL_ow ho56) (ones_cons ho56.one' ones_nil) rfl rfl rfl ?_
  refine st_gs [[(b11, .cells #[.string w15] 9 (0, 0))], [(b1, .cells #[v54] 36 (0, 0))], [(b2, .cells #[.int .i64 0] 46 (0, 0))], [(b3, .cells #[v54] 36 (0, 0))], g55] rfl ?_
  refine ZZ 2 [2] rfl rfl ?_
  refine st_ord [4, 0, 0, 0, 0] _ rfl ?_
  refine st_freeze (fun τ57 hl58 hg59 => ?_)
  have hs60 := ho56.freeze hl58 hg59
  obtain rfl := Eq.symm h
  exact st_retC (gs' := []) [v54, .int .i64 0] Tryz.func78 ⟨⟨_, _, _, _, rfl, mem_flat 1 rfl, fun w hw => cellOf z_sc36 rfl w hw⟩, ⟨_, _, _, _, rfl, mem_flat 2 rfl, fun w hw => cellOf z_sc46 rfl w hw⟩, trivial⟩ (by simp) ((hl7.trans hl53).trans hl58) ⟨_, rfl, rfl, hs60⟩
 ·rintro p44 cd15 τ45 gs15 f15 ht hl46 ⟨rfl, hb, v47, g48, rfl, ho49⟩ rfl
  subst ht
  replace h := hA15
  refine st_gs [[(b11, .cells #[.string w15] 9 (0, 0))], [(b1, .cells #[.slice none 0 0] 36 (0, 0))], [(b2, .cells #[.int .i64 p44.1] 46 (0, 0))], [(b3, .cells #[v47] 36 (0, 0))], g48] rfl ?_
  obtain rfl := Eq.symm h
  exact st_retC (gs' := []) [.slice none 0 0, .int .i64 p44.1] Tryz.func78 ⟨⟨_, _, _, _, rfl, mem_flat 1 rfl, fun w hw => cellOf z_sc36 rfl w hw⟩, ⟨_, _, _, _, rfl, mem_flat 2 rfl, fun w hw => cellOf z_sc46 rfl w hw⟩, trivial⟩ (by simp) (hl7.trans hl46) ⟨_, rfl, rfl, Sl.nil⟩
theorem say_cells_ok {a0 : ByteArray} {r : List Int × Int} (h : say_cells a0 r) (σ : Sto) (hE : Errs Tryz.prog σ) :
    Does Tryz.prog 79 [.string a0] σ [] (fun v τ gs => ∃ (v50 : Value), gs = [] ∧ .tuple [v50, .int .i64 r.2].toArray = v ∧ Sl (kI .i64) τ v50 r.1) := by
 refine call_of Tryz.func79 Tryz.ntmps79 rfl rfl (fun cs fs => ?_)
 refine Z 2 rfl ?_
 refine o_alloc rfl rfl rfl z_zero27 (fun b1 => ?_)
 refine o_alloc rfl rfl rfl z_zero46 (fun b2 => ?_)
 refine Z 3 rfl ?_
 refine o_alloc rfl rfl rfl z_zero27 (fun b3 => ?_)
 refine Z 5 rfl ?_
 obtain ⟨r4, hr5, h⟩ := h
 refine st_call (foot := []) rfl rfl rfl rfl (evs_cons rfl (evs_cons (ev_str z_str26) rfl)) rfl (callV_fn z_en76 (strings_SplitSeq_ok hr5 σ)) ?_
 rintro vτ6 τ6 gsτ6 hl7 ⟨f8, q9, b11, rfl, rfl, hit10⟩
 refine Z 2 rfl ?_
 obtain ⟨t15, w15, hR15, hA15⟩ := h
 refine st_env (ρ' := [(2, .pointer (some ⟨b1, 0, none⟩)), (3, .pointer (some ⟨b2, 0, none⟩)), (4, .pointer (some ⟨b3, 0, none⟩)), (9, .func (.func f8) #[] q9)]) ⟨rfl, rfl, rfl, rfl, trivial⟩ ?_
 refine st_addNil ?_
 refine st_ord [1, 3, 2, 1, 0] _ rfl ?_
 refine st_range (B := say_cells_l1) (s0 := []) ranges_fctx rfl (hit10 r4.2 τ6 (Sto.Le.refl _)) (Sto.Le.refl _) hR15 rfl (fun _ _ _ h => by cases h; rfl) (fun (s15 : List Int) τ15 gs => τ6.Le τ15 ∧ ∃ (v16 : Value) (g17 : Grp), gs = [[(b1, .cells #[.slice none 0 0] 27 (0, 0))], [(b2, .cells #[.int .i64 0] 46 (0, 0))], [(b3, .cells #[v16] 27 (0, 0))], g17] ∧ Ow (kI .i64) 3 τ15 v16 s15 g17) (fun (p31 : Int × List Int) cd τ32 gs => cd = .ret ∧ τ6.Le τ32 ∧ ∃ (v34 : Value) (g35 : Grp), gs = [[(b1, .cells #[.slice none 0 0] 27 (0, 0))], [(b2, .cells #[.int .i64 p31.1] 46 (0, 0))], [(b3, .cells #[v34] 27 (0, 0))], g35] ∧ Ow (kI .i64) 3 τ32 v34 p31.2 g35) (fun _ _ _ _ hl ⟨hb, v16, g17, hg, ho18⟩ => ⟨hb.trans hl, v16, g17, hg, ho18.up hl⟩) (fun _ _ _ _ _ hl ⟨hc, hb, v34, g35, hg, ho36⟩ => ⟨hc, hb.trans hl, v34, g35, hg, ho36.up hl⟩) ⟨Sto.Le.refl _, _, _, rfl, Ow.nil⟩ ?_ ?_ ?_
 ·rintro x15 s15 o15 τ15 gs15 vx15 hl15 h rfl ⟨hb15, v16, g17, rfl, ho18⟩ l15 rc15 caller15 cs15 fs15
  refine Z 3 rfl ?_
  refine st_begin ?_
  refine Z 4 rfl ?_
  obtain ⟨r19, hr20, h⟩ := h
  refine st_call (foot := []) rfl rfl rfl rfl rfl rfl (callV_fn z_en66 (say_Read_ok hr20 τ15 (hE.up (hl7.trans hl15)))) ?_
  rintro vτ21 τ21 gsτ21 hl22 ⟨rfl, rfl⟩
  refine Z 12 rfl ?_
  refine st_if rfl h (fun h => ?_) (fun h => ?_)
  ·refine ZZ 6 [0, 1] rfl rfl ?_
   exact st_rret (List.Sublist.refl _) hl22 ⟨_, h, rfl, (hl15.trans hl22), _, _, rfl, (ho18.up hl22)⟩
  ·refine ZZ 4 [2] rfl rfl ?_
   refine o_litE (eI .i64) [r19.1] rfl rfl rfl z_slT27 z_zero3 ⟨rfl, ⟨_, rfl, rfl⟩, trivial⟩ rfl rfl rfl rfl (fun v23 g24 ho25 => ?_)
   obtain ⟨hf29, hf30, h⟩ := h
   refine st_ord [4, 0, 0, 0, 0] _ rfl ?_
   refine o_append (dk := (kI .i64)) (xs := s15) (ys := [r19.1]) rfl rfl rfl rfl z_slT27 rfl (ho18.up hl22) rfl (Ow.src (j := 1) ho25 rfl) hf29 hf30 (fun v26 g27 ho28 => ?_)
   refine o_store (j := 4) (vs := [v26]) (cs' := [v26]) rfl rfl rfl z_size27 rfl rfl (oneL_ow ho28) (ones_cons ho28.one' ones_nil) rfl rfl rfl ?_
   refine st_gs [g27, g24, [(b1, .cells #[.slice none 0 0] 27 (0, 0))], [(b2, .cells #[.int .i64 0] 46 (0, 0))], [(b3, .cells #[v26] 27 (0, 0))]] rfl ?_
   refine Z 2 rfl ?_
   refine st_ord [2, 2, 2, 0] _ rfl ?_
   exact st_rend (List.Sublist.refl _) hl22 ⟨_, h, (hl15.trans hl22), _, _, rfl, ho28⟩
 ·rintro p38 τ39 gs15 f15 ht hl40 ⟨hb, v41, g42, rfl, ho43⟩ rfl
  subst ht
  replace h := hA15
  refine st_gs [[(b11, .cells #[.string w15] 9 (0, 0))], [(b1, .cells #[.slice none 0 0] 27 (0, 0))], [(b2, .cells #[.int .i64 0] 46 (0, 0))], [(b3, .cells #[v41] 27 (0, 0))], g42] rfl ?_
  refine ZZ 4 [3] rfl rfl ?_
  refine o_store (j := 1) (vs := [v41]) (cs' := [v41]) rfl rfl rfl z_size27 rfl rfl (oneL_ow ho43) (ones_cons ho43.one' ones_nil) rfl rfl rfl ?_
  refine st_gs [[(b11, .cells #[.string w15] 9 (0, 0))], [(b1, .cells #[v41] 27 (0, 0))], [(b2, .cells #[.int .i64 0] 46 (0, 0))], [(b3, .cells #[v41] 27 (0, 0))], g42] rfl ?_
  refine ZZ 2 [2] rfl rfl ?_
  refine st_ord [4, 0, 0, 0, 0] _ rfl ?_
  refine st_freeze (fun τ44 hl45 hg46 => ?_)
  have hs47 := ho43.freeze hl45 hg46
  obtain rfl := Eq.symm h
  exact st_retC (gs' := []) [v41, .int .i64 0] Tryz.func79 ⟨⟨_, _, _, _, rfl, mem_flat 1 rfl, fun w hw => cellOf z_sc27 rfl w hw⟩, ⟨_, _, _, _, rfl, mem_flat 2 rfl, fun w hw => cellOf z_sc46 rfl w hw⟩, trivial⟩ (by simp) ((hl7.trans hl40).trans hl45) ⟨_, rfl, rfl, hs47⟩
 ·rintro p31 cd15 τ32 gs15 f15 ht hl33 ⟨rfl, hb, v34, g35, rfl, ho36⟩ rfl
  subst ht
  replace h := hA15
  refine st_gs [[(b11, .cells #[.string w15] 9 (0, 0))], [(b1, .cells #[.slice none 0 0] 27 (0, 0))], [(b2, .cells #[.int .i64 p31.1] 46 (0, 0))], [(b3, .cells #[v34] 27 (0, 0))], g35] rfl ?_
  obtain rfl := Eq.symm h
  exact st_retC (gs' := []) [.slice none 0 0, .int .i64 p31.1] Tryz.func79 ⟨⟨_, _, _, _, rfl, mem_flat 1 rfl, fun w hw => cellOf z_sc27 rfl w hw⟩, ⟨_, _, _, _, rfl, mem_flat 2 rfl, fun w hw => cellOf z_sc46 rfl w hw⟩, trivial⟩ (by simp) (hl7.trans hl33) ⟨_, rfl, rfl, Sl.nil⟩
theorem say_unhex_ok {a0 : ByteArray} {r : ByteArray × Int} (h : say_unhex a0 r) (σ : Sto)  :
    Does Tryz.prog 80 [.string a0] σ [] (fun v τ gs => gs = [] ∧ .tuple [.string r.1, .int .i64 r.2].toArray = v) := by
 refine call_of Tryz.func80 Tryz.ntmps80 rfl rfl (fun cs fs => ?_)
 refine Z 2 rfl ?_
 refine o_assign rfl rfl rfl (ev_str z_str0) ?_
 refine Z 10 rfl ?_
 refine o_sbin (v := .bool (decide (a0 = (bstr [45])))) rfl rfl rfl rfl (ev_str z_str28) rfl ?_
 refine st_end ?_
 refine st_if rfl h (fun h => ?_) (fun h => ?_)
 ·refine Z 2 rfl ?_
  refine o_assign rfl rfl rfl (ev_str z_str0) ?_
  refine Z 2 rfl ?_
  obtain rfl := Eq.symm h
  exact st_ret (gs' := []) Tryz.func80 rfl (List.Sublist.refl _) (Sto.Le.refl _) ⟨rfl, rfl⟩
 ·refine Z 3 rfl ?_
  refine st_cut (fun ρ τ1 gs => ∃ (s1 : Bool), say_unhex_j1 a0 s1 r ∧ σ.Le τ1 ∧ ESub ρ [(0, .string a0), (2, .string (bstr [])), (3, .int .i64 0), (4, .slice none 0 0), (17, .bool s1)] ∧ gs = []) ?_ (fun hk1 => ?_)
  ·rintro ρ1 τ1 gs1 ⟨s1, h, hl1, hρ, rfl⟩
   refine st_es hρ ?_
   refine st_if rfl h (fun h => ?_) (fun h => ?_)
   ·refine Z 2 rfl ?_
    refine o_assign rfl rfl rfl (ev_str z_str0) ?_
    refine Z 2 rfl ?_
    obtain rfl := Eq.symm h
    exact st_ret (gs' := []) Tryz.func80 rfl (List.Sublist.refl _) hl1 ⟨rfl, rfl⟩
   ·refine Z 2 rfl ?_
    refine st_cut (fun ρ τ2 gs => ∃ (s2 : List Int) (v3 : Value) (g4 : Grp), say_unhex_j2 s2 r ∧ τ1.Le τ2 ∧ ESub ρ [(2, .string (bstr [])), (3, .int .i64 0), (4, v3)] ∧ gs = [g4] ∧ Ow (kI .u8) 5 τ2 v3 s2 g4) ?_ (fun hk2 => ?_)
    ·rintro ρ2 τ2 gs2 ⟨s2, v3, g4, h, hl2, hρ, rfl, ho5⟩
     refine st_es hρ ?_
     refine Z 3 rfl ?_
     refine st_freeze (fun τ6 hl7 hg8 => ?_)
     have hs9 := ho5.freeze hl7 hg8
     refine o_bstr (xs := s2) rfl rfl rfl Tryz.underlying23 Tryz.underlying5 Tryz.underlying9 rfl hs9 ?_
     refine Z 3 rfl ?_
     obtain rfl := Eq.symm h
     exact st_ret (gs' := []) Tryz.func80 rfl (List.Sublist.refl _) ((hl1.trans hl2).trans hl7) ⟨rfl, rfl⟩
    refine Z 4 rfl ?_
    obtain ⟨e11, hL11, hA11⟩ := h
    refine st_addNil ?_
    refine st_loop hL11 (fun (s11 : List Int × Int) ρ τ11 gs => τ1.Le τ11 ∧ ∃ (v12 : Value) (g13 : Grp), ESub ρ [(0, .string a0), (2, .string (bstr [])), (3, .int .i64 0), (4, v12), (5, .int .i64 s11.2)] ∧ gs = [g13] ∧ Ow (kI .u8) 5 τ11 v12 s11.1 g13) ⟨Sto.Le.refl _, _, _, rfl, rfl, Ow.nil⟩ ?_
    rintro s11 o11 h he11 ρ11 τ11 gs11 ⟨hl11, v12, g13, hρ, rfl, ho14⟩ hn11
    refine st_es hρ ?_
    refine Z 8 rfl ?_
    refine st_if rfl h (fun h => ?_) (fun h => ?_)
    ·refine Z 4 rfl ?_
     obtain ⟨q15, hf16, r17, hr18, q21, hf22, r23, hr24, h⟩ := h
     refine st_draw 10 (dl [.v (.string a0), .v (.int .i64 s11.2), .v (.int .u8 q15), .v (.int .i64 r17), .v (.string a0), .v (.int .i64 s11.2), .v (.int .i64 (IntKind.i64.wrap (s11.2 + 1))), .v (.int .u8 q21), .v (.int .i64 r23), .v (.int .i64 r17)]) (fun _ _ => []) z_mix rfl (dl_mono trivial) (allB_cons (allB_cons (allB_cons (allB_cons (allB_cons (allB_cons (allB_cons (allB_cons (allB_cons (allB_cons allB_nil (p1 dA)) (p1 dA)) ?_) ?_) (p1 dA)) (p1 dA)) (p1 dA)) ?_) ?_) (p1 dA)) ?_
     ·intro ρ' τ pool rs hl hd hout hk
      obtain ⟨_, e0, rfl⟩ := hd 0 rfl
      obtain ⟨_, e1, rfl⟩ := hd 1 rfl
      refine o_indexS rfl rfl rfl Tryz.underlying9 e0 e1 hf16 ?_
      exact st_addNil (hk _ _ (Sto.Le.refl _) rfl)
     ·intro ρ' τ pool rs hl hd hout hk
      obtain ⟨_, e2, rfl⟩ := hd 2 rfl
      refine st_call (foot := []) rfl rfl rfl rfl (evs_cons (ev_str z_str29) (evs_cons e2 rfl)) rfl (callV_fn z_en105 (strings_IndexByte_ok hr18 τ)) ?_
      rintro vτ19 τ19 gsτ19 hl20 ⟨rfl, rfl⟩
      exact st_addNil (hk _ _ hl20 rfl)
     ·intro ρ' τ pool rs hl hd hout hk
      obtain ⟨_, e4, rfl⟩ := hd 4 rfl
      obtain ⟨_, e6, rfl⟩ := hd 6 rfl
      refine o_indexS rfl rfl rfl Tryz.underlying9 e4 e6 hf22 ?_
      exact st_addNil (hk _ _ (Sto.Le.refl _) rfl)
     ·intro ρ' τ pool rs hl hd hout hk
      obtain ⟨_, e7, rfl⟩ := hd 7 rfl
      refine st_call (foot := []) rfl rfl rfl rfl (evs_cons (ev_str z_str29) (evs_cons e7 rfl)) rfl (callV_fn z_en105 (strings_IndexByte_ok hr24 τ)) ?_
      rintro vτ25 τ25 gsτ25 hl26 ⟨rfl, rfl⟩
      exact st_addNil (hk _ _ hl26 rfl)
     intro ρ' τ27 vals hl27 hv hout
     refine st_ord [0] _ rfl ?_
     refine st_env (ρ' := [(32, .int .i64 r23), (6, .int .i64 r17), (0, .string a0), (2, .string (bstr [])), (3, .int .i64 0), (4, v12), (5, .int .i64 s11.2)]) ⟨(lv1 hv 8 rfl rfl), (lv1 hv 9 rfl rfl), (hout 0 rfl).trans rfl, (hout 2 rfl).trans rfl, (hout 3 rfl).trans rfl, (hout 4 rfl).trans rfl, (hout 5 rfl).trans rfl, trivial⟩ ?_
     refine Z 4 rfl ?_
     refine st_cut (fun ρ τ28 gs => ∃ (s28 : Bool), say_unhex_j4 s11 r17 r23 s28 o11 ∧ τ27.Le τ28 ∧ ESub ρ [(6, .int .i64 r17), (0, .string a0), (2, .string (bstr [])), (3, .int .i64 0), (4, v12), (5, .int .i64 s11.2), (7, .int .i64 r23), (38, .bool s28)] ∧ gs = [g13]) ?_ (fun hk28 => ?_)
     ·rintro ρ28 τ28 gs28 ⟨s28, h, hl28, hρ, rfl⟩
      refine st_es hρ ?_
      refine st_if rfl h (fun h => ?_) (fun h => ?_)
      ·refine Z 2 rfl ?_
       refine o_assign rfl rfl rfl (ev_str z_str0) ?_
       refine Z 2 rfl ?_
       refine st_ord [] _ rfl ?_
       obtain rfl := he11 _ h
       replace h := hA11
       obtain rfl := Eq.symm h
       exact st_ret (gs' := []) Tryz.func80 rfl (List.Sublist.refl _) (((hl1.trans hl11).trans hl27).trans hl28) ⟨rfl, rfl⟩
      ·refine Z 8 rfl ?_
       refine o_litE (eI .u8) [(IntKind.u8.wrap (ior .i64 (ishl .i64 r17 4) r23))] rfl rfl rfl z_slT23 z_zero5 ⟨rfl, ⟨_, rfl, rfl⟩, trivial⟩ rfl rfl rfl rfl (fun v29 g30 ho31 => ?_)
       obtain ⟨hf35, hf36, h⟩ := h
       refine st_ord [1, 0] _ rfl ?_
       refine o_append (dk := (kI .u8)) (xs := s11.1) (ys := [(IntKind.u8.wrap (ior .i64 (ishl .i64 r17 4) r23))]) rfl rfl rfl rfl z_slT23 rfl (ho14.up (hl27.trans hl28)) rfl (Ow.src (j := 1) ho31 rfl) hf35 hf36 (fun v32 g33 ho34 => ?_)
       refine Z 8 rfl ?_
       refine st_ord [0] _ rfl ?_
       exact hn11 _ _ _ _ h ⟨((hl11.trans hl27).trans hl28), _, _, rfl, rfl, ho34⟩
     refine Z 3 rfl ?_
     refine o_mif rfl rfl rfl rfl h (fun h => ?_) (fun h => ?_)
     ·refine Z 4 rfl ?_
      exact hk28 _ _ _ ⟨true, h, (Sto.Le.refl _), rfl, rfl⟩
     ·refine Z 4 rfl ?_
      exact hk28 _ _ _ ⟨(decide (r23 < 0)), h, (Sto.Le.refl _), rfl, rfl⟩
    ·refine st_exit rfl ?_
     obtain rfl := he11 _ h
     replace h := hA11
     exact hk2 _ _ _ ⟨s11.1, _, _, h, hl11, rfl, rfl, ho14⟩
  refine Z 2 rfl ?_
  refine o_sbin (v := .bool (decide (a0 = (bstr [])))) rfl rfl rfl rfl (ev_str z_str0) rfl ?_
  refine o_mif rfl rfl rfl rfl h (fun h => ?_) (fun h => ?_)
  ·refine Z 6 rfl ?_
   exact hk1 _ _ _ ⟨true, h, (Sto.Le.refl _), rfl, rfl⟩
  ·refine Z 6 rfl ?_
   exact hk1 _ _ _ ⟨(!(decide (((a0.size : Int).tmod 2) = 0))), h, (Sto.Le.refl _), rfl, rfl⟩
theorem say_read_ok {a0 : Int × List Int × List (Int × Int) × List Int × ByteArray × ByteArray} {a1 : ByteArray × Int × Int × Int × Int × Int × Int} {a2 : ByteArray} {ba0 : Nat} {v1 : Value} {v2 : Value} {r : Int × (Int × List Int × List (Int × Int) × List Int × ByteArray × ByteArray)} (h : say_read a0 a1 a2 r) (σ : Sto) (hs3 : Sl (kP (kI .i64) (kI .i64)) σ v1 a0.2.2.1) (hs4 : Sl (kI .i64) σ v2 a0.2.2.2.1) (hE : Errs Tryz.prog σ) :
    Does Tryz.prog 44 [.pointer (some ⟨ba0, 0, none⟩), .agg [.string a1.1, .int .i64 a1.2.1, .int .i64 a1.2.2.1, .int .i64 a1.2.2.2.1, .int .i64 a1.2.2.2.2.1, .int .i64 a1.2.2.2.2.2.1, .int .i64 a1.2.2.2.2.2.2].toArray, .string a2] σ [[(ba0, .cells [.int .i64 a0.1, .int .i64 (a0.2.1.getD 0 0), .int .i64 (a0.2.1.getD 1 0), .int .i64 (a0.2.1.getD 2 0), .int .i64 (a0.2.1.getD 3 0), .int .i64 (a0.2.1.getD 4 0), .int .i64 (a0.2.1.getD 5 0), v1, v2, .string a0.2.2.2.2.1, .string a0.2.2.2.2.2].toArray 38 (0, 0))]] (fun v τ gs => ∃ (v38 : Value) (v39 : Value), gs = [[(ba0, .cells [.int .i64 r.2.1, .int .i64 (r.2.2.1.getD 0 0), .int .i64 (r.2.2.1.getD 1 0), .int .i64 (r.2.2.1.getD 2 0), .int .i64 (r.2.2.1.getD 3 0), .int .i64 (r.2.2.1.getD 4 0), .int .i64 (r.2.2.1.getD 5 0), v38, v39, .string r.2.2.2.2.2.1, .string r.2.2.2.2.2.2].toArray 38 (0, 0))]] ∧ .int .i64 r.1 = v ∧ Sl (kP (kI .i64) (kI .i64)) τ v38 r.2.2.2.1 ∧ Sl (kI .i64) τ v39 r.2.2.2.2.1) := by
 refine call_of Tryz.func44 Tryz.ntmps44 rfl rfl (fun cs fs => ?_)
 refine Z 2 rfl ?_
 refine o_boxC rfl rfl rfl rfl rfl rfl (fun b5 => ?_)
 refine Z 3 rfl ?_
 refine st_cut (fun ρ τ6 gs => ∃ (s6 : Int × Int × Int × Int × Int × Int × Int × (List (Int × Int)) × List Int × ByteArray × ByteArray) (v7 : Value) (v9 : Value), say_read_j1 a0 s6 r ∧ σ.Le τ6 ∧ ESub ρ [(6, .int .i64 s6.1)] ∧ gs = [[(ba0, .cells #[.int .i64 a0.1, .int .i64 s6.2.1, .int .i64 s6.2.2.1, .int .i64 s6.2.2.2.1, .int .i64 s6.2.2.2.2.1, .int .i64 s6.2.2.2.2.2.1, .int .i64 s6.2.2.2.2.2.2.1, v7, v9, .string s6.2.2.2.2.2.2.2.2.2.1, .string s6.2.2.2.2.2.2.2.2.2.2] 38 (0, 0))]] ∧ Sl (kP (kI .i64) (kI .i64)) τ6 v7 s6.2.2.2.2.2.2.2.1 ∧ Sl (kI .i64) τ6 v9 s6.2.2.2.2.2.2.2.2.1) ?_ (fun hk6 => ?_)
 ·rintro ρ6 τ6 gs6 ⟨s6, v7, v9, h, hl6, hρ, rfl, hs8, hs10⟩
  refine st_es hρ ?_
  refine Z 5 rfl ?_
  obtain rfl := Eq.symm h
  exact st_ret (gs' := [[(ba0, .cells #[.int .i64 a0.1, .int .i64 s6.2.1, .int .i64 s6.2.2.1, .int .i64 s6.2.2.2.1, .int .i64 s6.2.2.2.2.1, .int .i64 s6.2.2.2.2.2.1, .int .i64 s6.2.2.2.2.2.2.1, v7, v9, .string s6.2.2.2.2.2.2.2.2.2.1, .string s6.2.2.2.2.2.2.2.2.2.2] 38 (0, 0))]]) Tryz.func44 rfl (List.Sublist.refl _) hl6 ⟨_, _, rfl, rfl, hs8, hs10⟩
 refine ZZ 11 [0] rfl rfl ?_
 refine st_if rfl h (fun h => ?_) (fun h => ?_)
 ·refine Z 3 rfl ?_
  obtain ⟨r11, hr12, h⟩ := h
  refine st_call (foot := []) rfl rfl rfl rfl rfl rfl (callV_fn z_en78 (say_points_ok hr12 σ hE)) ?_
  rintro vτ13 τ13 gsτ13 hl14 ⟨v15, rfl, rfl, hs16⟩
  refine Z 5 rfl ?_
  refine o_store (j := 1) (vs := [v15]) (cs' := [.int .i64 a0.1, .int .i64 (a0.2.1.getD 0 0), .int .i64 (a0.2.1.getD 1 0), .int .i64 (a0.2.1.getD 2 0), .int .i64 (a0.2.1.getD 3 0), .int .i64 (a0.2.1.getD 4 0), .int .i64 (a0.2.1.getD 5 0), v15, v2, .string a0.2.2.2.2.1, .string a0.2.2.2.2.2]) rfl rfl rfl z_size36 rfl rfl (oneL_sl hs16) (ones_cons hs16.one' ones_nil) rfl rfl rfl ?_
  refine st_gs [[(b5, .cells #[.string a1.1, .int .i64 a1.2.1, .int .i64 a1.2.2.1, .int .i64 a1.2.2.2.1, .int .i64 a1.2.2.2.2.1, .int .i64 a1.2.2.2.2.2.1, .int .i64 a1.2.2.2.2.2.2] 96 (0, 0))], [(ba0, .cells #[.int .i64 a0.1, .int .i64 (a0.2.1.getD 0 0), .int .i64 (a0.2.1.getD 1 0), .int .i64 (a0.2.1.getD 2 0), .int .i64 (a0.2.1.getD 3 0), .int .i64 (a0.2.1.getD 4 0), .int .i64 (a0.2.1.getD 5 0), v15, v2, .string a0.2.2.2.2.1, .string a0.2.2.2.2.2] 38 (0, 0))]] rfl ?_
  refine Z 3 rfl ?_
  refine st_ord [1] _ rfl ?_
  exact hk6 _ _ _ ⟨(r11.2, (a0.2.1.getD 0 0), (a0.2.1.getD 1 0), (a0.2.1.getD 2 0), (a0.2.1.getD 3 0), (a0.2.1.getD 4 0), (a0.2.1.getD 5 0), r11.1, a0.2.2.2.1, a0.2.2.2.2.1, a0.2.2.2.2.2), _, _, h, hl14, rfl, rfl, hs16, (hs4.up hl14)⟩
 ·refine Z 5 rfl ?_
  refine st_if rfl h (fun h => ?_) (fun h => ?_)
  ·refine Z 3 rfl ?_
   obtain ⟨r17, hr18, h⟩ := h
   refine st_call (foot := []) rfl rfl rfl rfl rfl rfl (callV_fn z_en79 (say_cells_ok hr18 σ hE)) ?_
   rintro vτ19 τ19 gsτ19 hl20 ⟨v21, rfl, rfl, hs22⟩
   refine Z 5 rfl ?_
   refine o_store (j := 1) (vs := [v21]) (cs' := [.int .i64 a0.1, .int .i64 (a0.2.1.getD 0 0), .int .i64 (a0.2.1.getD 1 0), .int .i64 (a0.2.1.getD 2 0), .int .i64 (a0.2.1.getD 3 0), .int .i64 (a0.2.1.getD 4 0), .int .i64 (a0.2.1.getD 5 0), v1, v21, .string a0.2.2.2.2.1, .string a0.2.2.2.2.2]) rfl rfl rfl z_size27 rfl rfl (oneL_sl hs22) (ones_cons hs22.one' ones_nil) rfl rfl rfl ?_
   refine st_gs [[(b5, .cells #[.string a1.1, .int .i64 a1.2.1, .int .i64 a1.2.2.1, .int .i64 a1.2.2.2.1, .int .i64 a1.2.2.2.2.1, .int .i64 a1.2.2.2.2.2.1, .int .i64 a1.2.2.2.2.2.2] 96 (0, 0))], [(ba0, .cells #[.int .i64 a0.1, .int .i64 (a0.2.1.getD 0 0), .int .i64 (a0.2.1.getD 1 0), .int .i64 (a0.2.1.getD 2 0), .int .i64 (a0.2.1.getD 3 0), .int .i64 (a0.2.1.getD 4 0), .int .i64 (a0.2.1.getD 5 0), v1, v21, .string a0.2.2.2.2.1, .string a0.2.2.2.2.2] 38 (0, 0))]] rfl ?_
   refine Z 3 rfl ?_
   refine st_ord [1] _ rfl ?_
   exact hk6 _ _ _ ⟨(r17.2, (a0.2.1.getD 0 0), (a0.2.1.getD 1 0), (a0.2.1.getD 2 0), (a0.2.1.getD 3 0), (a0.2.1.getD 4 0), (a0.2.1.getD 5 0), a0.2.2.1, r17.1, a0.2.2.2.2.1, a0.2.2.2.2.2), _, _, h, hl20, rfl, rfl, (hs3.up hl20), hs22⟩
  ·refine Z 5 rfl ?_
   refine st_if rfl h (fun h => ?_) (fun h => ?_)
   ·refine Z 3 rfl ?_
    obtain ⟨r23, hr24, h⟩ := h
    refine st_call (foot := []) rfl rfl rfl rfl rfl rfl (callV_fn z_en80 (say_unhex_ok hr24 σ)) ?_
    rintro vτ25 τ25 gsτ25 hl26 ⟨rfl, rfl⟩
    refine ZZ 9 [1] rfl rfl ?_
    refine st_ord [1] _ rfl ?_
    exact hk6 _ _ _ ⟨(r23.2, (a0.2.1.getD 0 0), (a0.2.1.getD 1 0), (a0.2.1.getD 2 0), (a0.2.1.getD 3 0), (a0.2.1.getD 4 0), (a0.2.1.getD 5 0), a0.2.2.1, a0.2.2.2.1, r23.1, a0.2.2.2.2.2), _, _, h, hl26, rfl, rfl, (hs3.up hl26), (hs4.up hl26)⟩
   ·refine Z 5 rfl ?_
    refine st_if rfl h (fun h => ?_) (fun h => ?_)
    ·refine Z 3 rfl ?_
     obtain ⟨r27, hr28, h⟩ := h
     refine st_call (foot := []) rfl rfl rfl rfl rfl rfl (callV_fn z_en80 (say_unhex_ok hr28 σ)) ?_
     rintro vτ29 τ29 gsτ29 hl30 ⟨rfl, rfl⟩
     refine ZZ 9 [1] rfl rfl ?_
     refine st_ord [1] _ rfl ?_
     exact hk6 _ _ _ ⟨(r27.2, (a0.2.1.getD 0 0), (a0.2.1.getD 1 0), (a0.2.1.getD 2 0), (a0.2.1.getD 3 0), (a0.2.1.getD 4 0), (a0.2.1.getD 5 0), a0.2.2.1, a0.2.2.2.1, a0.2.2.2.2.1, r27.1), _, _, h, hl30, rfl, rfl, (hs3.up hl30), (hs4.up hl30)⟩
    ·obtain ⟨r31, hr32, hf35, hf36, h⟩ := h
     refine st_d41 [[(b5, .cells #[.string a1.1, .int .i64 a1.2.1, .int .i64 a1.2.2.1, .int .i64 a1.2.2.2.1, .int .i64 a1.2.2.2.2.1, .int .i64 a1.2.2.2.2.2.1, .int .i64 a1.2.2.2.2.2.2] 96 (0, 0))]] [[(ba0, .cells #[.int .i64 a0.1, .int .i64 (a0.2.1.getD 0 0), .int .i64 (a0.2.1.getD 1 0), .int .i64 (a0.2.1.getD 2 0), .int .i64 (a0.2.1.getD 3 0), .int .i64 (a0.2.1.getD 4 0), .int .i64 (a0.2.1.getD 5 0), v1, v2, .string a0.2.2.2.2.1, .string a0.2.2.2.2.2] 38 (0, 0))]] 12 1 [none, none, none, none, none, none, none, none, none, none, none, some (0, 0)] [none, none, none, none, none, none, none, none, none, none, none, none] [[none, none]] [.v (.pointer (some ⟨ba0, 0, none⟩)), .v (.pointer (some ⟨b5, 2, none⟩)), .v (.int .i64 a1.2.2.1), .v (.string a2), .v (.tuple #[.int .i64 r31.1, .int .i64 r31.2]), .v (.tuple #[.int .i64 r31.1, .int .i64 r31.2]), .v (.int .i64 r31.1), .v (.int .i64 r31.2), .v (.pointer (some ⟨ba0, 0, none⟩)), .v (.pointer (some ⟨ba0, 1, none⟩)), .v (.pointer (some ⟨ba0, 1 + a1.2.2.1.toNat * 1, none⟩)), .t fun _ _ => True] [[fun τ u F => F = [[(ba0, .cells #[.int .i64 a0.1, .int .i64 (a0.2.1.getD 0 0), .int .i64 (a0.2.1.getD 1 0), .int .i64 (a0.2.1.getD 2 0), .int .i64 (a0.2.1.getD 3 0), .int .i64 (a0.2.1.getD 4 0), .int .i64 (a0.2.1.getD 5 0), v1, v2, .string a0.2.2.2.2.1, .string a0.2.2.2.2.2] 38 (0, 0))]], fun τ u F => F = [[(ba0, .cells #[.int .i64 a0.1, .int .i64 ((putN 6 0 a0.2.1 a1.2.2.1.toNat r31.1).getD 0 0), .int .i64 ((putN 6 0 a0.2.1 a1.2.2.1.toNat r31.1).getD 1 0), .int .i64 ((putN 6 0 a0.2.1 a1.2.2.1.toNat r31.1).getD 2 0), .int .i64 ((putN 6 0 a0.2.1 a1.2.2.1.toNat r31.1).getD 3 0), .int .i64 ((putN 6 0 a0.2.1 a1.2.2.1.toNat r31.1).getD 4 0), .int .i64 ((putN 6 0 a0.2.1 a1.2.2.1.toNat r31.1).getD 5 0), v1, v2, .string a0.2.2.2.2.1, .string a0.2.2.2.2.2] 38 (0, 0))]]]] rfl z_mix rfl ⟨fun _ _ _ _ _ => trivial, trivial⟩ ⟨⟨fun _ _ _ _ hl h => h, ⟨fun _ _ _ _ hl h => h, trivial⟩⟩, trivial⟩ rfl rfl ?_ (allB_cons (allB_cons (allB_cons (allB_cons (allB_cons (allB_cons (allB_cons (allB_cons (allB_cons (allB_cons (allB_cons (allB_cons allB_nil (p4 dA)) (p4 dA)) ?_) (p4 dA)) ?_) ?_) (p4 dA)) (p4 dA)) (p4 dA)) (p4 dA)) ?_) ?_) ?_
     ·exact rfl
     ·intro ρ' τ pool rs hl hd hout hw hk
      obtain ⟨_, e1, rfl⟩ := hd 1 rfl _ rfl
      refine o_load (j := 0) (v := .int .i64 a1.2.2.1) rfl rfl rfl z_sc3 e1 rfl rfl ?_
      exact hk _ _ (Sto.Le.refl _) rfl
     ·intro ρ' τ pool rs hl hd hout hw hk
      obtain ⟨_, e3, rfl⟩ := hd 3 rfl _ rfl
      refine st_call (foot := []) rfl rfl rfl rfl (evs_cons e3 rfl) rfl (callV_fn z_en66 (say_Read_ok hr32 τ (hE.up hl))) ?_
      rintro vτ33 τ33 gsτ33 hl34 ⟨rfl, rfl⟩
      exact hk _ _ hl34 rfl
     ·intro ρ' τ pool rs hl hd hout hw hk
      obtain ⟨_, e4, rfl⟩ := hd 4 rfl _ rfl
      refine o_move rfl rfl rfl e4 ?_
      exact hk _ _ (Sto.Le.refl _) rfl
     ·intro ρ' τ pool rs hl hd hout hw hk
      obtain ⟨_, e2, rfl⟩ := hd 2 rfl _ rfl
      obtain ⟨_, e9, rfl⟩ := hd 9 rfl _ rfl
      refine o_indexA rfl rfl rfl z_arr35 e9 e2 hf35 hf36 ?_
      exact hk _ _ (Sto.Le.refl _) rfl
     ·intro ρ' τ u Fv pool rs hl hI hu hd hout hw hk
      obtain ⟨_, e6, rfl⟩ := hd 6 rfl _ rfl
      obtain ⟨_, e10, rfl⟩ := hd 10 rfl _ rfl
      have hI0 := hI
      obtain rfl := hI
      refine st_gs [[(b5, .cells #[.string a1.1, .int .i64 a1.2.1, .int .i64 a1.2.2.1, .int .i64 a1.2.2.2.1, .int .i64 a1.2.2.2.2.1, .int .i64 a1.2.2.2.2.2.1, .int .i64 a1.2.2.2.2.2.2] 96 (0, 0))], [(ba0, .cells #[.int .i64 a0.1, .int .i64 (a0.2.1.getD 0 0), .int .i64 (a0.2.1.getD 1 0), .int .i64 (a0.2.1.getD 2 0), .int .i64 (a0.2.1.getD 3 0), .int .i64 (a0.2.1.getD 4 0), .int .i64 (a0.2.1.getD 5 0), v1, v2, .string a0.2.2.2.2.1, .string a0.2.2.2.2.2] 38 (0, 0))], pool] rfl ?_
      refine o_storeV (j := 1) (a1.2.2.1.toNat) (f := (Value.int .i64)) (zz := 0) (a := r31.1) (l := 6) (xs := a0.2.1) [.int .i64 a0.1] [v1, v2, .string a0.2.2.2.2.1, .string a0.2.2.2.2.2] rfl rfl rfl z_size3 e10 e6 rfl rfl rfl (by simp only [List.length_cons, List.length_nil] <;> omega) (by omega) ?_
      refine st_gs [[(b5, .cells #[.string a1.1, .int .i64 a1.2.1, .int .i64 a1.2.2.1, .int .i64 a1.2.2.2.1, .int .i64 a1.2.2.2.2.1, .int .i64 a1.2.2.2.2.2.1, .int .i64 a1.2.2.2.2.2.2] 96 (0, 0))], [(ba0, .cells #[.int .i64 a0.1, .int .i64 ((putN 6 0 a0.2.1 a1.2.2.1.toNat r31.1).getD 0 0), .int .i64 ((putN 6 0 a0.2.1 a1.2.2.1.toNat r31.1).getD 1 0), .int .i64 ((putN 6 0 a0.2.1 a1.2.2.1.toNat r31.1).getD 2 0), .int .i64 ((putN 6 0 a0.2.1 a1.2.2.1.toNat r31.1).getD 3 0), .int .i64 ((putN 6 0 a0.2.1 a1.2.2.1.toNat r31.1).getD 4 0), .int .i64 ((putN 6 0 a0.2.1 a1.2.2.1.toNat r31.1).getD 5 0), v1, v2, .string a0.2.2.2.2.1, .string a0.2.2.2.2.2] 38 (0, 0))], pool] rfl ?_
      exact hk _ _ [[(ba0, .cells #[.int .i64 a0.1, .int .i64 ((putN 6 0 a0.2.1 a1.2.2.1.toNat r31.1).getD 0 0), .int .i64 ((putN 6 0 a0.2.1 a1.2.2.1.toNat r31.1).getD 1 0), .int .i64 ((putN 6 0 a0.2.1 a1.2.2.1.toNat r31.1).getD 2 0), .int .i64 ((putN 6 0 a0.2.1 a1.2.2.1.toNat r31.1).getD 3 0), .int .i64 ((putN 6 0 a0.2.1 a1.2.2.1.toNat r31.1).getD 4 0), .int .i64 ((putN 6 0 a0.2.1 a1.2.2.1.toNat r31.1).getD 5 0), v1, v2, .string a0.2.2.2.2.1, .string a0.2.2.2.2.2] 38 (0, 0))]] (Sto.Le.refl _) trivial (by exact rfl)
     intro ρ' τ37 vals u Fv hl37 hI hu hv hout
     obtain rfl := hI
     refine st_gs [[(b5, .cells #[.string a1.1, .int .i64 a1.2.1, .int .i64 a1.2.2.1, .int .i64 a1.2.2.2.1, .int .i64 a1.2.2.2.2.1, .int .i64 a1.2.2.2.2.2.1, .int .i64 a1.2.2.2.2.2.2] 96 (0, 0))], [(ba0, .cells #[.int .i64 a0.1, .int .i64 ((putN 6 0 a0.2.1 a1.2.2.1.toNat r31.1).getD 0 0), .int .i64 ((putN 6 0 a0.2.1 a1.2.2.1.toNat r31.1).getD 1 0), .int .i64 ((putN 6 0 a0.2.1 a1.2.2.1.toNat r31.1).getD 2 0), .int .i64 ((putN 6 0 a0.2.1 a1.2.2.1.toNat r31.1).getD 3 0), .int .i64 ((putN 6 0 a0.2.1 a1.2.2.1.toNat r31.1).getD 4 0), .int .i64 ((putN 6 0 a0.2.1 a1.2.2.1.toNat r31.1).getD 5 0), v1, v2, .string a0.2.2.2.2.1, .string a0.2.2.2.2.2] 38 (0, 0))]] rfl ?_
     refine st_env (ρ' := [(16, .int .i64 r31.2), (6, .int .i64 0)]) ⟨(lv4 hv 7 rfl rfl rfl), (hout 6 rfl).trans rfl, trivial⟩ ?_
     refine Z 3 rfl ?_
     refine st_ord [1] _ rfl ?_
     exact hk6 _ _ _ ⟨(r31.2, ((putN 6 0 a0.2.1 a1.2.2.1.toNat r31.1).getD 0 0), ((putN 6 0 a0.2.1 a1.2.2.1.toNat r31.1).getD 1 0), ((putN 6 0 a0.2.1 a1.2.2.1.toNat r31.1).getD 2 0), ((putN 6 0 a0.2.1 a1.2.2.1.toNat r31.1).getD 3 0), ((putN 6 0 a0.2.1 a1.2.2.1.toNat r31.1).getD 4 0), ((putN 6 0 a0.2.1 a1.2.2.1.toNat r31.1).getD 5 0), a0.2.2.1, a0.2.2.2.1, a0.2.2.2.2.1, a0.2.2.2.2.2), _, _, h, hl37, rfl, rfl, (hs3.up hl37), (hs4.up hl37)⟩
theorem say_Parse_ok {a0 : ByteArray} {r : (Int × List Int × List (Int × Int) × List Int × ByteArray × ByteArray) × Int} (h : say_Parse a0 r) (σ : Sto) (hE : Errs Tryz.prog σ) :
    Does Tryz.prog 17 [.string a0] σ [] (fun v τ gs => ∃ (v111 : Value) (v112 : Value), gs = [] ∧ .tuple [.agg [.int .i64 r.1.1, .int .i64 (r.1.2.1.getD 0 0), .int .i64 (r.1.2.1.getD 1 0), .int .i64 (r.1.2.1.getD 2 0), .int .i64 (r.1.2.1.getD 3 0), .int .i64 (r.1.2.1.getD 4 0), .int .i64 (r.1.2.1.getD 5 0), v111, v112, .string r.1.2.2.2.2.1, .string r.1.2.2.2.2.2].toArray, .int .i64 r.2].toArray = v ∧ Sl (kP (kI .i64) (kI .i64)) τ v111 r.1.2.2.1 ∧ Sl (kI .i64) τ v112 r.1.2.2.2.1) := by
 refine call_of Tryz.func17 Tryz.ntmps17 rfl rfl (fun cs fs => ?_)
 refine Z 2 rfl ?_
 refine o_alloc rfl rfl rfl z_zero38 (fun b1 => ?_)
 refine Z 5 rfl ?_
 refine o_alloc rfl rfl rfl z_zero106 (fun b2 => ?_)
 refine Z 5 rfl ?_
 obtain ⟨r3, hr4, h⟩ := h
 refine st_call (foot := []) rfl rfl rfl rfl rfl rfl (callV_fn z_en41 (say_Words_ok hr4 σ)) ?_
 rintro vτ5 τ5 gsτ5 hl6 ⟨f7, q8, rfl, rfl, hit9⟩
 refine Z 2 rfl ?_
 obtain ⟨t10, w10, hR10, hA10⟩ := h
 refine st_env (ρ' := [(2, .pointer (some ⟨b1, 0, none⟩)), (3, .int .i64 0), (4, .pointer (some ⟨b2, 0, none⟩)), (18, .func (.func f7) #[] q8)]) ⟨rfl, rfl, rfl, rfl, trivial⟩ ?_
 refine st_addNil ?_
 refine st_ord [2, 1, 0] _ rfl ?_
 refine st_addNil ?_
 refine st_range (B := say_Parse_l1) (s0 := []) ranges_fctx rfl hit9 (Sto.Le.refl _) hR10 rfl (fun _ _ _ h => by cases h; rfl) (fun (s10 : List ByteArray) τ10 gs => τ5.Le τ10 ∧ ∃ (v11 : Value) (g12 : Grp), gs = [[(b1, .cells #[.int .i64 0, .int .i64 0, .int .i64 0, .int .i64 0, .int .i64 0, .int .i64 0, .int .i64 0, .slice none 0 0, .slice none 0 0, .string (bstr []), .string (bstr [])] 38 (0, 0))], [(b2, .cells #[v11] 106 (0, 0))], g12] ∧ Ow kS 9 τ10 v11 s10 g12) (fun _ _ _ _ => False) (fun _ _ _ _ hl ⟨hb, v11, g12, hg, ho13⟩ => ⟨hb.trans hl, v11, g12, hg, ho13.up hl⟩) (fun _ _ _ _ _ _ h => h.elim) ⟨Sto.Le.refl _, _, _, rfl, Ow.nil⟩ ?_ ?_ ?_
 ·rintro x10 s10 o10 τ10 gs10 vx10 hl10 h rfl ⟨hb10, v11, g12, rfl, ho13⟩ l10 rc10 caller10 cs10 fs10
  refine Z 3 rfl ?_
  refine st_begin ?_
  refine ZZ 4 [1] rfl rfl ?_
  refine o_litE eS [x10.2] rfl rfl rfl z_slT106 z_zero9 ⟨rfl, ⟨_, rfl, rfl⟩, trivial⟩ rfl rfl rfl rfl (fun v14 g15 ho16 => ?_)
  obtain ⟨hf20, hf21, h⟩ := h
  refine st_ord [3, 0, 0, 0] _ rfl ?_
  refine o_append (dk := kS) (xs := s10) (ys := [x10.2]) rfl rfl rfl rfl z_slT106 rfl ho13 rfl (Ow.src (j := 1) ho16 rfl) hf20 hf21 (fun v17 g18 ho19 => ?_)
  refine o_store (j := 3) (vs := [v17]) (cs' := [v17]) rfl rfl rfl z_size106 rfl rfl (oneL_ow ho19) (ones_cons ho19.one' ones_nil) rfl rfl rfl ?_
  refine st_gs [g18, g15, [(b1, .cells #[.int .i64 0, .int .i64 0, .int .i64 0, .int .i64 0, .int .i64 0, .int .i64 0, .int .i64 0, .slice none 0 0, .slice none 0 0, .string (bstr []), .string (bstr [])] 38 (0, 0))], [(b2, .cells #[v17] 106 (0, 0))]] rfl ?_
  refine Z 2 rfl ?_
  refine st_ord [2, 2, 0] _ rfl ?_
  exact st_rend (List.Sublist.refl _) (Sto.Le.refl _) ⟨_, h, hl10, _, _, rfl, ho19⟩
 ·rintro p22 τ23 gs10 f10 ht hl24 ⟨hb, v25, g26, rfl, ho27⟩ rfl
  subst ht
  replace h := hA10
  refine st_ord [1, 1, 1] _ rfl ?_
  refine Z 4 rfl ?_
  refine o_alloc rfl rfl rfl z_zero110 (fun b28 => ?_)
  refine ZZ 5 [0, 0] rfl rfl ?_
  obtain ⟨r33, hr34, h⟩ := h
  refine st_ord [3, 0, 0, 0] _ rfl ?_
  refine st_freeze (fun τ29 hl30 hg31 => ?_)
  have hs32 := ho27.freeze hl30 hg31
  refine st_ord [2, 0, 0] _ rfl ?_
  refine st_call (foot := [[(b2, .cells #[v25] 106 (0, 0))]]) rfl rfl rfl rfl rfl rfl (callV_of2 (caps := [.pointer (some ⟨b2, 0, none⟩)]) z_en42 (say_Parse_1_ok hr34 τ29 hs32) rfl) ?_
  rintro vτ35 τ35 gsτ35 hl36 ⟨v37, rfl, rfl, hs38⟩
  refine Z 9 rfl ?_
  obtain ⟨r39, hr40, h⟩ := h
  refine st_call (foot := []) rfl rfl rfl rfl rfl rfl (callV_fn z_en43 (field_Kind_ok hr40 τ35)) ?_
  rintro vτ41 τ41 gsτ41 hl42 ⟨rfl, rfl⟩
  refine ZZ 1 [] rfl rfl ?_
  refine o_alloc rfl rfl rfl z_zero38 (fun b43 => ?_)
  refine ZZ 4 [0] rfl rfl ?_
  refine o_alloc rfl rfl rfl z_zero46 (fun b44 => ?_)
  refine ZZ 3 [0] rfl rfl ?_
  refine st_cut (fun ρ τ45 gs => ∃ (s45 : Int), say_Parse_j2 r33 r39 s45 r ∧ τ41.Le τ45 ∧ ESub ρ [(2, .pointer (some ⟨b1, 0, none⟩)), (3, .int .i64 0), (4, .pointer (some ⟨b2, 0, none⟩)), (7, .pointer (some ⟨b28, 0, none⟩)), (10, .pointer (some ⟨b43, 0, none⟩)), (11, .pointer (some ⟨b44, 0, none⟩))] ∧ gs = [[(b1, .cells #[.int .i64 0, .int .i64 0, .int .i64 0, .int .i64 0, .int .i64 0, .int .i64 0, .int .i64 0, .slice none 0 0, .slice none 0 0, .string (bstr []), .string (bstr [])] 38 (0, 0))], [(b2, .cells #[v37] 106 (0, 0))], [(b28, .cells #[.func (.func 42) #[] #[.pointer (some ⟨b2, 0, none⟩)]] 110 (0, 0))], [(b43, .cells #[.int .i64 r39, .int .i64 0, .int .i64 0, .int .i64 0, .int .i64 0, .int .i64 0, .int .i64 0, .slice none 0 0, .slice none 0 0, .string (bstr []), .string (bstr [])] 38 (0, 0))], [(b44, .cells #[.int .i64 s45] 46 (0, 0))]]) ?_ (fun hk45 => ?_)
  ·rintro ρ45 τ45 gs45 ⟨s45, h, hl45, hρ, rfl⟩
   refine st_es hρ ?_
   refine Z 3 rfl ?_
   refine st_cut (fun ρ τ46 gs => ∃ (s46 : List ByteArray × Int × Int × Int × Int × Int × Int × Int × (List (Int × Int)) × List Int × ByteArray × ByteArray × Int) (v47 : Value) (v49 : Value) (v51 : Value), say_Parse_j3 s46 r ∧ τ45.Le τ46 ∧ ESub ρ [(2, .pointer (some ⟨b1, 0, none⟩)), (3, .int .i64 0), (4, .pointer (some ⟨b2, 0, none⟩)), (10, .pointer (some ⟨b43, 0, none⟩)), (11, .pointer (some ⟨b44, 0, none⟩))] ∧ gs = [[(b1, .cells #[.int .i64 0, .int .i64 0, .int .i64 0, .int .i64 0, .int .i64 0, .int .i64 0, .int .i64 0, .slice none 0 0, .slice none 0 0, .string (bstr []), .string (bstr [])] 38 (0, 0))], [(b2, .cells #[v47] 106 (0, 0))], [(b43, .cells #[.int .i64 s46.2.1, .int .i64 s46.2.2.1, .int .i64 s46.2.2.2.1, .int .i64 s46.2.2.2.2.1, .int .i64 s46.2.2.2.2.2.1, .int .i64 s46.2.2.2.2.2.2.1, .int .i64 s46.2.2.2.2.2.2.2.1, v49, v51, .string s46.2.2.2.2.2.2.2.2.2.2.1, .string s46.2.2.2.2.2.2.2.2.2.2.2.1] 38 (0, 0))], [(b44, .cells #[.int .i64 s46.2.2.2.2.2.2.2.2.2.2.2.2] 46 (0, 0))]] ∧ Sl kS τ46 v47 s46.1 ∧ Sl (kP (kI .i64) (kI .i64)) τ46 v49 s46.2.2.2.2.2.2.2.2.1 ∧ Sl (kI .i64) τ46 v51 s46.2.2.2.2.2.2.2.2.2.1) ?_ (fun hk46 => ?_)
   ·rintro ρ46 τ46 gs46 ⟨s46, v47, v49, v51, h, hl46, hρ, rfl, hs48, hs50, hs52⟩
    refine st_es hρ ?_
    refine ZZ 8 [3] rfl rfl ?_
    refine st_if rfl h (fun h => ?_) (fun h => ?_)
    ·refine st_seq ?_
     refine st_d40 3 [.v (.agg #[.int .i64 0, .int .i64 0, .int .i64 0, .int .i64 0, .int .i64 0, .int .i64 0, .int .i64 0, .slice none 0 0, .slice none 0 0, .string (bstr []), .string (bstr [])]), .v (.int .i64 s46.2.2.2.2.2.2.2.2.2.2.2.2), .t fun _ _ => True] z_mix rfl ⟨fun _ _ _ _ _ => trivial, trivial⟩ (allB_cons (allB_cons (allB_cons allB_nil ?_) ?_) ?_) ?_
     ·intro ρ' τ pool rs hl hd hout hw hk
      refine ZZ 1 [] rfl rfl ?_
      exact hk _ _ (Sto.Le.refl _) rfl
     ·intro ρ' τ pool rs hl hd hout hw hk
      refine o_load (j := 3) (v := .int .i64 s46.2.2.2.2.2.2.2.2.2.2.2.2) rfl rfl rfl z_sc46 ((hout 11 rfl).trans rfl) rfl rfl ?_
      exact hk _ _ (Sto.Le.refl _) rfl
     ·intro ρ' τ pool rs hl hd hout hw hk
      obtain ⟨_, e0, rfl⟩ := hd 0 rfl _ rfl
      refine o_store (j := 0) (vs := [.int .i64 0, .int .i64 0, .int .i64 0, .int .i64 0, .int .i64 0, .int .i64 0, .int .i64 0, .slice none 0 0, .slice none 0 0, .string (bstr []), .string (bstr [])]) (cs' := [.int .i64 0, .int .i64 0, .int .i64 0, .int .i64 0, .int .i64 0, .int .i64 0, .int .i64 0, .slice none 0 0, .slice none 0 0, .string (bstr []), .string (bstr [])]) rfl rfl rfl z_size38 ((hout 2 rfl).trans rfl) e0 rfl (ones_cons rfl (ones_cons rfl (ones_cons rfl (ones_cons rfl (ones_cons rfl (ones_cons rfl (ones_cons rfl (ones_cons rfl (ones_cons rfl (ones_cons rfl (ones_cons rfl ones_nil))))))))))) rfl rfl rfl ?_
      refine st_gs [[(b1, .cells #[.int .i64 0, .int .i64 0, .int .i64 0, .int .i64 0, .int .i64 0, .int .i64 0, .int .i64 0, .slice none 0 0, .slice none 0 0, .string (bstr []), .string (bstr [])] 38 (0, 0))], [(b2, .cells #[v47] 106 (0, 0))], [(b43, .cells #[.int .i64 s46.2.1, .int .i64 s46.2.2.1, .int .i64 s46.2.2.2.1, .int .i64 s46.2.2.2.2.1, .int .i64 s46.2.2.2.2.2.1, .int .i64 s46.2.2.2.2.2.2.1, .int .i64 s46.2.2.2.2.2.2.2.1, v49, v51, .string s46.2.2.2.2.2.2.2.2.2.2.1, .string s46.2.2.2.2.2.2.2.2.2.2.2.1] 38 (0, 0))], [(b44, .cells #[.int .i64 s46.2.2.2.2.2.2.2.2.2.2.2.2] 46 (0, 0))], pool] rfl ?_
      exact hk _ _ (Sto.Le.refl _) trivial
     intro ρ' τ53 vals hl53 hv hout
     refine st_env (ρ' := [(68, .int .i64 s46.2.2.2.2.2.2.2.2.2.2.2.2), (2, .pointer (some ⟨b1, 0, none⟩)), (3, .int .i64 0), (10, .pointer (some ⟨b43, 0, none⟩))]) ⟨(lv4 hv 1 rfl rfl rfl), (hout 2 rfl).trans rfl, (hout 3 rfl).trans rfl, (hout 10 rfl).trans rfl, trivial⟩ ?_
     refine Z 2 rfl ?_
     obtain rfl := Eq.symm h
     exact st_retC (gs' := []) [.agg #[.int .i64 0, .int .i64 0, .int .i64 0, .int .i64 0, .int .i64 0, .int .i64 0, .int .i64 0, .slice none 0 0, .slice none 0 0, .string (bstr []), .string (bstr [])], .int .i64 s46.2.2.2.2.2.2.2.2.2.2.2.2] Tryz.func17 ⟨⟨_, _, _, _, rfl, mem_flat 0 rfl, fun w hw => cellOfN (vs := [.int .i64 0, .int .i64 0, .int .i64 0, .int .i64 0, .int .i64 0, .int .i64 0, .int .i64 0, .slice none 0 0, .slice none 0 0, .string (bstr []), .string (bstr [])]) z_agg38 rfl w hw⟩, rfl, trivial⟩ (by simp) (((((((hl6.trans hl24).trans hl30).trans hl36).trans hl42).trans hl45).trans hl46).trans hl53) ⟨_, _, rfl, rfl, Sl.nil, Sl.nil⟩
    ·refine ZZ 3 [1] rfl rfl ?_
     refine o_lenI rfl rfl rfl z_slT106 rfl hs48 ?_
     refine Z 3 rfl ?_
     refine st_if rfl h (fun h => ?_) (fun h => ?_)
     ·refine ZZ 6 [0] rfl rfl ?_
      obtain rfl := Eq.symm h
      exact st_retC (gs' := []) [.agg #[.int .i64 0, .int .i64 0, .int .i64 0, .int .i64 0, .int .i64 0, .int .i64 0, .int .i64 0, .slice none 0 0, .slice none 0 0, .string (bstr []), .string (bstr [])], .int .i64 6] Tryz.func17 ⟨⟨_, _, _, _, rfl, mem_flat 0 rfl, fun w hw => cellOfN (vs := [.int .i64 0, .int .i64 0, .int .i64 0, .int .i64 0, .int .i64 0, .int .i64 0, .int .i64 0, .slice none 0 0, .slice none 0 0, .string (bstr []), .string (bstr [])]) z_agg38 rfl w hw⟩, rfl, trivial⟩ (by simp) ((((((hl6.trans hl24).trans hl30).trans hl36).trans hl42).trans hl45).trans hl46) ⟨_, _, rfl, rfl, Sl.nil, Sl.nil⟩
     ·refine ZZ 6 [2] rfl rfl ?_
      obtain ⟨r54, hr55, h⟩ := h
      refine st_call (foot := []) rfl rfl rfl rfl rfl rfl (callV_fn z_en18 (msg_Check_ok hr55 τ46 hs50 hs52)) ?_
      rintro vτ56 τ56 gsτ56 hl57 ⟨rfl, rfl⟩
      refine Z 7 rfl ?_
      refine st_if rfl h (fun h => ?_) (fun h => ?_)
      ·refine ZZ 7 [0] rfl rfl ?_
       obtain rfl := Eq.symm h
       exact st_retC (gs' := []) [.agg #[.int .i64 0, .int .i64 0, .int .i64 0, .int .i64 0, .int .i64 0, .int .i64 0, .int .i64 0, .slice none 0 0, .slice none 0 0, .string (bstr []), .string (bstr [])], .int .i64 r54] Tryz.func17 ⟨⟨_, _, _, _, rfl, mem_flat 0 rfl, fun w hw => cellOfN (vs := [.int .i64 0, .int .i64 0, .int .i64 0, .int .i64 0, .int .i64 0, .int .i64 0, .int .i64 0, .slice none 0 0, .slice none 0 0, .string (bstr []), .string (bstr [])]) z_agg38 rfl w hw⟩, rfl, trivial⟩ (by simp) (((((((hl6.trans hl24).trans hl30).trans hl36).trans hl42).trans hl45).trans hl46).trans hl57) ⟨_, _, rfl, rfl, Sl.nil, Sl.nil⟩
      ·refine ZZ 4 [2] rfl rfl ?_
       refine o_store (j := 0) (vs := [.int .i64 s46.2.1, .int .i64 s46.2.2.1, .int .i64 s46.2.2.2.1, .int .i64 s46.2.2.2.2.1, .int .i64 s46.2.2.2.2.2.1, .int .i64 s46.2.2.2.2.2.2.1, .int .i64 s46.2.2.2.2.2.2.2.1, v49, v51, .string s46.2.2.2.2.2.2.2.2.2.2.1, .string s46.2.2.2.2.2.2.2.2.2.2.2.1]) (cs' := [.int .i64 s46.2.1, .int .i64 s46.2.2.1, .int .i64 s46.2.2.2.1, .int .i64 s46.2.2.2.2.1, .int .i64 s46.2.2.2.2.2.1, .int .i64 s46.2.2.2.2.2.2.1, .int .i64 s46.2.2.2.2.2.2.2.1, v49, v51, .string s46.2.2.2.2.2.2.2.2.2.2.1, .string s46.2.2.2.2.2.2.2.2.2.2.2.1]) rfl rfl rfl z_size38 rfl rfl rfl (ones_cons rfl (ones_cons rfl (ones_cons rfl (ones_cons rfl (ones_cons rfl (ones_cons rfl (ones_cons rfl (ones_cons (hs50.up hl57).one' (ones_cons (hs52.up hl57).one' (ones_cons rfl (ones_cons rfl ones_nil))))))))))) rfl rfl rfl ?_
       refine st_gs [[(b1, .cells #[.int .i64 s46.2.1, .int .i64 s46.2.2.1, .int .i64 s46.2.2.2.1, .int .i64 s46.2.2.2.2.1, .int .i64 s46.2.2.2.2.2.1, .int .i64 s46.2.2.2.2.2.2.1, .int .i64 s46.2.2.2.2.2.2.2.1, v49, v51, .string s46.2.2.2.2.2.2.2.2.2.2.1, .string s46.2.2.2.2.2.2.2.2.2.2.2.1] 38 (0, 0))], [(b2, .cells #[v47] 106 (0, 0))], [(b43, .cells #[.int .i64 s46.2.1, .int .i64 s46.2.2.1, .int .i64 s46.2.2.2.1, .int .i64 s46.2.2.2.2.1, .int .i64 s46.2.2.2.2.2.1, .int .i64 s46.2.2.2.2.2.2.1, .int .i64 s46.2.2.2.2.2.2.2.1, v49, v51, .string s46.2.2.2.2.2.2.2.2.2.2.1, .string s46.2.2.2.2.2.2.2.2.2.2.2.1] 38 (0, 0))], [(b44, .cells #[.int .i64 s46.2.2.2.2.2.2.2.2.2.2.2.2] 46 (0, 0))]] rfl ?_
       refine Z 2 rfl ?_
       obtain rfl := Eq.symm h
       exact st_retC (gs' := []) [.agg #[.int .i64 s46.2.1, .int .i64 s46.2.2.1, .int .i64 s46.2.2.2.1, .int .i64 s46.2.2.2.2.1, .int .i64 s46.2.2.2.2.2.1, .int .i64 s46.2.2.2.2.2.2.1, .int .i64 s46.2.2.2.2.2.2.2.1, v49, v51, .string s46.2.2.2.2.2.2.2.2.2.2.1, .string s46.2.2.2.2.2.2.2.2.2.2.2.1], .int .i64 0] Tryz.func17 ⟨⟨_, _, _, _, rfl, mem_flat 0 rfl, fun w hw => cellOfN (vs := [.int .i64 s46.2.1, .int .i64 s46.2.2.1, .int .i64 s46.2.2.2.1, .int .i64 s46.2.2.2.2.1, .int .i64 s46.2.2.2.2.2.1, .int .i64 s46.2.2.2.2.2.2.1, .int .i64 s46.2.2.2.2.2.2.2.1, v49, v51, .string s46.2.2.2.2.2.2.2.2.2.2.1, .string s46.2.2.2.2.2.2.2.2.2.2.2.1]) z_agg38 rfl w hw⟩, rfl, trivial⟩ (by simp) (((((((hl6.trans hl24).trans hl30).trans hl36).trans hl42).trans hl45).trans hl46).trans hl57) ⟨_, _, rfl, rfl, (hs50.up hl57), (hs52.up hl57)⟩
   refine ZZ 4 [3] rfl rfl ?_
   obtain ⟨r58, hr59, h⟩ := h
   refine st_call (foot := []) rfl rfl rfl rfl rfl rfl (callV_fn z_en34 (field_All_ok hr59 τ45)) ?_
   rintro vτ60 τ60 gsτ60 hl61 ⟨f62, q63, rfl, rfl, hit64⟩
   refine Z 2 rfl ?_
   obtain ⟨t65, w65, hR65, hA65⟩ := h
   refine st_env (ρ' := [(2, .pointer (some ⟨b1, 0, none⟩)), (3, .int .i64 0), (4, .pointer (some ⟨b2, 0, none⟩)), (7, .pointer (some ⟨b28, 0, none⟩)), (10, .pointer (some ⟨b43, 0, none⟩)), (11, .pointer (some ⟨b44, 0, none⟩)), (39, .func (.func f62) #[] q63)]) ⟨rfl, rfl, rfl, rfl, rfl, rfl, rfl, trivial⟩ ?_
   refine st_addNil ?_
   refine st_range (B := say_Parse_l4) (s0 := (r33.2.2, r39, 0, 0, 0, 0, 0, 0, [], [], (bstr []), (bstr []), s45)) ranges_fctx rfl hit64 (Sto.Le.refl _) hR65 rfl (fun _ _ _ h => by cases h; rfl) (fun (s65 : List ByteArray × Int × Int × Int × Int × Int × Int × Int × (List (Int × Int)) × List Int × ByteArray × ByteArray × Int) τ65 gs => τ60.Le τ65 ∧ ∃ (v66 : Value) (v68 : Value) (v70 : Value), gs = [[(b1, .cells #[.int .i64 0, .int .i64 0, .int .i64 0, .int .i64 0, .int .i64 0, .int .i64 0, .int .i64 0, .slice none 0 0, .slice none 0 0, .string (bstr []), .string (bstr [])] 38 (0, 0))], [(b2, .cells #[v66] 106 (0, 0))], [(b28, .cells #[.func (.func 42) #[] #[.pointer (some ⟨b2, 0, none⟩)]] 110 (0, 0))], [(b43, .cells #[.int .i64 s65.2.1, .int .i64 s65.2.2.1, .int .i64 s65.2.2.2.1, .int .i64 s65.2.2.2.2.1, .int .i64 s65.2.2.2.2.2.1, .int .i64 s65.2.2.2.2.2.2.1, .int .i64 s65.2.2.2.2.2.2.2.1, v68, v70, .string s65.2.2.2.2.2.2.2.2.2.2.1, .string s65.2.2.2.2.2.2.2.2.2.2.2.1] 38 (0, 0))], [(b44, .cells #[.int .i64 s65.2.2.2.2.2.2.2.2.2.2.2.2] 46 (0, 0))]] ∧ Sl kS τ65 v66 s65.1 ∧ Sl (kP (kI .i64) (kI .i64)) τ65 v68 s65.2.2.2.2.2.2.2.2.1 ∧ Sl (kI .i64) τ65 v70 s65.2.2.2.2.2.2.2.2.2.1) (fun (p93 : List ByteArray × Int × Int × Int × Int × Int × Int × Int × (List (Int × Int)) × List Int × ByteArray × ByteArray × Int) cd τ94 gs => cd = .exit 2 ∧ τ60.Le τ94 ∧ ∃ (v96 : Value) (v98 : Value) (v100 : Value), gs = [[(b1, .cells #[.int .i64 0, .int .i64 0, .int .i64 0, .int .i64 0, .int .i64 0, .int .i64 0, .int .i64 0, .slice none 0 0, .slice none 0 0, .string (bstr []), .string (bstr [])] 38 (0, 0))], [(b2, .cells #[v96] 106 (0, 0))], [(b28, .cells #[.func (.func 42) #[] #[.pointer (some ⟨b2, 0, none⟩)]] 110 (0, 0))], [(b43, .cells #[.int .i64 p93.2.1, .int .i64 p93.2.2.1, .int .i64 p93.2.2.2.1, .int .i64 p93.2.2.2.2.1, .int .i64 p93.2.2.2.2.2.1, .int .i64 p93.2.2.2.2.2.2.1, .int .i64 p93.2.2.2.2.2.2.2.1, v98, v100, .string p93.2.2.2.2.2.2.2.2.2.2.1, .string p93.2.2.2.2.2.2.2.2.2.2.2.1] 38 (0, 0))], [(b44, .cells #[.int .i64 p93.2.2.2.2.2.2.2.2.2.2.2.2] 46 (0, 0))]] ∧ Sl kS τ94 v96 p93.1 ∧ Sl (kP (kI .i64) (kI .i64)) τ94 v98 p93.2.2.2.2.2.2.2.2.1 ∧ Sl (kI .i64) τ94 v100 p93.2.2.2.2.2.2.2.2.2.1) (fun _ _ _ _ hl ⟨hb, v66, v68, v70, hg, hs67, hs69, hs71⟩ => ⟨hb.trans hl, v66, v68, v70, hg, hs67.up hl, hs69.up hl, hs71.up hl⟩) (fun _ _ _ _ _ hl ⟨hc, hb, v96, v98, v100, hg, hs97, hs99, hs101⟩ => ⟨hc, hb.trans hl, v96, v98, v100, hg, hs97.up hl, hs99.up hl, hs101.up hl⟩) ⟨Sto.Le.refl _, _, _, _, rfl, (hs38.up ((hl42.trans hl45).trans hl61)), Sl.nil, Sl.nil⟩ ?_ ?_ ?_
   ·rintro x65 s65 o65 τ65 gs65 vx65 hl65 h rfl ⟨hb65, v66, v68, v70, rfl, hs67, hs69, hs71⟩ l65 rc65 caller65 cs65 fs65
    refine st_region ?_
    refine o_alloc rfl rfl rfl z_zero96 (fun b72 => ?_)
    refine ZZ 2 [0] rfl rfl ?_
    refine st_begin ?_
    refine ZZ 4 [3] rfl rfl ?_
    obtain ⟨r73, hr74, h⟩ := h
    refine st_ord [2, 0, 0, 0, 0, 0] _ rfl ?_
    refine st_call (foot := [[(b2, .cells #[v66] 106 (0, 0))]]) rfl rfl rfl rfl rfl rfl (callV_of2 (caps := [.pointer (some ⟨b2, 0, none⟩)]) z_en42 (say_Parse_1_ok hr74 τ65 hs67) rfl) ?_
    rintro vτ75 τ75 gsτ75 hl76 ⟨v77, rfl, rfl, hs78⟩
    refine Z 12 rfl ?_
    refine st_if rfl h (fun h => ?_) (fun h => ?_)
    ·refine ZZ 4 [5] rfl rfl ?_
     refine st_ord [2, 0, 1, 1, 1] _ rfl ?_
     exact st_rexit rfl (List.Sublist.refl _) hl76 ⟨_, h, rfl, (hl65.trans hl76), _, _, _, rfl, hs78, (hs69.up hl76), (hs71.up hl76)⟩
    ·refine ZZ 9 [1] rfl rfl ?_
     refine st_if rfl h (fun h => ?_) (fun h => ?_)
     ·refine ZZ 4 [5] rfl rfl ?_
      refine st_ord [2, 0, 1, 1, 1] _ rfl ?_
      exact st_rexit rfl (List.Sublist.refl _) hl76 ⟨_, h, rfl, (hl65.trans hl76), _, _, _, rfl, hs78, (hs69.up hl76), (hs71.up hl76)⟩
     ·refine ZZ 4 [3] rfl rfl ?_
      obtain ⟨r79, hr80, h⟩ := h
      refine st_call (foot := [[(b2, .cells #[v77] 106 (0, 0))]]) rfl rfl rfl rfl rfl rfl (callV_of2 (caps := [.pointer (some ⟨b2, 0, none⟩)]) z_en42 (say_Parse_1_ok hr80 τ75 hs78) rfl) ?_
      rintro vτ81 τ81 gsτ81 hl82 ⟨v83, rfl, rfl, hs84⟩
      refine Z 12 rfl ?_
      refine st_if rfl h (fun h => ?_) (fun h => ?_)
      ·refine ZZ 4 [5] rfl rfl ?_
       refine st_ord [2, 0, 1, 1, 1] _ rfl ?_
       exact st_rexit rfl (List.Sublist.refl _) (hl76.trans hl82) ⟨_, h, rfl, ((hl65.trans hl76).trans hl82), _, _, _, rfl, hs84, (hs69.up (hl76.trans hl82)), (hs71.up (hl76.trans hl82))⟩
      ·refine ZZ 5 [1] rfl rfl ?_
       obtain ⟨r85, hr86, h⟩ := h
       refine st_ord [4, 0, 0, 0, 0, 0] _ rfl ?_
       refine st_call (foot := [[(b43, .cells #[.int .i64 s65.2.1, .int .i64 s65.2.2.1, .int .i64 s65.2.2.2.1, .int .i64 s65.2.2.2.2.1, .int .i64 s65.2.2.2.2.2.1, .int .i64 s65.2.2.2.2.2.2.1, .int .i64 s65.2.2.2.2.2.2.2.1, v68, v70, .string s65.2.2.2.2.2.2.2.2.2.2.1, .string s65.2.2.2.2.2.2.2.2.2.2.2.1] 38 (0, 0))]]) rfl rfl rfl rfl rfl rfl (callV_fn z_en44 (say_read_ok hr86 τ81 (hs69.up (hl76.trans hl82)) (hs71.up (hl76.trans hl82)) (hE.up (((((((((hl6.trans hl24).trans hl30).trans hl36).trans hl42).trans hl45).trans hl61).trans hl65).trans hl76).trans hl82)))) ?_
       rintro vτ87 τ87 gsτ87 hl88 ⟨v89, v90, rfl, rfl, hs91, hs92⟩
       refine ZZ 7 [5, 5] rfl rfl ?_
       refine st_if rfl h (fun h => ?_) (fun h => ?_)
       ·refine st_ord [3, 1, 2, 0, 1] _ rfl ?_
        exact st_rexit rfl (List.Sublist.refl _) ((hl76.trans hl82).trans hl88) ⟨_, h, rfl, (((hl65.trans hl76).trans hl82).trans hl88), _, _, _, rfl, (hs84.up hl88), hs91, hs92⟩
       ·refine Z 2 rfl ?_
        refine st_ord [3, 1, 2, 0, 1] _ rfl ?_
        exact st_rend (List.Sublist.refl _) ((hl76.trans hl82).trans hl88) ⟨_, h, (((hl65.trans hl76).trans hl82).trans hl88), _, _, _, rfl, (hs84.up hl88), hs91, hs92⟩
   ·rintro p102 τ103 gs65 f65 ht hl104 ⟨hb, v105, v107, v109, rfl, hs106, hs108, hs110⟩ rfl
    subst ht
    replace h := hA65
    refine st_ord [1, 1, 1, 1, 1] _ rfl ?_
    refine st_inBlock ?_
    refine st_ord [0, 0, 1, 1] _ rfl ?_
    exact hk46 _ _ _ ⟨(p102.1, p102.2.1, p102.2.2.1, p102.2.2.2.1, p102.2.2.2.2.1, p102.2.2.2.2.2.1, p102.2.2.2.2.2.2.1, p102.2.2.2.2.2.2.2.1, p102.2.2.2.2.2.2.2.2.1, p102.2.2.2.2.2.2.2.2.2.1, p102.2.2.2.2.2.2.2.2.2.2.1, p102.2.2.2.2.2.2.2.2.2.2.2.1, p102.2.2.2.2.2.2.2.2.2.2.2.2), _, _, _, h, (hl61.trans hl104), rfl, rfl, hs106, hs108, hs110⟩
   ·rintro p93 cd65 τ94 gs65 f65 ht hl95 ⟨rfl, hb, v96, v98, v100, rfl, hs97, hs99, hs101⟩ rfl
    subst ht
    replace h := hA65
    refine st_ord [1, 1, 1, 1, 1] _ rfl ?_
    refine st_exit rfl ?_
    refine st_ord [0, 0, 1, 1] _ rfl ?_
    exact hk46 _ _ _ ⟨(p93.1, p93.2.1, p93.2.2.1, p93.2.2.2.1, p93.2.2.2.2.1, p93.2.2.2.2.2.1, p93.2.2.2.2.2.2.1, p93.2.2.2.2.2.2.2.1, p93.2.2.2.2.2.2.2.2.1, p93.2.2.2.2.2.2.2.2.2.1, p93.2.2.2.2.2.2.2.2.2.2.1, p93.2.2.2.2.2.2.2.2.2.2.2.1, p93.2.2.2.2.2.2.2.2.2.2.2.2), _, _, _, h, (hl61.trans hl95), rfl, rfl, hs97, hs99, hs101⟩
  refine ZZ 6 [1] rfl rfl ?_
  refine st_if rfl h (fun h => ?_) (fun h => ?_)
  ·refine ZZ 3 [0] rfl rfl ?_
   refine st_ord [4, 2, 2, 1, 0] _ rfl ?_
   exact hk45 _ _ _ ⟨9, h, (Sto.Le.refl _), rfl, rfl⟩
  ·refine st_skip ?_
   refine st_ord [4, 2, 2, 1, 0] _ rfl ?_
   exact hk45 _ _ _ ⟨0, h, (Sto.Le.refl _), rfl, rfl⟩
 ·exact fun _ _ _ _ _ _ _ h => h.elim
theorem law20_known_ok  {r : Bool} (h : law20_known r) (σ : Sto) (hT : Tab Tryz.prog σ) :
    Does Tryz.prog 19 [] σ [] (fun v τ gs => gs = [] ∧ .bool r = v) := by
 refine call_of Tryz.func19 Tryz.ntmps19 rfl rfl (fun cs fs => ?_)
 refine Z 6 rfl ?_
 refine o_buildA (ps := [(0, [.int .i64 300]), (1, [.int .i64 2]), (2, [.int .i64 9])]) (cs := [.int .i64 300, .int .i64 2, .int .i64 9, .int .i64 0, .int .i64 0, .int .i64 0]) rfl rfl rfl z_arrz35 ⟨rfl, ⟨_, rfl, rfl⟩, ⟨rfl, ⟨_, rfl, rfl⟩, ⟨rfl, ⟨_, rfl, rfl⟩, trivial⟩⟩⟩ rfl ?_
 refine ZZ 1 [] rfl rfl ?_
 obtain ⟨r1, hr2, h⟩ := h
 refine st_call (foot := []) rfl rfl rfl rfl rfl rfl (callV_fn z_en14 (say_Line_ok hr2 σ Sl.nil Sl.nil hT)) ?_
 rintro vτ3 τ3 gsτ3 hl4 ⟨rfl, rfl⟩
 refine Z 4 rfl ?_
 refine o_buildA (ps := [(0, [.int .i64 1]), (1, [.int .i64 2]), (2, [.int .i64 3]), (3, [.int .i64 0]), (4, [.int .i64 1])]) (cs := [.int .i64 1, .int .i64 2, .int .i64 3, .int .i64 0, .int .i64 1, .int .i64 0]) rfl rfl rfl z_arrz35 ⟨rfl, ⟨_, rfl, rfl⟩, ⟨rfl, ⟨_, rfl, rfl⟩, ⟨rfl, ⟨_, rfl, rfl⟩, ⟨rfl, ⟨_, rfl, rfl⟩, ⟨rfl, ⟨_, rfl, rfl⟩, trivial⟩⟩⟩⟩⟩ rfl ?_
 refine o_build (ps := [(0, [.int .i64 5]), (1, [.int .i64 1, .int .i64 2, .int .i64 3, .int .i64 0, .int .i64 1, .int .i64 0]), (4, [.string (bstr [104, 105])])]) (cs := [.int .i64 5, .int .i64 1, .int .i64 2, .int .i64 3, .int .i64 0, .int .i64 1, .int .i64 0, .slice none 0 0, .slice none 0 0, .string (bstr [104, 105]), .string (bstr [])]) rfl rfl rfl z_struct38 ⟨rfl, ⟨_, rfl, rfl⟩, ⟨rfl, ⟨_, rfl, rfl⟩, ⟨rfl, ⟨_, (ev_str z_str32), rfl⟩, trivial⟩⟩⟩ rfl ?_
 obtain ⟨r5, hr6, h⟩ := h
 refine st_call (foot := []) rfl rfl rfl rfl rfl rfl (callV_fn z_en14 (say_Line_ok hr6 τ3 Sl.nil Sl.nil (hT.up hl4))) ?_
 rintro vτ7 τ7 gsτ7 hl8 ⟨rfl, rfl⟩
 refine Z 3 rfl ?_
 refine st_cut (fun ρ τ9 gs => ∃ (s9 : Bool), law20_known_j1 s9 r ∧ τ7.Le τ9 ∧ ESub ρ [(0, .bool s9)] ∧ gs = []) ?_ (fun hk9 => ?_)
 ·rintro ρ9 τ9 gs9 ⟨s9, h, hl9, hρ, rfl⟩
  refine st_es hρ ?_
  obtain rfl := Eq.symm h
  exact st_ret (gs' := []) Tryz.func19 rfl (List.Sublist.refl _) ((hl4.trans hl8).trans hl9) ⟨rfl, rfl⟩
 refine Z 2 rfl ?_
 refine o_sbin (v := .bool (decide (r1 = (bstr [104, 111, 108, 100, 32, 114, 111, 98, 111, 116, 32, 51, 48, 48, 32, 114, 101, 97, 115, 111, 110, 32, 50, 32, 122, 111, 110, 101, 32, 57])))) rfl rfl rfl rfl (ev_str z_str33) rfl ?_
 refine o_mif rfl rfl rfl rfl h (fun h => ?_) (fun h => ?_)
 ·refine o_move rfl rfl rfl rfl ?_
  refine o_sbin (v := .bool (decide (r5 = (bstr [102, 97, 117, 108, 116, 32, 114, 111, 98, 111, 116, 32, 49, 32, 99, 111, 100, 101, 32, 50, 32, 115, 101, 118, 101, 114, 105, 116, 121, 32, 51, 32, 112, 97, 114, 116, 32, 48, 32, 116, 105, 109, 101, 115, 32, 49, 32, 116, 101, 120, 116, 32, 54, 56, 54, 57])))) rfl rfl rfl rfl (ev_str z_str34) rfl ?_
  refine Z 3 rfl ?_
  exact hk9 _ _ _ ⟨(decide (r5 = (bstr [102, 97, 117, 108, 116, 32, 114, 111, 98, 111, 116, 32, 49, 32, 99, 111, 100, 101, 32, 50, 32, 115, 101, 118, 101, 114, 105, 116, 121, 32, 51, 32, 112, 97, 114, 116, 32, 48, 32, 116, 105, 109, 101, 115, 32, 49, 32, 116, 101, 120, 116, 32, 54, 56, 54, 57]))), h, (Sto.Le.refl _), rfl, rfl⟩
 ·refine Z 5 rfl ?_
  exact hk9 _ _ _ ⟨false, h, (Sto.Le.refl _), rfl, rfl⟩
theorem ref20_Split_ok {a0 : ByteArray} {a1 : Int} {r : List ByteArray} (h : ref20_Split a0 a1 r) (σ : Sto)  :
    Does Tryz.prog 50 [.string a0, .int .u8 a1] σ [] (fun v τ gs => ∃ (v34 : Value), gs = [] ∧ v34 = v ∧ Sl kS τ v34 r) := by
 refine call_of Tryz.func50 Tryz.ntmps50 rfl rfl (fun cs fs => ?_)
 refine Z 13 rfl ?_
 refine st_cut (fun ρ τ1 gs => ∃ (s1 : List ByteArray) (v2 : Value) (g3 : Grp), ref20_Split_j1 s1 r ∧ σ.Le τ1 ∧ ESub ρ [(4, .slice none 0 0), (5, v2)] ∧ gs = [g3] ∧ Ow kS 9 τ1 v2 s1 g3) ?_ (fun hk1 => ?_)
 ·rintro ρ1 τ1 gs1 ⟨s1, v2, g3, h, hl1, hρ, rfl, ho4⟩
  refine st_es hρ ?_
  refine Z 5 rfl ?_
  refine st_freeze (fun τ5 hl6 hg7 => ?_)
  have hs8 := ho4.freeze hl6 hg7
  obtain rfl := Eq.symm h
  exact st_ret (gs' := []) Tryz.func50 rfl (List.Sublist.refl _) (hl1.trans hl6) ⟨_, rfl, rfl, hs8⟩
 refine Z 4 rfl ?_
 obtain ⟨e11, hL11, hA11⟩ := h
 refine st_addNil ?_
 refine st_loop hL11 (fun (s11 : List ByteArray × Int × Int) ρ τ11 gs => σ.Le τ11 ∧ ∃ (v12 : Value) (g13 : Grp), ESub ρ [(0, .string a0), (1, .int .u8 a1), (4, .slice none 0 0), (5, v12), (6, .int .i64 s11.2.1), (7, .int .i64 s11.2.2)] ∧ gs = [g13] ∧ Ow kS 9 τ11 v12 s11.1 g13) ⟨Sto.Le.refl _, _, _, rfl, rfl, Ow.nil⟩ ?_
 rintro s11 o11 h he11 ρ11 τ11 gs11 ⟨hl11, v12, g13, hρ, rfl, ho14⟩ hn11
 refine st_es hρ ?_
 refine Z 8 rfl ?_
 refine st_if rfl h (fun h => ?_) (fun h => ?_)
 ·refine Z 2 rfl ?_
  refine st_cut (fun ρ τ15 gs => ∃ (s15 : List ByteArray × Int) (v16 : Value) (g17 : Grp), ref20_Split_j3 s11 s15 o11 ∧ τ11.Le τ15 ∧ ESub ρ [(0, .string a0), (1, .int .u8 a1), (4, .slice none 0 0), (5, v16), (6, .int .i64 s15.2), (7, .int .i64 s11.2.2)] ∧ gs = [g17] ∧ Ow kS 9 τ15 v16 s15.1 g17) ?_ (fun hk15 => ?_)
  ·rintro ρ15 τ15 gs15 ⟨s15, v16, g17, h, hl15, hρ, rfl, ho18⟩
   refine st_es hρ ?_
   refine Z 5 rfl ?_
   exact hn11 _ _ _ _ h ⟨(hl11.trans hl15), _, _, rfl, rfl, ho18⟩
  refine Z 2 rfl ?_
  refine st_cut (fun ρ τ19 gs => ∃ (s19 : Bool), ref20_Split_j4 a0 s11 s19 o11 ∧ τ11.Le τ19 ∧ ESub ρ [(0, .string a0), (1, .int .u8 a1), (4, .slice none 0 0), (5, v12), (6, .int .i64 s11.2.1), (7, .int .i64 s11.2.2), (24, .bool s19)] ∧ gs = [g13]) ?_ (fun hk19 => ?_)
  ·rintro ρ19 τ19 gs19 ⟨s19, h, hl19, hρ, rfl⟩
   refine st_es hρ ?_
   refine st_if rfl h (fun h => ?_) (fun h => ?_)
   ·refine Z 6 rfl ?_
    obtain ⟨hf20, hf21, hf22, h⟩ := h
    refine o_sliceS rfl rfl rfl Tryz.underlying9 rfl rfl rfl hf20 hf21 hf22 ?_
    refine o_litE eS [(a0.extract s11.2.1.toNat s11.2.2.toNat)] rfl rfl rfl z_slT106 z_zero9 ⟨rfl, ⟨_, rfl, rfl⟩, trivial⟩ rfl rfl rfl rfl (fun v23 g24 ho25 => ?_)
    obtain ⟨hf29, hf30, h⟩ := h
    refine st_ord [1, 0] _ rfl ?_
    refine o_append (dk := kS) (xs := s11.1) (ys := [(a0.extract s11.2.1.toNat s11.2.2.toNat)]) rfl rfl rfl rfl z_slT106 rfl (ho14.up hl19) rfl (Ow.src (j := 1) ho25 rfl) hf29 hf30 (fun v26 g27 ho28 => ?_)
    refine Z 8 rfl ?_
    refine st_ord [0] _ rfl ?_
    exact hk15 _ _ _ ⟨((s11.1 ++ [(a0.extract s11.2.1.toNat s11.2.2.toNat)]), (IntKind.i64.wrap (s11.2.2 + 1))), _, _, h, hl19, rfl, rfl, ho28⟩
   ·refine Z 2 rfl ?_
    exact hk15 _ _ _ ⟨(s11.1, s11.2.1), _, _, h, hl19, rfl, rfl, (ho14.up hl19)⟩
  refine Z 5 rfl ?_
  refine o_mif rfl rfl rfl rfl h (fun h => ?_) (fun h => ?_)
  ·refine Z 7 rfl ?_
   exact hk19 _ _ _ ⟨true, h, (Sto.Le.refl _), rfl, rfl⟩
  ·refine Z 2 rfl ?_
   obtain ⟨q31, hf32, h⟩ := h
   refine o_indexS rfl rfl rfl Tryz.underlying9 rfl rfl hf32 ?_
   refine Z 4 rfl ?_
   exact hk19 _ _ _ ⟨(decide (q31 = a1)), h, (Sto.Le.refl _), rfl, rfl⟩
 ·refine st_exit rfl ?_
  obtain rfl := he11 _ h
  replace h := hA11
  exact hk1 _ _ _ ⟨s11.1, _, _, h, hl11, rfl, rfl, ho14⟩
theorem ref20_Read_ok {a0 : ByteArray} {r : Int × Int} (h : ref20_Read a0 r) (σ : Sto)  :
    Does Tryz.prog 87 [.string a0] σ [] (fun v τ gs => gs = [] ∧ .tuple [.int .i64 r.1, .int .i64 r.2].toArray = v) := by
 refine call_of Tryz.func87 Tryz.ntmps87 rfl rfl (fun cs fs => ?_)
 refine Z 10 rfl ?_
 refine st_cut (fun ρ τ1 gs => ∃ (s1 : Int), ref20_Read_j1 a0 s1 r ∧ σ.Le τ1 ∧ ESub ρ [(0, .string a0), (2, .int .i64 0), (3, .int .i64 0), (4, .int .i64 s1)] ∧ gs = []) ?_ (fun hk1 => ?_)
 ·rintro ρ1 τ1 gs1 ⟨s1, h, hl1, hρ, rfl⟩
  refine st_es hρ ?_
  refine Z 2 rfl ?_
  refine st_cut (fun ρ τ2 gs => ∃ (s2 : Bool), ref20_Read_j2 a0 s1 s2 r ∧ τ1.Le τ2 ∧ ESub ρ [(0, .string a0), (2, .int .i64 0), (3, .int .i64 0), (4, .int .i64 s1), (31, .bool s2)] ∧ gs = []) ?_ (fun hk2 => ?_)
  ·rintro ρ2 τ2 gs2 ⟨s2, h, hl2, hρ, rfl⟩
   refine st_es hρ ?_
   refine st_if rfl h (fun h => ?_) (fun h => ?_)
   ·refine Z 5 rfl ?_
    obtain rfl := Eq.symm h
    exact st_ret (gs' := []) Tryz.func87 rfl (List.Sublist.refl _) (hl1.trans hl2) ⟨rfl, rfl⟩
   ·refine Z 2 rfl ?_
    refine st_cut (fun ρ τ3 gs => ∃ (s3 : Unit), ref20_Read_j3 a0 s1 s3 r ∧ τ2.Le τ3 ∧ ESub ρ [(0, .string a0), (2, .int .i64 0), (3, .int .i64 0), (4, .int .i64 s1)] ∧ gs = []) ?_ (fun hk3 => ?_)
    ·rintro ρ3 τ3 gs3 ⟨s3, h, hl3, hρ, rfl⟩
     refine st_es hρ ?_
     refine Z 5 rfl ?_
     refine st_cut (fun ρ τ4 gs => ∃ (s4 : Int), ref20_Read_j4 s1 s4 r ∧ τ3.Le τ4 ∧ ESub ρ [(2, .int .i64 0), (3, .int .i64 0), (4, .int .i64 s1), (6, .int .i64 s4)] ∧ gs = []) ?_ (fun hk4 => ?_)
     ·rintro ρ4 τ4 gs4 ⟨s4, h, hl4, hρ, rfl⟩
      refine st_es hρ ?_
      refine Z 6 rfl ?_
      refine st_if rfl h (fun h => ?_) (fun h => ?_)
      ·refine Z 6 rfl ?_
       obtain rfl := Eq.symm h
       exact st_ret (gs' := []) Tryz.func87 rfl (List.Sublist.refl _) (((hl1.trans hl2).trans hl3).trans hl4) ⟨rfl, rfl⟩
      ·refine Z 7 rfl ?_
       refine st_if rfl h (fun h => ?_) (fun h => ?_)
       ·refine Z 5 rfl ?_
        obtain rfl := Eq.symm h
        exact st_ret (gs' := []) Tryz.func87 rfl (List.Sublist.refl _) (((hl1.trans hl2).trans hl3).trans hl4) ⟨rfl, rfl⟩
       ·refine Z 8 rfl ?_
        obtain rfl := Eq.symm h
        exact st_ret (gs' := []) Tryz.func87 rfl (List.Sublist.refl _) (((hl1.trans hl2).trans hl3).trans hl4) ⟨rfl, rfl⟩
     refine Z 5 rfl ?_
     obtain ⟨e5, hL5, hA5⟩ := h
     refine st_loop hL5 (fun (s5 : Int × Int) ρ τ5 gs => τ3.Le τ5 ∧ ESub ρ [(0, .string a0), (2, .int .i64 0), (3, .int .i64 0), (4, .int .i64 s1), (6, .int .i64 s5.1), (7, .int .i64 s5.2)] ∧ gs = []) ⟨Sto.Le.refl _, rfl, rfl⟩ ?_
     rintro s5 o5 h he5 ρ5 τ5 gs5 ⟨hl5, hρ, rfl⟩ hn5
     refine st_es hρ ?_
     refine Z 8 rfl ?_
     refine st_if rfl h (fun h => ?_) (fun h => ?_)
     ·refine Z 7 rfl ?_
      obtain ⟨q6, hf7, h⟩ := h
      refine o_indexS rfl rfl rfl Tryz.underlying9 rfl rfl hf7 ?_
      refine Z 13 rfl ?_
      refine st_if rfl h (fun h => ?_) (fun h => ?_)
      ·refine Z 5 rfl ?_
       obtain rfl := he5 _ h
       replace h := hA5
       obtain rfl := Eq.symm h
       exact st_ret (gs' := []) Tryz.func87 rfl (List.Sublist.refl _) (((hl1.trans hl2).trans hl3).trans hl5) ⟨rfl, rfl⟩
      ·refine Z 14 rfl ?_
       exact hn5 _ _ _ _ h ⟨hl5, rfl, rfl⟩
     ·refine st_exit rfl ?_
      obtain rfl := he5 _ h
      replace h := hA5
      exact hk4 _ _ _ ⟨s5.1, h, hl5, rfl, rfl⟩
    refine Z 5 rfl ?_
    obtain ⟨e10, hL10, hA10⟩ := h
    refine st_loop hL10 (fun (s10 : Int) ρ τ10 gs => τ2.Le τ10 ∧ ESub ρ [(0, .string a0), (2, .int .i64 0), (3, .int .i64 0), (4, .int .i64 s1), (5, .int .i64 s10)] ∧ gs = []) ⟨Sto.Le.refl _, rfl, rfl⟩ ?_
    rintro s10 o10 h he10 ρ10 τ10 gs10 ⟨hl10, hρ, rfl⟩ hn10
    refine st_es hρ ?_
    refine Z 8 rfl ?_
    refine st_if rfl h (fun h => ?_) (fun h => ?_)
    ·refine Z 4 rfl ?_
     refine st_cut (fun ρ τ11 gs => ∃ (s11 : Bool), ref20_Read_j7 s10 s11 o10 ∧ τ10.Le τ11 ∧ ESub ρ [(0, .string a0), (2, .int .i64 0), (3, .int .i64 0), (4, .int .i64 s1), (5, .int .i64 s10), (48, .bool s11)] ∧ gs = []) ?_ (fun hk11 => ?_)
     ·rintro ρ11 τ11 gs11 ⟨s11, h, hl11, hρ, rfl⟩
      refine st_es hρ ?_
      refine st_if rfl h (fun h => ?_) (fun h => ?_)
      ·refine Z 5 rfl ?_
       obtain rfl := he10 _ h
       replace h := hA10
       obtain rfl := Eq.symm h
       exact st_ret (gs' := []) Tryz.func87 rfl (List.Sublist.refl _) (((hl1.trans hl2).trans hl10).trans hl11) ⟨rfl, rfl⟩
      ·refine Z 7 rfl ?_
       exact hn10 _ _ _ _ h ⟨(hl10.trans hl11), rfl, rfl⟩
     refine Z 3 rfl ?_
     obtain ⟨q12, hf13, h⟩ := h
     refine o_indexS rfl rfl rfl Tryz.underlying9 rfl rfl hf13 ?_
     refine o_ibin (v := .bool (decide (q12 < 48))) rfl rfl rfl rfl rfl rfl ?_
     refine o_mif rfl rfl rfl rfl h (fun h => ?_) (fun h => ?_)
     ·refine Z 6 rfl ?_
      exact hk11 _ _ _ ⟨true, h, (Sto.Le.refl _), rfl, rfl⟩
     ·refine Z 2 rfl ?_
      obtain ⟨q14, hf15, h⟩ := h
      refine o_indexS rfl rfl rfl Tryz.underlying9 rfl rfl hf15 ?_
      refine Z 3 rfl ?_
      exact hk11 _ _ _ ⟨(decide (57 < q14)), h, (Sto.Le.refl _), rfl, rfl⟩
    ·refine st_exit rfl ?_
     obtain rfl := he10 _ h
     replace h := hA10
     exact hk3 _ _ _ ⟨(), h, hl10, rfl, rfl⟩
  refine Z 5 rfl ?_
  refine o_mif rfl rfl rfl rfl h (fun h => ?_) (fun h => ?_)
  ·refine Z 11 rfl ?_
   exact hk2 _ _ _ ⟨true, h, (Sto.Le.refl _), rfl, rfl⟩
  ·refine Z 2 rfl ?_
   obtain ⟨q18, hf19, h⟩ := h
   refine o_indexS rfl rfl rfl Tryz.underlying9 rfl rfl hf19 ?_
   refine o_ibin (v := .bool (decide (q18 = 48))) rfl rfl rfl rfl rfl rfl ?_
   refine o_mif rfl rfl rfl rfl h (fun h => ?_) (fun h => ?_)
   ·refine Z 6 rfl ?_
    exact hk2 _ _ _ ⟨(decide (1 < (a0.size : Int))), h, (Sto.Le.refl _), rfl, rfl⟩
   ·refine Z 6 rfl ?_
    exact hk2 _ _ _ ⟨false, h, (Sto.Le.refl _), rfl, rfl⟩
 refine st_seq ?_
 refine st_cut (fun ρ τ20 gs => ∃ (s20 : Bool), ref20_Read_j8 a0 s20 r ∧ σ.Le τ20 ∧ ESub ρ [(0, .string a0), (2, .int .i64 0), (3, .int .i64 0), (4, .int .i64 0), (16, .bool s20)] ∧ gs = []) ?_ (fun hk20 => ?_)
 ·rintro ρ20 τ20 gs20 ⟨s20, h, hl20, hρ, rfl⟩
  refine st_es hρ ?_
  refine st_if rfl h (fun h => ?_) (fun h => ?_)
  ·refine Z 3 rfl ?_
   exact hk1 _ _ _ ⟨1, h, hl20, rfl, rfl⟩
  ·refine st_skip ?_
   exact hk1 _ _ _ ⟨0, h, hl20, rfl, rfl⟩
 refine Z 4 rfl ?_
 refine o_mif rfl rfl rfl rfl h (fun h => ?_) (fun h => ?_)
 ·refine o_move rfl rfl rfl rfl ?_
  obtain ⟨q21, hf22, h⟩ := h
  refine o_indexS rfl rfl rfl Tryz.underlying9 rfl rfl hf22 ?_
  refine Z 3 rfl ?_
  exact hk20 _ _ _ ⟨(decide (q21 = 45)), h, (Sto.Le.refl _), rfl, rfl⟩
 ·refine Z 5 rfl ?_
  exact hk20 _ _ _ ⟨false, h, (Sto.Le.refl _), rfl, rfl⟩
theorem ref20_numbers_ok {a0 : List ByteArray} {v1 : Value} {r : List Int × Int} (h : ref20_numbers a0 r) (σ : Sto) (hs2 : Sl kS σ v1 a0) :
    Does Tryz.prog 85 [v1] σ [] (fun v τ gs => ∃ (v36 : Value), gs = [] ∧ .tuple [v36, .int .i64 r.2].toArray = v ∧ Sl (kI .i64) τ v36 r.1) := by
 refine call_of Tryz.func85 Tryz.ntmps85 rfl rfl (fun cs fs => ?_)
 refine Z 10 rfl ?_
 refine st_cut (fun ρ τ3 gs => ∃ (s3 : List Int) (v4 : Value) (g5 : Grp), ref20_numbers_j1 s3 r ∧ σ.Le τ3 ∧ ESub ρ [(2, .slice none 0 0), (3, .int .i64 0), (4, v4)] ∧ gs = [g5] ∧ Ow (kI .i64) 3 τ3 v4 s3 g5) ?_ (fun hk3 => ?_)
 ·rintro ρ3 τ3 gs3 ⟨s3, v4, g5, h, hl3, hρ, rfl, ho6⟩
  refine st_es hρ ?_
  refine Z 6 rfl ?_
  refine st_freeze (fun τ7 hl8 hg9 => ?_)
  have hs10 := ho6.freeze hl8 hg9
  obtain rfl := Eq.symm h
  exact st_ret (gs' := []) Tryz.func85 rfl (List.Sublist.refl _) (hl3.trans hl8) ⟨_, rfl, rfl, hs10⟩
 refine Z 4 rfl ?_
 obtain ⟨e13, hL13, hA13⟩ := h
 refine st_addNil ?_
 refine st_loop hL13 (fun (s13 : List Int × Int) ρ τ13 gs => σ.Le τ13 ∧ ∃ (v14 : Value) (g15 : Grp), ESub ρ [(0, v1), (2, .slice none 0 0), (3, .int .i64 0), (4, v14), (5, .int .i64 s13.2)] ∧ gs = [g15] ∧ Ow (kI .i64) 3 τ13 v14 s13.1 g15) ⟨Sto.Le.refl _, _, _, rfl, rfl, Ow.nil⟩ ?_
 rintro s13 o13 h he13 ρ13 τ13 gs13 ⟨hl13, v14, g15, hρ, rfl, ho16⟩ hn13
 refine st_es hρ ?_
 refine Z 5 rfl ?_
 refine o_lenI rfl rfl rfl z_slT106 rfl (hs2.up hl13) ?_
 refine Z 2 rfl ?_
 refine st_if rfl h (fun h => ?_) (fun h => ?_)
 ·refine Z 7 rfl ?_
  obtain ⟨q17, hf18, h⟩ := h
  refine o_index rfl rfl rfl z_slT106 rfl rfl (hs2.up hl13) rfl hf18 (fun b19 of20 vs hc21 hrep => ?_)
  obtain rfl := hrep
  refine o_loadI (v := .string q17) rfl rfl rfl z_sc9 rfl (hc21 0 _ rfl) ?_
  obtain ⟨r22, hr23, h⟩ := h
  refine st_call (foot := []) rfl rfl rfl rfl rfl rfl (callV_fn z_en87 (ref20_Read_ok hr23 τ13)) ?_
  rintro vτ24 τ24 gsτ24 hl25 ⟨rfl, rfl⟩
  refine Z 12 rfl ?_
  refine st_if rfl h (fun h => ?_) (fun h => ?_)
  ·refine Z 6 rfl ?_
   refine st_ord [] _ rfl ?_
   obtain rfl := he13 _ h
   replace h := hA13
   obtain rfl := Eq.symm h
   exact st_ret (gs' := []) Tryz.func85 rfl (List.Sublist.refl _) (hl13.trans hl25) ⟨_, rfl, rfl, Sl.nil⟩
  ·refine Z 4 rfl ?_
   refine o_litE (eI .i64) [r22.1] rfl rfl rfl z_slT27 z_zero3 ⟨rfl, ⟨_, rfl, rfl⟩, trivial⟩ rfl rfl rfl rfl (fun v26 g27 ho28 => ?_)
   obtain ⟨hf32, hf33, h⟩ := h
   refine st_ord [1, 0] _ rfl ?_
   refine o_append (dk := (kI .i64)) (xs := s13.1) (ys := [r22.1]) rfl rfl rfl rfl z_slT27 rfl (ho16.up hl25) rfl (Ow.src (j := 1) ho28 rfl) hf32 hf33 (fun v29 g30 ho31 => ?_)
   refine Z 8 rfl ?_
   refine st_ord [0] _ rfl ?_
   exact hn13 _ _ _ _ h ⟨(hl13.trans hl25), _, _, rfl, rfl, ho31⟩
 ·refine st_exit rfl ?_
  obtain rfl := he13 _ h
  replace h := hA13
  exact hk3 _ _ _ ⟨s13.1, _, _, h, hl13, rfl, rfl, ho16⟩
theorem ref20_unhex_ok {a0 : ByteArray} {r : ByteArray × Int} (h : ref20_unhex a0 r) (σ : Sto)  :
    Does Tryz.prog 86 [.string a0] σ [] (fun v τ gs => gs = [] ∧ .tuple [.string r.1, .int .i64 r.2].toArray = v) := by
 refine call_of Tryz.func86 Tryz.ntmps86 rfl rfl (fun cs fs => ?_)
 refine Z 2 rfl ?_
 refine o_assign rfl rfl rfl (ev_str z_str0) ?_
 refine Z 6 rfl ?_
 refine o_sbin (v := .bool (decide (a0 = (bstr [45])))) rfl rfl rfl rfl (ev_str z_str28) rfl ?_
 refine st_end ?_
 refine st_if rfl h (fun h => ?_) (fun h => ?_)
 ·refine Z 2 rfl ?_
  refine o_assign rfl rfl rfl (ev_str z_str0) ?_
  refine Z 2 rfl ?_
  obtain rfl := Eq.symm h
  exact st_ret (gs' := []) Tryz.func86 rfl (List.Sublist.refl _) (Sto.Le.refl _) ⟨rfl, rfl⟩
 ·refine Z 3 rfl ?_
  refine st_cut (fun ρ τ1 gs => ∃ (s1 : Bool), ref20_unhex_j1 a0 s1 r ∧ σ.Le τ1 ∧ ESub ρ [(0, .string a0), (2, .string (bstr [])), (3, .int .i64 0), (18, .bool s1)] ∧ gs = []) ?_ (fun hk1 => ?_)
  ·rintro ρ1 τ1 gs1 ⟨s1, h, hl1, hρ, rfl⟩
   refine st_es hρ ?_
   refine st_if rfl h (fun h => ?_) (fun h => ?_)
   ·refine Z 2 rfl ?_
    refine o_assign rfl rfl rfl (ev_str z_str0) ?_
    refine Z 2 rfl ?_
    obtain rfl := Eq.symm h
    exact st_ret (gs' := []) Tryz.func86 rfl (List.Sublist.refl _) hl1 ⟨rfl, rfl⟩
   ·refine Z 10 rfl ?_
    refine st_cut (fun ρ τ2 gs => ∃ (s2 : List Int) (v3 : Value) (g4 : Grp), ref20_unhex_j2 s2 r ∧ τ1.Le τ2 ∧ ESub ρ [(2, .string (bstr [])), (3, .int .i64 0), (4, v3)] ∧ gs = [g4] ∧ Ow (kI .u8) 5 τ2 v3 s2 g4) ?_ (fun hk2 => ?_)
    ·rintro ρ2 τ2 gs2 ⟨s2, v3, g4, h, hl2, hρ, rfl, ho5⟩
     refine st_es hρ ?_
     refine Z 3 rfl ?_
     refine st_freeze (fun τ6 hl7 hg8 => ?_)
     have hs9 := ho5.freeze hl7 hg8
     refine o_bstr (xs := s2) rfl rfl rfl Tryz.underlying23 Tryz.underlying5 Tryz.underlying9 rfl hs9 ?_
     refine Z 3 rfl ?_
     obtain rfl := Eq.symm h
     exact st_ret (gs' := []) Tryz.func86 rfl (List.Sublist.refl _) ((hl1.trans hl2).trans hl7) ⟨rfl, rfl⟩
    refine Z 4 rfl ?_
    obtain ⟨e11, hL11, hA11⟩ := h
    refine st_addNil ?_
    refine st_loop hL11 (fun (s11 : List Int × Int × Int) ρ τ11 gs => τ1.Le τ11 ∧ ∃ (v12 : Value) (g13 : Grp), ESub ρ [(0, .string a0), (2, .string (bstr [])), (3, .int .i64 0), (4, v12), (5, .int .i64 s11.2.1), (6, .int .i64 s11.2.2)] ∧ gs = [g13] ∧ Ow (kI .u8) 5 τ11 v12 s11.1 g13) ⟨Sto.Le.refl _, _, _, rfl, rfl, Ow.nil⟩ ?_
    rintro s11 o11 h he11 ρ11 τ11 gs11 ⟨hl11, v12, g13, hρ, rfl, ho14⟩ hn11
    refine st_es hρ ?_
    refine Z 8 rfl ?_
    refine st_if rfl h (fun h => ?_) (fun h => ?_)
    ·refine Z 2 rfl ?_
     refine st_cut (fun ρ τ15 gs => ∃ (s15 : List Int × Int) (v16 : Value) (g17 : Grp), ref20_unhex_j4 s11 s15 o11 ∧ τ11.Le τ15 ∧ ESub ρ [(0, .string a0), (2, .string (bstr [])), (3, .int .i64 0), (4, v16), (5, .int .i64 s15.2), (6, .int .i64 s11.2.2)] ∧ gs = [g17] ∧ Ow (kI .u8) 5 τ15 v16 s15.1 g17) ?_ (fun hk15 => ?_)
     ·rintro ρ15 τ15 gs15 ⟨s15, v16, g17, h, hl15, hρ, rfl, ho18⟩
      refine st_es hρ ?_
      refine Z 5 rfl ?_
      exact hn11 _ _ _ _ h ⟨(hl11.trans hl15), _, _, rfl, rfl, ho18⟩
     refine Z 6 rfl ?_
     refine st_cut (fun ρ τ19 gs => ∃ (s19 : Int), ref20_unhex_j5 s11 s19 o11 ∧ τ11.Le τ19 ∧ ESub ρ [(0, .string a0), (2, .string (bstr [])), (3, .int .i64 0), (4, v12), (5, .int .i64 s11.2.1), (6, .int .i64 s11.2.2), (7, .int .i64 s19)] ∧ gs = [g13]) ?_ (fun hk19 => ?_)
     ·rintro ρ19 τ19 gs19 ⟨s19, h, hl19, hρ, rfl⟩
      refine st_es hρ ?_
      refine Z 6 rfl ?_
      refine st_if rfl h (fun h => ?_) (fun h => ?_)
      ·refine Z 2 rfl ?_
       refine o_assign rfl rfl rfl (ev_str z_str0) ?_
       refine Z 2 rfl ?_
       refine st_ord [] _ rfl ?_
       obtain rfl := he11 _ h
       replace h := hA11
       obtain rfl := Eq.symm h
       exact st_ret (gs' := []) Tryz.func86 rfl (List.Sublist.refl _) ((hl1.trans hl11).trans hl19) ⟨rfl, rfl⟩
      ·refine Z 15 rfl ?_
       refine st_if rfl h (fun h => ?_) (fun h => ?_)
       ·refine Z 5 rfl ?_
        refine o_litE (eI .u8) [(IntKind.u8.wrap (IntKind.i64.wrap ((IntKind.i64.wrap (16 * s11.2.1)) + s19)))] rfl rfl rfl z_slT23 z_zero5 ⟨rfl, ⟨_, rfl, rfl⟩, trivial⟩ rfl rfl rfl rfl (fun v20 g21 ho22 => ?_)
        obtain ⟨hf26, hf27, h⟩ := h
        refine st_ord [1, 0] _ rfl ?_
        refine o_append (dk := (kI .u8)) (xs := s11.1) (ys := [(IntKind.u8.wrap (IntKind.i64.wrap ((IntKind.i64.wrap (16 * s11.2.1)) + s19)))]) rfl rfl rfl rfl z_slT23 rfl (ho14.up hl19) rfl (Ow.src (j := 1) ho22 rfl) hf26 hf27 (fun v23 g24 ho25 => ?_)
        refine Z 6 rfl ?_
        refine st_ord [0] _ rfl ?_
        exact hk15 _ _ _ ⟨((s11.1 ++ [(IntKind.u8.wrap (IntKind.i64.wrap ((IntKind.i64.wrap (16 * s11.2.1)) + s19)))]), 0), _, _, h, hl19, rfl, rfl, ho25⟩
       ·refine Z 2 rfl ?_
        exact hk15 _ _ _ ⟨(s11.1, (IntKind.i64.wrap ((IntKind.i64.wrap (16 * s11.2.1)) + s19))), _, _, h, hl19, rfl, rfl, (ho14.up hl19)⟩
     refine Z 4 rfl ?_
     obtain ⟨e28, hL28, hA28⟩ := h
     refine st_loop hL28 (fun (s28 : Int × Int) ρ τ28 gs => τ11.Le τ28 ∧ ESub ρ [(0, .string a0), (2, .string (bstr [])), (3, .int .i64 0), (4, v12), (5, .int .i64 s11.2.1), (6, .int .i64 s11.2.2), (7, .int .i64 s28.1), (8, .int .i64 s28.2)] ∧ gs = [g13]) ⟨Sto.Le.refl _, rfl, rfl⟩ ?_
     rintro s28 o28 h he28 ρ28 τ28 gs28 ⟨hl28, hρ, rfl⟩ hn28
     refine st_es hρ ?_
     refine Z 6 rfl ?_
     refine st_if rfl h (fun h => ?_) (fun h => ?_)
     ·refine Z 2 rfl ?_
      refine st_cut (fun ρ τ29 gs => ∃ (s29 : Int), ref20_unhex_j7 s28 s29 o28 ∧ τ28.Le τ29 ∧ ESub ρ [(0, .string a0), (2, .string (bstr [])), (3, .int .i64 0), (4, v12), (5, .int .i64 s11.2.1), (6, .int .i64 s11.2.2), (7, .int .i64 s29), (8, .int .i64 s28.2)] ∧ gs = [g13]) ?_ (fun hk29 => ?_)
      ·rintro ρ29 τ29 gs29 ⟨s29, h, hl29, hρ, rfl⟩
       refine st_es hρ ?_
       refine Z 5 rfl ?_
       exact hn28 _ _ _ _ h ⟨(hl28.trans hl29), rfl, rfl⟩
      refine Z 2 rfl ?_
      obtain ⟨r30, hr31, q34, hf35, h⟩ := h
      refine st_draw 7 (dl [.v (.int .i64 s28.2), .v (.int .u8 (IntKind.u8.wrap s28.2)), .v (.int .u8 r30), .v (.string a0), .v (.int .i64 s11.2.2), .v (.int .u8 q34), .v (.bool (decide (r30 = q34)))]) (fun _ _ => []) z_mix rfl (dl_mono trivial) (allB_cons (allB_cons (allB_cons (allB_cons (allB_cons (allB_cons (allB_cons allB_nil (p1 dA)) (p1 dA)) ?_) (p1 dA)) (p1 dA)) ?_) (p1 dA)) ?_
      ·intro ρ' τ pool rs hl hd hout hk
       obtain ⟨_, e1, rfl⟩ := hd 1 rfl
       refine st_call (foot := []) rfl rfl rfl rfl (evs_cons e1 rfl) rfl (callV_fn z_en74 (ref20_digit_ok hr31 τ)) ?_
       rintro vτ32 τ32 gsτ32 hl33 ⟨rfl, rfl⟩
       exact st_addNil (hk _ _ hl33 rfl)
      ·intro ρ' τ pool rs hl hd hout hk
       obtain ⟨_, e3, rfl⟩ := hd 3 rfl
       obtain ⟨_, e4, rfl⟩ := hd 4 rfl
       refine o_indexS rfl rfl rfl Tryz.underlying9 e3 e4 hf35 ?_
       exact st_addNil (hk _ _ (Sto.Le.refl _) rfl)
      intro ρ' τ36 vals hl36 hv hout
      refine st_ord [0] _ rfl ?_
      refine st_env (ρ' := [(35, .bool (decide (r30 = q34))), (0, .string a0), (2, .string (bstr [])), (3, .int .i64 0), (4, v12), (5, .int .i64 s11.2.1), (6, .int .i64 s11.2.2), (7, .int .i64 s28.1), (8, .int .i64 s28.2)]) ⟨(lv1 hv 6 rfl rfl), (hout 0 rfl).trans rfl, (hout 2 rfl).trans rfl, (hout 3 rfl).trans rfl, (hout 4 rfl).trans rfl, (hout 5 rfl).trans rfl, (hout 6 rfl).trans rfl, (hout 7 rfl).trans rfl, (hout 8 rfl).trans rfl, trivial⟩ ?_
      refine st_end ?_
      refine st_if rfl h (fun h => ?_) (fun h => ?_)
      ·refine Z 5 rfl ?_
       exact hk29 _ _ _ ⟨s28.2, h, hl36, rfl, rfl⟩
      ·refine Z 2 rfl ?_
       exact hk29 _ _ _ ⟨s28.1, h, hl36, rfl, rfl⟩
     ·refine st_exit rfl ?_
      obtain rfl := he28 _ h
      replace h := hA28
      exact hk19 _ _ _ ⟨s28.1, h, hl28, rfl, rfl⟩
    ·refine st_exit rfl ?_
     obtain rfl := he11 _ h
     replace h := hA11
     exact hk2 _ _ _ ⟨s11.1, _, _, h, hl11, rfl, rfl, ho14⟩
  refine Z 2 rfl ?_
  refine o_sbin (v := .bool (decide (a0 = (bstr [])))) rfl rfl rfl rfl (ev_str z_str0) rfl ?_
  refine o_mif rfl rfl rfl rfl h (fun h => ?_) (fun h => ?_)
  ·refine Z 6 rfl ?_
   exact hk1 _ _ _ ⟨true, h, (Sto.Le.refl _), rfl, rfl⟩
  ·refine Z 6 rfl ?_
   exact hk1 _ _ _ ⟨(decide (((a0.size : Int).tmod 2) = 1)), h, (Sto.Le.refl _), rfl, rfl⟩
theorem ref20_value_ok {a0 : Int × List Int × List (List Int) × List Int × ByteArray × ByteArray} {a1 : ByteArray × Int × Int × Int × Int × Int × Int} {a2 : ByteArray} {v1 : Value} {v2 : Value} {r : (Int × List Int × List (List Int) × List Int × ByteArray × ByteArray) × Int} (h : ref20_value a0 a1 a2 r) (σ : Sto) (hs3 : Sl (kA .i64 2) σ v1 a0.2.2.1) (hs4 : Sl (kI .i64) σ v2 a0.2.2.2.1) :
    Does Tryz.prog 51 [.agg [.int .i64 a0.1, .int .i64 (a0.2.1.getD 0 0), .int .i64 (a0.2.1.getD 1 0), .int .i64 (a0.2.1.getD 2 0), .int .i64 (a0.2.1.getD 3 0), .int .i64 (a0.2.1.getD 4 0), .int .i64 (a0.2.1.getD 5 0), v1, v2, .string a0.2.2.2.2.1, .string a0.2.2.2.2.2].toArray, .agg [.string a1.1, .int .i64 a1.2.1, .int .i64 a1.2.2.1, .int .i64 a1.2.2.2.1, .int .i64 a1.2.2.2.2.1, .int .i64 a1.2.2.2.2.2.1, .int .i64 a1.2.2.2.2.2.2].toArray, .string a2] σ [] (fun v τ gs => ∃ (v113 : Value) (v114 : Value), gs = [] ∧ .tuple [.agg [.int .i64 r.1.1, .int .i64 (r.1.2.1.getD 0 0), .int .i64 (r.1.2.1.getD 1 0), .int .i64 (r.1.2.1.getD 2 0), .int .i64 (r.1.2.1.getD 3 0), .int .i64 (r.1.2.1.getD 4 0), .int .i64 (r.1.2.1.getD 5 0), v113, v114, .string r.1.2.2.2.2.1, .string r.1.2.2.2.2.2].toArray, .int .i64 r.2].toArray = v ∧ Sl (kA .i64 2) τ v113 r.1.2.2.1 ∧ Sl (kI .i64) τ v114 r.1.2.2.2.1) := by
 refine call_of Tryz.func51 Tryz.ntmps51 rfl rfl (fun cs fs => ?_)
 refine Z 2 rfl ?_
 refine o_box (cs := [.int .i64 a0.1, .int .i64 (a0.2.1.getD 0 0), .int .i64 (a0.2.1.getD 1 0), .int .i64 (a0.2.1.getD 2 0), .int .i64 (a0.2.1.getD 3 0), .int .i64 (a0.2.1.getD 4 0), .int .i64 (a0.2.1.getD 5 0), v1, v2, .string a0.2.2.2.2.1, .string a0.2.2.2.2.2]) rfl rfl rfl rfl rfl (fun b5 => ?_)
 refine o_boxC rfl rfl rfl rfl rfl rfl (fun b6 => ?_)
 refine o_alloc rfl rfl rfl z_zero44 (fun b7 => ?_)
 refine Z 7 rfl ?_
 refine st_cut (fun ρ τ8 gs => ∃ (s8 : Int × Int × Int × Int × Int × Int × Int × List (List Int) × List Int × ByteArray × ByteArray) (v9 : Value) (v11 : Value), ref20_value_j1 a0 s8 r ∧ σ.Le τ8 ∧ ESub ρ [(3, .pointer (some ⟨b5, 0, none⟩)), (6, .pointer (some ⟨b7, 0, none⟩)), (7, .int .i64 0), (8, .int .i64 s8.1)] ∧ gs = [[(b5, .cells #[.int .i64 a0.1, .int .i64 s8.2.1, .int .i64 s8.2.2.1, .int .i64 s8.2.2.2.1, .int .i64 s8.2.2.2.2.1, .int .i64 s8.2.2.2.2.2.1, .int .i64 s8.2.2.2.2.2.2.1, v9, v11, .string s8.2.2.2.2.2.2.2.2.2.1, .string s8.2.2.2.2.2.2.2.2.2.2] 44 (0, 0))], [(b7, .cells #[.int .i64 0, .int .i64 0, .int .i64 0, .int .i64 0, .int .i64 0, .int .i64 0, .int .i64 0, .slice none 0 0, .slice none 0 0, .string (bstr []), .string (bstr [])] 44 (0, 0))]] ∧ Sl (kA .i64 2) τ8 v9 s8.2.2.2.2.2.2.2.1 ∧ Sl (kI .i64) τ8 v11 s8.2.2.2.2.2.2.2.2.1) ?_ (fun hk8 => ?_)
 ·rintro ρ8 τ8 gs8 ⟨s8, v9, v11, h, hl8, hρ, rfl, hs10, hs12⟩
  refine st_es hρ ?_
  refine ZZ 4 [0] rfl rfl ?_
  refine o_store (j := 1) (vs := [.int .i64 a0.1, .int .i64 s8.2.1, .int .i64 s8.2.2.1, .int .i64 s8.2.2.2.1, .int .i64 s8.2.2.2.2.1, .int .i64 s8.2.2.2.2.2.1, .int .i64 s8.2.2.2.2.2.2.1, v9, v11, .string s8.2.2.2.2.2.2.2.2.2.1, .string s8.2.2.2.2.2.2.2.2.2.2]) (cs' := [.int .i64 a0.1, .int .i64 s8.2.1, .int .i64 s8.2.2.1, .int .i64 s8.2.2.2.1, .int .i64 s8.2.2.2.2.1, .int .i64 s8.2.2.2.2.2.1, .int .i64 s8.2.2.2.2.2.2.1, v9, v11, .string s8.2.2.2.2.2.2.2.2.2.1, .string s8.2.2.2.2.2.2.2.2.2.2]) rfl rfl rfl z_size44 rfl rfl rfl (ones_cons rfl (ones_cons rfl (ones_cons rfl (ones_cons rfl (ones_cons rfl (ones_cons rfl (ones_cons rfl (ones_cons hs10.one' (ones_cons hs12.one' (ones_cons rfl (ones_cons rfl ones_nil))))))))))) rfl rfl rfl ?_
  refine st_gs [[(b5, .cells #[.int .i64 a0.1, .int .i64 s8.2.1, .int .i64 s8.2.2.1, .int .i64 s8.2.2.2.1, .int .i64 s8.2.2.2.2.1, .int .i64 s8.2.2.2.2.2.1, .int .i64 s8.2.2.2.2.2.2.1, v9, v11, .string s8.2.2.2.2.2.2.2.2.2.1, .string s8.2.2.2.2.2.2.2.2.2.2] 44 (0, 0))], [(b7, .cells #[.int .i64 a0.1, .int .i64 s8.2.1, .int .i64 s8.2.2.1, .int .i64 s8.2.2.2.1, .int .i64 s8.2.2.2.2.1, .int .i64 s8.2.2.2.2.2.1, .int .i64 s8.2.2.2.2.2.2.1, v9, v11, .string s8.2.2.2.2.2.2.2.2.2.1, .string s8.2.2.2.2.2.2.2.2.2.2] 44 (0, 0))]] rfl ?_
  refine Z 2 rfl ?_
  obtain rfl := Eq.symm h
  exact st_retC (gs' := []) [.agg #[.int .i64 a0.1, .int .i64 s8.2.1, .int .i64 s8.2.2.1, .int .i64 s8.2.2.2.1, .int .i64 s8.2.2.2.2.1, .int .i64 s8.2.2.2.2.2.1, .int .i64 s8.2.2.2.2.2.2.1, v9, v11, .string s8.2.2.2.2.2.2.2.2.2.1, .string s8.2.2.2.2.2.2.2.2.2.2], .int .i64 s8.1] Tryz.func51 ⟨⟨_, _, _, _, rfl, mem_flat 1 rfl, fun w hw => cellOfN (vs := [.int .i64 a0.1, .int .i64 s8.2.1, .int .i64 s8.2.2.1, .int .i64 s8.2.2.2.1, .int .i64 s8.2.2.2.2.1, .int .i64 s8.2.2.2.2.2.1, .int .i64 s8.2.2.2.2.2.2.1, v9, v11, .string s8.2.2.2.2.2.2.2.2.2.1, .string s8.2.2.2.2.2.2.2.2.2.2]) z_agg44 rfl w hw⟩, rfl, trivial⟩ (by simp) hl8 ⟨_, _, rfl, rfl, hs10, hs12⟩
 refine ZZ 11 [1] rfl rfl ?_
 refine st_if rfl h (fun h => ?_) (fun h => ?_)
 ·refine Z 3 rfl ?_
  obtain ⟨r13, hr14, h⟩ := h
  refine st_call (foot := []) rfl rfl rfl rfl rfl rfl (callV_fn z_en50 (ref20_Split_ok hr14 σ)) ?_
  rintro vτ15 τ15 gsτ15 hl16 ⟨v17, rfl, rfl, hs18⟩
  refine Z 6 rfl ?_
  obtain ⟨e19, hL19, hA19⟩ := h
  refine st_ord [2, 0] _ rfl ?_
  refine st_loop hL19 (fun (s19 : Int × List (List Int)) ρ τ19 gs => τ15.Le τ19 ∧ ∃ (v20 : Value), ESub ρ [(3, .pointer (some ⟨b5, 0, none⟩)), (6, .pointer (some ⟨b7, 0, none⟩)), (7, .int .i64 0), (8, .int .i64 0), (9, v17), (10, .int .i64 s19.1)] ∧ gs = [[(b5, .cells #[.int .i64 a0.1, .int .i64 (a0.2.1.getD 0 0), .int .i64 (a0.2.1.getD 1 0), .int .i64 (a0.2.1.getD 2 0), .int .i64 (a0.2.1.getD 3 0), .int .i64 (a0.2.1.getD 4 0), .int .i64 (a0.2.1.getD 5 0), v20, v2, .string a0.2.2.2.2.1, .string a0.2.2.2.2.2] 44 (0, 0))], [(b7, .cells #[.int .i64 0, .int .i64 0, .int .i64 0, .int .i64 0, .int .i64 0, .int .i64 0, .int .i64 0, .slice none 0 0, .slice none 0 0, .string (bstr []), .string (bstr [])] 44 (0, 0))]] ∧ Sl (kA .i64 2) τ19 v20 s19.2) ⟨Sto.Le.refl _, _, rfl, rfl, (hs3.up hl16)⟩ ?_
  rintro s19 o19 h he19 ρ19 τ19 gs19 ⟨hl19, v20, hρ, rfl, hs21⟩ hn19
  refine st_es hρ ?_
  refine Z 5 rfl ?_
  refine o_lenI rfl rfl rfl z_slT106 rfl (hs18.up hl19) ?_
  refine Z 2 rfl ?_
  refine st_if rfl h (fun h => ?_) (fun h => ?_)
  ·refine Z 7 rfl ?_
   obtain ⟨q22, hf23, h⟩ := h
   refine o_index rfl rfl rfl z_slT106 rfl rfl (hs18.up hl19) rfl hf23 (fun b24 of25 vs hc26 hrep => ?_)
   obtain rfl := hrep
   refine o_loadI (v := .string q22) rfl rfl rfl z_sc9 rfl (hc26 0 _ rfl) ?_
   obtain ⟨r27, hr28, h⟩ := h
   refine st_call (foot := []) rfl rfl rfl rfl rfl rfl (callV_fn z_en50 (ref20_Split_ok hr28 τ19)) ?_
   rintro vτ29 τ29 gsτ29 hl30 ⟨v31, rfl, rfl, hs32⟩
   refine Z 6 rfl ?_
   refine o_lenI rfl rfl rfl z_slT106 rfl hs32 ?_
   refine Z 2 rfl ?_
   refine st_if rfl h (fun h => ?_) (fun h => ?_)
   ·refine ZZ 3 [0] rfl rfl ?_
    refine o_store (j := 1) (vs := [.int .i64 a0.1, .int .i64 (a0.2.1.getD 0 0), .int .i64 (a0.2.1.getD 1 0), .int .i64 (a0.2.1.getD 2 0), .int .i64 (a0.2.1.getD 3 0), .int .i64 (a0.2.1.getD 4 0), .int .i64 (a0.2.1.getD 5 0), v20, v2, .string a0.2.2.2.2.1, .string a0.2.2.2.2.2]) (cs' := [.int .i64 a0.1, .int .i64 (a0.2.1.getD 0 0), .int .i64 (a0.2.1.getD 1 0), .int .i64 (a0.2.1.getD 2 0), .int .i64 (a0.2.1.getD 3 0), .int .i64 (a0.2.1.getD 4 0), .int .i64 (a0.2.1.getD 5 0), v20, v2, .string a0.2.2.2.2.1, .string a0.2.2.2.2.2]) rfl rfl rfl z_size44 rfl rfl rfl (ones_cons rfl (ones_cons rfl (ones_cons rfl (ones_cons rfl (ones_cons rfl (ones_cons rfl (ones_cons rfl (ones_cons (hs21.up hl30).one' (ones_cons (hs4.up ((hl16.trans hl19).trans hl30)).one' (ones_cons rfl (ones_cons rfl ones_nil))))))))))) rfl rfl rfl ?_
    refine st_gs [[(b5, .cells #[.int .i64 a0.1, .int .i64 (a0.2.1.getD 0 0), .int .i64 (a0.2.1.getD 1 0), .int .i64 (a0.2.1.getD 2 0), .int .i64 (a0.2.1.getD 3 0), .int .i64 (a0.2.1.getD 4 0), .int .i64 (a0.2.1.getD 5 0), v20, v2, .string a0.2.2.2.2.1, .string a0.2.2.2.2.2] 44 (0, 0))], [(b7, .cells #[.int .i64 a0.1, .int .i64 (a0.2.1.getD 0 0), .int .i64 (a0.2.1.getD 1 0), .int .i64 (a0.2.1.getD 2 0), .int .i64 (a0.2.1.getD 3 0), .int .i64 (a0.2.1.getD 4 0), .int .i64 (a0.2.1.getD 5 0), v20, v2, .string a0.2.2.2.2.1, .string a0.2.2.2.2.2] 44 (0, 0))]] rfl ?_
    refine Z 2 rfl ?_
    obtain rfl := he19 _ h
    replace h := hA19
    obtain rfl := Eq.symm h
    exact st_retC (gs' := []) [.agg #[.int .i64 a0.1, .int .i64 (a0.2.1.getD 0 0), .int .i64 (a0.2.1.getD 1 0), .int .i64 (a0.2.1.getD 2 0), .int .i64 (a0.2.1.getD 3 0), .int .i64 (a0.2.1.getD 4 0), .int .i64 (a0.2.1.getD 5 0), v20, v2, .string a0.2.2.2.2.1, .string a0.2.2.2.2.2], .int .i64 3] Tryz.func51 ⟨⟨_, _, _, _, rfl, mem_flat 1 rfl, fun w hw => cellOfN (vs := [.int .i64 a0.1, .int .i64 (a0.2.1.getD 0 0), .int .i64 (a0.2.1.getD 1 0), .int .i64 (a0.2.1.getD 2 0), .int .i64 (a0.2.1.getD 3 0), .int .i64 (a0.2.1.getD 4 0), .int .i64 (a0.2.1.getD 5 0), v20, v2, .string a0.2.2.2.2.1, .string a0.2.2.2.2.2]) z_agg44 rfl w hw⟩, rfl, trivial⟩ (by simp) ((hl16.trans hl19).trans hl30) ⟨_, _, rfl, rfl, (hs21.up hl30), (hs4.up ((hl16.trans hl19).trans hl30))⟩
   ·refine Z 4 rfl ?_
    obtain ⟨r33, hr34, h⟩ := h
    refine st_call (foot := []) rfl rfl rfl rfl rfl rfl (callV_fn z_en85 (ref20_numbers_ok hr34 τ29 hs32)) ?_
    rintro vτ35 τ35 gsτ35 hl36 ⟨v37, rfl, rfl, hs38⟩
    refine Z 12 rfl ?_
    refine st_if rfl h (fun h => ?_) (fun h => ?_)
    ·refine ZZ 4 [0] rfl rfl ?_
     refine o_store (j := 1) (vs := [.int .i64 a0.1, .int .i64 (a0.2.1.getD 0 0), .int .i64 (a0.2.1.getD 1 0), .int .i64 (a0.2.1.getD 2 0), .int .i64 (a0.2.1.getD 3 0), .int .i64 (a0.2.1.getD 4 0), .int .i64 (a0.2.1.getD 5 0), v20, v2, .string a0.2.2.2.2.1, .string a0.2.2.2.2.2]) (cs' := [.int .i64 a0.1, .int .i64 (a0.2.1.getD 0 0), .int .i64 (a0.2.1.getD 1 0), .int .i64 (a0.2.1.getD 2 0), .int .i64 (a0.2.1.getD 3 0), .int .i64 (a0.2.1.getD 4 0), .int .i64 (a0.2.1.getD 5 0), v20, v2, .string a0.2.2.2.2.1, .string a0.2.2.2.2.2]) rfl rfl rfl z_size44 rfl rfl rfl (ones_cons rfl (ones_cons rfl (ones_cons rfl (ones_cons rfl (ones_cons rfl (ones_cons rfl (ones_cons rfl (ones_cons (hs21.up (hl30.trans hl36)).one' (ones_cons (hs4.up (((hl16.trans hl19).trans hl30).trans hl36)).one' (ones_cons rfl (ones_cons rfl ones_nil))))))))))) rfl rfl rfl ?_
     refine st_gs [[(b5, .cells #[.int .i64 a0.1, .int .i64 (a0.2.1.getD 0 0), .int .i64 (a0.2.1.getD 1 0), .int .i64 (a0.2.1.getD 2 0), .int .i64 (a0.2.1.getD 3 0), .int .i64 (a0.2.1.getD 4 0), .int .i64 (a0.2.1.getD 5 0), v20, v2, .string a0.2.2.2.2.1, .string a0.2.2.2.2.2] 44 (0, 0))], [(b7, .cells #[.int .i64 a0.1, .int .i64 (a0.2.1.getD 0 0), .int .i64 (a0.2.1.getD 1 0), .int .i64 (a0.2.1.getD 2 0), .int .i64 (a0.2.1.getD 3 0), .int .i64 (a0.2.1.getD 4 0), .int .i64 (a0.2.1.getD 5 0), v20, v2, .string a0.2.2.2.2.1, .string a0.2.2.2.2.2] 44 (0, 0))]] rfl ?_
     refine Z 2 rfl ?_
     obtain rfl := he19 _ h
     replace h := hA19
     obtain rfl := Eq.symm h
     exact st_retC (gs' := []) [.agg #[.int .i64 a0.1, .int .i64 (a0.2.1.getD 0 0), .int .i64 (a0.2.1.getD 1 0), .int .i64 (a0.2.1.getD 2 0), .int .i64 (a0.2.1.getD 3 0), .int .i64 (a0.2.1.getD 4 0), .int .i64 (a0.2.1.getD 5 0), v20, v2, .string a0.2.2.2.2.1, .string a0.2.2.2.2.2], .int .i64 r33.2] Tryz.func51 ⟨⟨_, _, _, _, rfl, mem_flat 1 rfl, fun w hw => cellOfN (vs := [.int .i64 a0.1, .int .i64 (a0.2.1.getD 0 0), .int .i64 (a0.2.1.getD 1 0), .int .i64 (a0.2.1.getD 2 0), .int .i64 (a0.2.1.getD 3 0), .int .i64 (a0.2.1.getD 4 0), .int .i64 (a0.2.1.getD 5 0), v20, v2, .string a0.2.2.2.2.1, .string a0.2.2.2.2.2]) z_agg44 rfl w hw⟩, rfl, trivial⟩ (by simp) (((hl16.trans hl19).trans hl30).trans hl36) ⟨_, _, rfl, rfl, (hs21.up (hl30.trans hl36)), (hs4.up (((hl16.trans hl19).trans hl30).trans hl36))⟩
    ·refine st_skip ?_
     obtain ⟨hf48, hf49, q53, hf54, q58, hf59, hf73, hf74, h⟩ := h
     refine st_d41 [[(b5, .cells #[.int .i64 a0.1, .int .i64 (a0.2.1.getD 0 0), .int .i64 (a0.2.1.getD 1 0), .int .i64 (a0.2.1.getD 2 0), .int .i64 (a0.2.1.getD 3 0), .int .i64 (a0.2.1.getD 4 0), .int .i64 (a0.2.1.getD 5 0), v20, v2, .string a0.2.2.2.2.1, .string a0.2.2.2.2.2] 44 (0, 0))], [(b7, .cells #[.int .i64 0, .int .i64 0, .int .i64 0, .int .i64 0, .int .i64 0, .int .i64 0, .int .i64 0, .slice none 0 0, .slice none 0 0, .string (bstr []), .string (bstr [])] 44 (0, 0))]] [] 13 3 [some (0, 0), none, none, some (0, 1), none, none, none, none, none, none, none, none, some (0, 2)] [none, none, none, none, none, none, none, none, none, none, none, none, none] [[none, some 53, some 56, some 65]] [.t fun _ _ => True, .v (.pointer (some ⟨b5, 7, none⟩)), .v (v20), .t fun _ _ => True, .v (v37), .t fun τ v => ∃ (b55 : Nat) (of56 : Nat) (vsb55 : List Value), (.pointer (some ⟨b55, of56, none⟩) : Value) = v ∧ CelN τ ⟨b55, of56, none⟩ vsb55 ∧ (kI .i64).rep τ vsb55 q53, .v (.int .i64 q53), .v (v37), .t fun τ v => ∃ (b60 : Nat) (of61 : Nat) (vsb60 : List Value), (.pointer (some ⟨b60, of61, none⟩) : Value) = v ∧ CelN τ ⟨b60, of61, none⟩ vsb60 ∧ (kI .i64).rep τ vsb60 q58, .v (.int .i64 q58), .v (.agg #[.int .i64 q53, .int .i64 q58]), .t fun τ v => ∃ (v63 : Value), (v63 : Value) = v ∧ Sl (kA .i64 2) τ v63 [[q53, q58]], .t fun _ _ => True] [[fun τ u F => F = [], fun τ u F => ∃ (v42 : Value) (g43 : Grp), F = [g43] ∧ v42 = u ∧ Ow (kA .i64 2) 102 τ v42 ([] : List (List Int)) g43, fun τ u F => ∃ (v50 : Value) (g51 : Grp), F = [g51] ∧ v50 = u ∧ Ow (kA .i64 2) 102 τ v50 (([] : List (List Int)) ++ s19.2) g51, fun τ u F => ∃ (v75 : Value) (g76 : Grp), F = [g76] ∧ v75 = u ∧ Ow (kA .i64 2) 102 τ v75 ((([] : List (List Int)) ++ s19.2) ++ [[q53, q58]]) g76]] rfl z_mix rfl ⟨fun _ _ _ _ _ => trivial, ⟨fun _ _ _ _ _ => trivial, ⟨fun _ _ _ hl ⟨b55, of56, vsb55, hv, hc57, hrepb55⟩ => ⟨b55, of56, vsb55, hv, hc57.up hl, Kd.mono _ hl hrepb55⟩, ⟨fun _ _ _ hl ⟨b60, of61, vsb60, hv, hc62, hrepb60⟩ => ⟨b60, of61, vsb60, hv, hc62.up hl, Kd.mono _ hl hrepb60⟩, ⟨fun _ _ _ hl ⟨v63, hv, hs69⟩ => ⟨v63, hv, hs69.up hl⟩, ⟨fun _ _ _ _ _ => trivial, trivial⟩⟩⟩⟩⟩⟩ ⟨⟨fun _ _ _ _ hl h => h, ⟨fun _ _ _ _ hl h => (let ⟨v42, g43, hF, hU, ho44⟩ := h; ⟨v42, g43, hF, hU, ho44.up hl⟩), ⟨fun _ _ _ _ hl h => (let ⟨v50, g51, hF, hU, ho52⟩ := h; ⟨v50, g51, hF, hU, ho52.up hl⟩), ⟨fun _ _ _ _ hl h => (let ⟨v75, g76, hF, hU, ho77⟩ := h; ⟨v75, g76, hF, hU, ho77.up hl⟩), trivial⟩⟩⟩⟩, trivial⟩ rfl rfl ?_ (allB_cons (allB_cons (allB_cons (allB_cons (allB_cons (allB_cons (allB_cons (allB_cons (allB_cons (allB_cons (allB_cons (allB_cons (allB_cons allB_nil ?_) (p4 dA)) ?_) ?_) (p4 dA)) ?_) ?_) (p4 dA)) ?_) ?_) ?_) ?_) ?_) ?_
     ·exact rfl
     ·intro ρ' τ u Fv pool rs hl hI hu hd hout hw hk
      have hI0 := hI
      obtain rfl := hI
      refine st_gs [[(b5, .cells #[.int .i64 a0.1, .int .i64 (a0.2.1.getD 0 0), .int .i64 (a0.2.1.getD 1 0), .int .i64 (a0.2.1.getD 2 0), .int .i64 (a0.2.1.getD 3 0), .int .i64 (a0.2.1.getD 4 0), .int .i64 (a0.2.1.getD 5 0), v20, v2, .string a0.2.2.2.2.1, .string a0.2.2.2.2.2] 44 (0, 0))], [(b7, .cells #[.int .i64 0, .int .i64 0, .int .i64 0, .int .i64 0, .int .i64 0, .int .i64 0, .int .i64 0, .slice none 0 0, .slice none 0 0, .string (bstr []), .string (bstr [])] 44 (0, 0))], pool] rfl ?_
      refine o_lit (dk := (kA .i64 2)) (xs := ([] : List (List Int))) (ps := []) (cs := []) rfl rfl rfl z_slT42 z_zero102 trivial rfl rfl rfl rfl Kd.Many.nil (fun v39 g40 ho41 => ?_)
      refine st_ord [1, 1, 0, 0] _ rfl ?_
      exact hk _ _ [g40] (Sto.Le.refl _) trivial (by exact ⟨v39, g40, rfl, rfl, ho41⟩)
     ·intro ρ' τ pool rs hl hd hout hw hk
      obtain ⟨_, e1, rfl⟩ := hd 1 rfl _ rfl
      refine o_load (j := 0) (v := v20) rfl rfl rfl z_sc42 e1 rfl rfl ?_
      exact hk _ _ (Sto.Le.refl _) rfl
     ·intro ρ' τ u Fv pool rs hl hI hu hd hout hw hk
      obtain ⟨_, e2, rfl⟩ := hd 2 rfl _ rfl
      obtain ⟨v42, g43, rfl, rfl, ho44⟩ := hI
      refine st_gs [[(b5, .cells #[.int .i64 a0.1, .int .i64 (a0.2.1.getD 0 0), .int .i64 (a0.2.1.getD 1 0), .int .i64 (a0.2.1.getD 2 0), .int .i64 (a0.2.1.getD 3 0), .int .i64 (a0.2.1.getD 4 0), .int .i64 (a0.2.1.getD 5 0), v20, v2, .string a0.2.2.2.2.1, .string a0.2.2.2.2.2] 44 (0, 0))], [(b7, .cells #[.int .i64 0, .int .i64 0, .int .i64 0, .int .i64 0, .int .i64 0, .int .i64 0, .int .i64 0, .slice none 0 0, .slice none 0 0, .string (bstr []), .string (bstr [])] 44 (0, 0))], g43, pool] rfl ?_
      refine st_ord [2, 0, 0, 0] _ rfl ?_
      refine o_append (dk := (kA .i64 2)) (xs := ([] : List (List Int))) (ys := s19.2) rfl rfl rfl rfl z_slT42 (hu (by decide) _ rfl) ho44 e2 (Sl.src (hs21.up ((hl30.trans hl36).trans hl))) hf48 hf49 (fun v45 g46 ho47 => ?_)
      refine st_ord [1, 1, 0, 0] _ rfl ?_
      exact hk _ _ [g46] (Sto.Le.refl _) trivial (by exact ⟨v45, g46, rfl, rfl, ho47⟩)
     ·intro ρ' τ pool rs hl hd hout hw hk
      obtain ⟨_, e4, rfl⟩ := hd 4 rfl _ rfl
      refine o_index rfl rfl rfl z_slT27 rfl e4 (hs38.up hl) rfl hf54 (fun b55 of56 vsb55 hc57 hrepb55 => ?_)
      exact hk _ _ (Sto.Le.refl _) ⟨b55, of56, _, rfl, hc57, hrepb55⟩
     ·intro ρ' τ pool rs hl hd hout hw hk
      obtain ⟨_, e5, b55, of56, vsb55, rfl, hc57, hrepb55⟩ := hd 5 rfl _ rfl
      have hrepb55 := hrepb55
      obtain rfl := hrepb55
      refine o_loadI (v := .int .i64 q53) rfl rfl rfl z_sc3 e5 (hc57 0 _ rfl) ?_
      exact hk _ _ (Sto.Le.refl _) rfl
     ·intro ρ' τ pool rs hl hd hout hw hk
      obtain ⟨_, e7, rfl⟩ := hd 7 rfl _ rfl
      refine o_index rfl rfl rfl z_slT27 rfl e7 (hs38.up hl) rfl hf59 (fun b60 of61 vsb60 hc62 hrepb60 => ?_)
      exact hk _ _ (Sto.Le.refl _) ⟨b60, of61, _, rfl, hc62, hrepb60⟩
     ·intro ρ' τ pool rs hl hd hout hw hk
      obtain ⟨_, e8, b60, of61, vsb60, rfl, hc62, hrepb60⟩ := hd 8 rfl _ rfl
      have hrepb60 := hrepb60
      obtain rfl := hrepb60
      refine o_loadI (v := .int .i64 q58) rfl rfl rfl z_sc3 e8 (hc62 0 _ rfl) ?_
      exact hk _ _ (Sto.Le.refl _) rfl
     ·intro ρ' τ pool rs hl hd hout hw hk
      obtain ⟨_, e6, rfl⟩ := hd 6 rfl _ rfl
      obtain ⟨_, e9, rfl⟩ := hd 9 rfl _ rfl
      refine o_buildA (ps := [(0, [.int .i64 q53]), (1, [.int .i64 q58])]) (cs := [.int .i64 q53, .int .i64 q58]) rfl rfl rfl z_arrz102 ⟨rfl, ⟨_, e6, rfl⟩, ⟨rfl, ⟨_, e9, rfl⟩, trivial⟩⟩ (fill_all [.int .i64 q53, .int .i64 q58] _ rfl) ?_
      exact hk _ _ (Sto.Le.refl _) rfl
     ·intro ρ' τ pool rs hl hd hout hw hk
      obtain ⟨_, e10, rfl⟩ := hd 10 rfl _ rfl
      refine o_litE (eA .i64 2) [[q53, q58]] rfl rfl rfl z_slT42 z_zero102 ⟨rfl, ⟨_, e10, rfl⟩, trivial⟩ rfl rfl rfl rfl (fun v63 g64 ho65 => ?_)
      refine st_freeze (fun τ66 hl67 hg68 => ?_)
      have hs69 := ho65.freeze hl67 hg68
      exact hk _ _ hl67 ⟨v63, rfl, hs69⟩
     ·intro ρ' τ u Fv pool rs hl hI hu hd hout hw hk
      obtain ⟨_, e11, v63, rfl, hs69⟩ := hd 11 rfl _ rfl
      obtain ⟨v50, g51, rfl, rfl, ho52⟩ := hI
      refine st_gs [[(b5, .cells #[.int .i64 a0.1, .int .i64 (a0.2.1.getD 0 0), .int .i64 (a0.2.1.getD 1 0), .int .i64 (a0.2.1.getD 2 0), .int .i64 (a0.2.1.getD 3 0), .int .i64 (a0.2.1.getD 4 0), .int .i64 (a0.2.1.getD 5 0), v20, v2, .string a0.2.2.2.2.1, .string a0.2.2.2.2.2] 44 (0, 0))], [(b7, .cells #[.int .i64 0, .int .i64 0, .int .i64 0, .int .i64 0, .int .i64 0, .int .i64 0, .int .i64 0, .slice none 0 0, .slice none 0 0, .string (bstr []), .string (bstr [])] 44 (0, 0))], g51, pool] rfl ?_
      refine st_ord [2, 0, 0, 0] _ rfl ?_
      refine o_append (dk := (kA .i64 2)) (xs := (([] : List (List Int)) ++ s19.2)) (ys := [[q53, q58]]) rfl rfl rfl rfl z_slT42 (hu (by decide) _ rfl) ho52 e11 (Sl.src hs69) hf73 hf74 (fun v70 g71 ho72 => ?_)
      refine st_ord [1, 1, 0, 0] _ rfl ?_
      exact hk _ _ [g71] (Sto.Le.refl _) trivial (by exact ⟨v70, g71, rfl, rfl, ho72⟩)
     intro ρ' τ78 vals u Fv hl78 hI hu hv hout
     obtain ⟨v75, g76, rfl, rfl, ho77⟩ := hI
     refine st_gs [[(b5, .cells #[.int .i64 a0.1, .int .i64 (a0.2.1.getD 0 0), .int .i64 (a0.2.1.getD 1 0), .int .i64 (a0.2.1.getD 2 0), .int .i64 (a0.2.1.getD 3 0), .int .i64 (a0.2.1.getD 4 0), .int .i64 (a0.2.1.getD 5 0), v20, v2, .string a0.2.2.2.2.1, .string a0.2.2.2.2.2] 44 (0, 0))], [(b7, .cells #[.int .i64 0, .int .i64 0, .int .i64 0, .int .i64 0, .int .i64 0, .int .i64 0, .int .i64 0, .slice none 0 0, .slice none 0 0, .string (bstr []), .string (bstr [])] 44 (0, 0))], g76] rfl ?_
     refine st_env (ρ' := [(3, .pointer (some ⟨b5, 0, none⟩)), (6, .pointer (some ⟨b7, 0, none⟩)), (7, .int .i64 0), (8, .int .i64 0), (9, v17), (10, .int .i64 s19.1), (65, v75)]) ⟨(hout 3 rfl).trans rfl, (hout 6 rfl).trans rfl, (hout 7 rfl).trans rfl, (hout 8 rfl).trans rfl, (hout 9 rfl).trans rfl, (hout 10 rfl).trans rfl, (by exact hu _ rfl), trivial⟩ ?_
     refine o_fieldAddr rfl rfl rfl z_field44_2 rfl ?_
     refine o_store (j := 0) (vs := [v75]) (cs' := [.int .i64 a0.1, .int .i64 (a0.2.1.getD 0 0), .int .i64 (a0.2.1.getD 1 0), .int .i64 (a0.2.1.getD 2 0), .int .i64 (a0.2.1.getD 3 0), .int .i64 (a0.2.1.getD 4 0), .int .i64 (a0.2.1.getD 5 0), v75, v2, .string a0.2.2.2.2.1, .string a0.2.2.2.2.2]) rfl rfl rfl z_size42 rfl rfl (oneL_ow ho77) (ones_cons ho77.one' ones_nil) rfl rfl rfl ?_
     refine st_gs [[(b5, .cells #[.int .i64 a0.1, .int .i64 (a0.2.1.getD 0 0), .int .i64 (a0.2.1.getD 1 0), .int .i64 (a0.2.1.getD 2 0), .int .i64 (a0.2.1.getD 3 0), .int .i64 (a0.2.1.getD 4 0), .int .i64 (a0.2.1.getD 5 0), v75, v2, .string a0.2.2.2.2.1, .string a0.2.2.2.2.2] 44 (0, 0))], [(b7, .cells #[.int .i64 0, .int .i64 0, .int .i64 0, .int .i64 0, .int .i64 0, .int .i64 0, .int .i64 0, .slice none 0 0, .slice none 0 0, .string (bstr []), .string (bstr [])] 44 (0, 0))], g76] rfl ?_
     refine Z 7 rfl ?_
     refine st_ord [2, 0, 0] _ rfl ?_
     refine st_freeze (fun τ79 hl80 hg81 => ?_)
     have hs82 := ho77.freeze hl80 hg81
     exact hn19 _ _ _ _ h ⟨((((hl19.trans hl30).trans hl36).trans hl78).trans hl80), _, rfl, rfl, hs82⟩
  ·refine Z 2 rfl ?_
   obtain rfl := he19 _ h
   replace h := hA19
   exact hk8 _ _ _ ⟨(0, (a0.2.1.getD 0 0), (a0.2.1.getD 1 0), (a0.2.1.getD 2 0), (a0.2.1.getD 3 0), (a0.2.1.getD 4 0), (a0.2.1.getD 5 0), s19.2, a0.2.2.2.1, a0.2.2.2.2.1, a0.2.2.2.2.2), _, _, h, (hl16.trans hl19), rfl, rfl, hs21, (hs4.up (hl16.trans hl19))⟩
 ·refine Z 5 rfl ?_
  refine st_if rfl h (fun h => ?_) (fun h => ?_)
  ·refine Z 2 rfl ?_
   obtain ⟨r86, hr87, h⟩ := h
   refine st_call (foot := []) rfl rfl rfl rfl rfl rfl (callV_fn z_en50 (ref20_Split_ok hr87 σ)) ?_
   rintro vτ88 τ88 gsτ88 hl89 ⟨v90, rfl, rfl, hs91⟩
   obtain ⟨r92, hr93, h⟩ := h
   refine st_call (foot := []) rfl rfl rfl rfl rfl rfl (callV_fn z_en85 (ref20_numbers_ok hr93 τ88 hs91)) ?_
   rintro vτ94 τ94 gsτ94 hl95 ⟨v96, rfl, rfl, hs97⟩
   refine Z 4 rfl ?_
   refine o_store (j := 2) (vs := [v96]) (cs' := [.int .i64 a0.1, .int .i64 (a0.2.1.getD 0 0), .int .i64 (a0.2.1.getD 1 0), .int .i64 (a0.2.1.getD 2 0), .int .i64 (a0.2.1.getD 3 0), .int .i64 (a0.2.1.getD 4 0), .int .i64 (a0.2.1.getD 5 0), v1, v96, .string a0.2.2.2.2.1, .string a0.2.2.2.2.2]) rfl rfl rfl z_size27 rfl rfl (oneL_sl hs97) (ones_cons hs97.one' ones_nil) rfl rfl rfl ?_
   refine st_gs [[(b7, .cells #[.int .i64 0, .int .i64 0, .int .i64 0, .int .i64 0, .int .i64 0, .int .i64 0, .int .i64 0, .slice none 0 0, .slice none 0 0, .string (bstr []), .string (bstr [])] 44 (0, 0))], [(b6, .cells #[.string a1.1, .int .i64 a1.2.1, .int .i64 a1.2.2.1, .int .i64 a1.2.2.2.1, .int .i64 a1.2.2.2.2.1, .int .i64 a1.2.2.2.2.2.1, .int .i64 a1.2.2.2.2.2.2] 101 (0, 0))], [(b5, .cells #[.int .i64 a0.1, .int .i64 (a0.2.1.getD 0 0), .int .i64 (a0.2.1.getD 1 0), .int .i64 (a0.2.1.getD 2 0), .int .i64 (a0.2.1.getD 3 0), .int .i64 (a0.2.1.getD 4 0), .int .i64 (a0.2.1.getD 5 0), v1, v96, .string a0.2.2.2.2.1, .string a0.2.2.2.2.2] 44 (0, 0))]] rfl ?_
   refine Z 3 rfl ?_
   refine st_ord [2, 0] _ rfl ?_
   exact hk8 _ _ _ ⟨(r92.2, (a0.2.1.getD 0 0), (a0.2.1.getD 1 0), (a0.2.1.getD 2 0), (a0.2.1.getD 3 0), (a0.2.1.getD 4 0), (a0.2.1.getD 5 0), a0.2.2.1, r92.1, a0.2.2.2.2.1, a0.2.2.2.2.2), _, _, h, (hl89.trans hl95), rfl, rfl, (hs3.up (hl89.trans hl95)), hs97⟩
  ·refine Z 5 rfl ?_
   refine st_if rfl h (fun h => ?_) (fun h => ?_)
   ·refine Z 2 rfl ?_
    obtain ⟨r98, hr99, h⟩ := h
    refine st_call (foot := []) rfl rfl rfl rfl rfl rfl (callV_fn z_en86 (ref20_unhex_ok hr99 σ)) ?_
    rintro vτ100 τ100 gsτ100 hl101 ⟨rfl, rfl⟩
    refine ZZ 8 [2] rfl rfl ?_
    refine st_ord [2, 0] _ rfl ?_
    exact hk8 _ _ _ ⟨(r98.2, (a0.2.1.getD 0 0), (a0.2.1.getD 1 0), (a0.2.1.getD 2 0), (a0.2.1.getD 3 0), (a0.2.1.getD 4 0), (a0.2.1.getD 5 0), a0.2.2.1, a0.2.2.2.1, r98.1, a0.2.2.2.2.2), _, _, h, hl101, rfl, rfl, (hs3.up hl101), (hs4.up hl101)⟩
   ·refine Z 5 rfl ?_
    refine st_if rfl h (fun h => ?_) (fun h => ?_)
    ·refine Z 2 rfl ?_
     obtain ⟨r102, hr103, h⟩ := h
     refine st_call (foot := []) rfl rfl rfl rfl rfl rfl (callV_fn z_en86 (ref20_unhex_ok hr103 σ)) ?_
     rintro vτ104 τ104 gsτ104 hl105 ⟨rfl, rfl⟩
     refine ZZ 8 [2] rfl rfl ?_
     refine st_ord [2, 0] _ rfl ?_
     exact hk8 _ _ _ ⟨(r102.2, (a0.2.1.getD 0 0), (a0.2.1.getD 1 0), (a0.2.1.getD 2 0), (a0.2.1.getD 3 0), (a0.2.1.getD 4 0), (a0.2.1.getD 5 0), a0.2.2.1, a0.2.2.2.1, a0.2.2.2.2.1, r102.1), _, _, h, hl105, rfl, rfl, (hs3.up hl105), (hs4.up hl105)⟩
    ·obtain ⟨r106, hr107, hf110, hf111, h⟩ := h
     refine st_d41 [[(b7, .cells #[.int .i64 0, .int .i64 0, .int .i64 0, .int .i64 0, .int .i64 0, .int .i64 0, .int .i64 0, .slice none 0 0, .slice none 0 0, .string (bstr []), .string (bstr [])] 44 (0, 0))], [(b6, .cells #[.string a1.1, .int .i64 a1.2.1, .int .i64 a1.2.2.1, .int .i64 a1.2.2.2.1, .int .i64 a1.2.2.2.2.1, .int .i64 a1.2.2.2.2.2.1, .int .i64 a1.2.2.2.2.2.2] 101 (0, 0))]] [[(b5, .cells #[.int .i64 a0.1, .int .i64 (a0.2.1.getD 0 0), .int .i64 (a0.2.1.getD 1 0), .int .i64 (a0.2.1.getD 2 0), .int .i64 (a0.2.1.getD 3 0), .int .i64 (a0.2.1.getD 4 0), .int .i64 (a0.2.1.getD 5 0), v1, v2, .string a0.2.2.2.2.1, .string a0.2.2.2.2.2] 44 (0, 0))]] 10 1 [none, none, none, none, none, none, none, none, none, some (0, 0)] [none, none, none, none, none, none, none, none, none, none] [[none, none]] [.v (.pointer (some ⟨b6, 2, none⟩)), .v (.int .i64 a1.2.2.1), .v (.string a2), .v (.tuple #[.int .i64 r106.1, .int .i64 r106.2]), .v (.tuple #[.int .i64 r106.1, .int .i64 r106.2]), .v (.int .i64 r106.1), .v (.int .i64 r106.2), .v (.pointer (some ⟨b5, 1, none⟩)), .v (.pointer (some ⟨b5, 1 + a1.2.2.1.toNat * 1, none⟩)), .t fun _ _ => True] [[fun τ u F => F = [[(b5, .cells #[.int .i64 a0.1, .int .i64 (a0.2.1.getD 0 0), .int .i64 (a0.2.1.getD 1 0), .int .i64 (a0.2.1.getD 2 0), .int .i64 (a0.2.1.getD 3 0), .int .i64 (a0.2.1.getD 4 0), .int .i64 (a0.2.1.getD 5 0), v1, v2, .string a0.2.2.2.2.1, .string a0.2.2.2.2.2] 44 (0, 0))]], fun τ u F => F = [[(b5, .cells #[.int .i64 a0.1, .int .i64 ((putN 6 0 a0.2.1 a1.2.2.1.toNat r106.1).getD 0 0), .int .i64 ((putN 6 0 a0.2.1 a1.2.2.1.toNat r106.1).getD 1 0), .int .i64 ((putN 6 0 a0.2.1 a1.2.2.1.toNat r106.1).getD 2 0), .int .i64 ((putN 6 0 a0.2.1 a1.2.2.1.toNat r106.1).getD 3 0), .int .i64 ((putN 6 0 a0.2.1 a1.2.2.1.toNat r106.1).getD 4 0), .int .i64 ((putN 6 0 a0.2.1 a1.2.2.1.toNat r106.1).getD 5 0), v1, v2, .string a0.2.2.2.2.1, .string a0.2.2.2.2.2] 44 (0, 0))]]]] rfl z_mix rfl ⟨fun _ _ _ _ _ => trivial, trivial⟩ ⟨⟨fun _ _ _ _ hl h => h, ⟨fun _ _ _ _ hl h => h, trivial⟩⟩, trivial⟩ rfl rfl ?_ (allB_cons (allB_cons (allB_cons (allB_cons (allB_cons (allB_cons (allB_cons (allB_cons (allB_cons (allB_cons allB_nil (p4 dA)) ?_) (p4 dA)) ?_) ?_) (p4 dA)) (p4 dA)) (p4 dA)) ?_) ?_) ?_
     ·exact rfl
     ·intro ρ' τ pool rs hl hd hout hw hk
      obtain ⟨_, e0, rfl⟩ := hd 0 rfl _ rfl
      refine o_load (j := 1) (v := .int .i64 a1.2.2.1) rfl rfl rfl z_sc3 e0 rfl rfl ?_
      exact hk _ _ (Sto.Le.refl _) rfl
     ·intro ρ' τ pool rs hl hd hout hw hk
      obtain ⟨_, e2, rfl⟩ := hd 2 rfl _ rfl
      refine st_call (foot := []) rfl rfl rfl rfl (evs_cons e2 rfl) rfl (callV_fn z_en87 (ref20_Read_ok hr107 τ)) ?_
      rintro vτ108 τ108 gsτ108 hl109 ⟨rfl, rfl⟩
      exact hk _ _ hl109 rfl
     ·intro ρ' τ pool rs hl hd hout hw hk
      obtain ⟨_, e3, rfl⟩ := hd 3 rfl _ rfl
      refine o_move rfl rfl rfl e3 ?_
      exact hk _ _ (Sto.Le.refl _) rfl
     ·intro ρ' τ pool rs hl hd hout hw hk
      obtain ⟨_, e1, rfl⟩ := hd 1 rfl _ rfl
      obtain ⟨_, e7, rfl⟩ := hd 7 rfl _ rfl
      refine o_indexA rfl rfl rfl z_arr35 e7 e1 hf110 hf111 ?_
      exact hk _ _ (Sto.Le.refl _) rfl
     ·intro ρ' τ u Fv pool rs hl hI hu hd hout hw hk
      obtain ⟨_, e5, rfl⟩ := hd 5 rfl _ rfl
      obtain ⟨_, e8, rfl⟩ := hd 8 rfl _ rfl
      have hI0 := hI
      obtain rfl := hI
      refine st_gs [[(b7, .cells #[.int .i64 0, .int .i64 0, .int .i64 0, .int .i64 0, .int .i64 0, .int .i64 0, .int .i64 0, .slice none 0 0, .slice none 0 0, .string (bstr []), .string (bstr [])] 44 (0, 0))], [(b6, .cells #[.string a1.1, .int .i64 a1.2.1, .int .i64 a1.2.2.1, .int .i64 a1.2.2.2.1, .int .i64 a1.2.2.2.2.1, .int .i64 a1.2.2.2.2.2.1, .int .i64 a1.2.2.2.2.2.2] 101 (0, 0))], [(b5, .cells #[.int .i64 a0.1, .int .i64 (a0.2.1.getD 0 0), .int .i64 (a0.2.1.getD 1 0), .int .i64 (a0.2.1.getD 2 0), .int .i64 (a0.2.1.getD 3 0), .int .i64 (a0.2.1.getD 4 0), .int .i64 (a0.2.1.getD 5 0), v1, v2, .string a0.2.2.2.2.1, .string a0.2.2.2.2.2] 44 (0, 0))], pool] rfl ?_
      refine o_storeV (j := 2) (a1.2.2.1.toNat) (f := (Value.int .i64)) (zz := 0) (a := r106.1) (l := 6) (xs := a0.2.1) [.int .i64 a0.1] [v1, v2, .string a0.2.2.2.2.1, .string a0.2.2.2.2.2] rfl rfl rfl z_size3 e8 e5 rfl rfl rfl (by simp only [List.length_cons, List.length_nil] <;> omega) (by omega) ?_
      refine st_gs [[(b7, .cells #[.int .i64 0, .int .i64 0, .int .i64 0, .int .i64 0, .int .i64 0, .int .i64 0, .int .i64 0, .slice none 0 0, .slice none 0 0, .string (bstr []), .string (bstr [])] 44 (0, 0))], [(b6, .cells #[.string a1.1, .int .i64 a1.2.1, .int .i64 a1.2.2.1, .int .i64 a1.2.2.2.1, .int .i64 a1.2.2.2.2.1, .int .i64 a1.2.2.2.2.2.1, .int .i64 a1.2.2.2.2.2.2] 101 (0, 0))], [(b5, .cells #[.int .i64 a0.1, .int .i64 ((putN 6 0 a0.2.1 a1.2.2.1.toNat r106.1).getD 0 0), .int .i64 ((putN 6 0 a0.2.1 a1.2.2.1.toNat r106.1).getD 1 0), .int .i64 ((putN 6 0 a0.2.1 a1.2.2.1.toNat r106.1).getD 2 0), .int .i64 ((putN 6 0 a0.2.1 a1.2.2.1.toNat r106.1).getD 3 0), .int .i64 ((putN 6 0 a0.2.1 a1.2.2.1.toNat r106.1).getD 4 0), .int .i64 ((putN 6 0 a0.2.1 a1.2.2.1.toNat r106.1).getD 5 0), v1, v2, .string a0.2.2.2.2.1, .string a0.2.2.2.2.2] 44 (0, 0))], pool] rfl ?_
      exact hk _ _ [[(b5, .cells #[.int .i64 a0.1, .int .i64 ((putN 6 0 a0.2.1 a1.2.2.1.toNat r106.1).getD 0 0), .int .i64 ((putN 6 0 a0.2.1 a1.2.2.1.toNat r106.1).getD 1 0), .int .i64 ((putN 6 0 a0.2.1 a1.2.2.1.toNat r106.1).getD 2 0), .int .i64 ((putN 6 0 a0.2.1 a1.2.2.1.toNat r106.1).getD 3 0), .int .i64 ((putN 6 0 a0.2.1 a1.2.2.1.toNat r106.1).getD 4 0), .int .i64 ((putN 6 0 a0.2.1 a1.2.2.1.toNat r106.1).getD 5 0), v1, v2, .string a0.2.2.2.2.1, .string a0.2.2.2.2.2] 44 (0, 0))]] (Sto.Le.refl _) trivial (by exact rfl)
     intro ρ' τ112 vals u Fv hl112 hI hu hv hout
     obtain rfl := hI
     refine st_gs [[(b7, .cells #[.int .i64 0, .int .i64 0, .int .i64 0, .int .i64 0, .int .i64 0, .int .i64 0, .int .i64 0, .slice none 0 0, .slice none 0 0, .string (bstr []), .string (bstr [])] 44 (0, 0))], [(b6, .cells #[.string a1.1, .int .i64 a1.2.1, .int .i64 a1.2.2.1, .int .i64 a1.2.2.2.1, .int .i64 a1.2.2.2.2.1, .int .i64 a1.2.2.2.2.2.1, .int .i64 a1.2.2.2.2.2.2] 101 (0, 0))], [(b5, .cells #[.int .i64 a0.1, .int .i64 ((putN 6 0 a0.2.1 a1.2.2.1.toNat r106.1).getD 0 0), .int .i64 ((putN 6 0 a0.2.1 a1.2.2.1.toNat r106.1).getD 1 0), .int .i64 ((putN 6 0 a0.2.1 a1.2.2.1.toNat r106.1).getD 2 0), .int .i64 ((putN 6 0 a0.2.1 a1.2.2.1.toNat r106.1).getD 3 0), .int .i64 ((putN 6 0 a0.2.1 a1.2.2.1.toNat r106.1).getD 4 0), .int .i64 ((putN 6 0 a0.2.1 a1.2.2.1.toNat r106.1).getD 5 0), v1, v2, .string a0.2.2.2.2.1, .string a0.2.2.2.2.2] 44 (0, 0))]] rfl ?_
     refine st_env (ρ' := [(22, .int .i64 r106.2), (3, .pointer (some ⟨b5, 0, none⟩)), (6, .pointer (some ⟨b7, 0, none⟩)), (7, .int .i64 0)]) ⟨(lv4 hv 6 rfl rfl rfl), (hout 3 rfl).trans rfl, (hout 6 rfl).trans rfl, (hout 7 rfl).trans rfl, trivial⟩ ?_
     refine Z 3 rfl ?_
     refine st_ord [2, 0] _ rfl ?_
     exact hk8 _ _ _ ⟨(r106.2, ((putN 6 0 a0.2.1 a1.2.2.1.toNat r106.1).getD 0 0), ((putN 6 0 a0.2.1 a1.2.2.1.toNat r106.1).getD 1 0), ((putN 6 0 a0.2.1 a1.2.2.1.toNat r106.1).getD 2 0), ((putN 6 0 a0.2.1 a1.2.2.1.toNat r106.1).getD 3 0), ((putN 6 0 a0.2.1 a1.2.2.1.toNat r106.1).getD 4 0), ((putN 6 0 a0.2.1 a1.2.2.1.toNat r106.1).getD 5 0), a0.2.2.1, a0.2.2.2.1, a0.2.2.2.2.1, a0.2.2.2.2.2), _, _, h, hl112, rfl, rfl, (hs3.up hl112), (hs4.up hl112)⟩
theorem ref20_Parse_ok {a0 : ByteArray} {r : (Int × List Int × List (List Int) × List Int × ByteArray × ByteArray) × Int} (h : ref20_Parse a0 r) (σ : Sto)  :
    Does Tryz.prog 21 [.string a0] σ [] (fun v τ gs => ∃ (v86 : Value) (v87 : Value), gs = [] ∧ .tuple [.agg [.int .i64 r.1.1, .int .i64 (r.1.2.1.getD 0 0), .int .i64 (r.1.2.1.getD 1 0), .int .i64 (r.1.2.1.getD 2 0), .int .i64 (r.1.2.1.getD 3 0), .int .i64 (r.1.2.1.getD 4 0), .int .i64 (r.1.2.1.getD 5 0), v86, v87, .string r.1.2.2.2.2.1, .string r.1.2.2.2.2.2].toArray, .int .i64 r.2].toArray = v ∧ Sl (kA .i64 2) τ v86 r.1.2.2.1 ∧ Sl (kI .i64) τ v87 r.1.2.2.2.1) := by
 refine call_of Tryz.func21 Tryz.ntmps21 rfl rfl (fun cs fs => ?_)
 refine Z 2 rfl ?_
 refine o_alloc rfl rfl rfl z_zero44 (fun b1 => ?_)
 refine Z 5 rfl ?_
 obtain ⟨r2, hr3, h⟩ := h
 refine st_call (foot := []) rfl rfl rfl rfl rfl rfl (callV_fn z_en50 (ref20_Split_ok hr3 σ)) ?_
 rintro vτ4 τ4 gsτ4 hl5 ⟨v6, rfl, rfl, hs7⟩
 refine ZZ 5 [] rfl rfl ?_
 refine o_alloc rfl rfl rfl z_zero44 (fun b8 => ?_)
 refine ZZ 3 [0] rfl rfl ?_
 refine st_cut (fun ρ τ9 gs => ∃ (s9 : Int), ref20_Parse_j1 r2 s9 r ∧ τ4.Le τ9 ∧ ESub ρ [(2, .pointer (some ⟨b1, 0, none⟩)), (3, .int .i64 0), (4, v6), (5, .pointer (some ⟨b8, 0, none⟩))] ∧ gs = [[(b1, .cells #[.int .i64 0, .int .i64 0, .int .i64 0, .int .i64 0, .int .i64 0, .int .i64 0, .int .i64 0, .slice none 0 0, .slice none 0 0, .string (bstr []), .string (bstr [])] 44 (0, 0))], [(b8, .cells #[.int .i64 s9, .int .i64 0, .int .i64 0, .int .i64 0, .int .i64 0, .int .i64 0, .int .i64 0, .slice none 0 0, .slice none 0 0, .string (bstr []), .string (bstr [])] 44 (0, 0))]]) ?_ (fun hk9 => ?_)
 ·rintro ρ9 τ9 gs9 ⟨s9, h, hl9, hρ, rfl⟩
  refine st_es hρ ?_
  refine ZZ 7 [1] rfl rfl ?_
  refine st_if rfl h (fun h => ?_) (fun h => ?_)
  ·refine ZZ 6 [0] rfl rfl ?_
   obtain rfl := Eq.symm h
   exact st_retC (gs' := []) [.agg #[.int .i64 0, .int .i64 0, .int .i64 0, .int .i64 0, .int .i64 0, .int .i64 0, .int .i64 0, .slice none 0 0, .slice none 0 0, .string (bstr []), .string (bstr [])], .int .i64 9] Tryz.func21 ⟨⟨_, _, _, _, rfl, mem_flat 0 rfl, fun w hw => cellOfN (vs := [.int .i64 0, .int .i64 0, .int .i64 0, .int .i64 0, .int .i64 0, .int .i64 0, .int .i64 0, .slice none 0 0, .slice none 0 0, .string (bstr []), .string (bstr [])]) z_agg44 rfl w hw⟩, rfl, trivial⟩ (by simp) (hl5.trans hl9) ⟨_, _, rfl, rfl, Sl.nil, Sl.nil⟩
  ·refine ZZ 5 [1] rfl rfl ?_
   obtain ⟨r10, hr11, h⟩ := h
   refine st_call (foot := []) rfl rfl rfl rfl rfl rfl (callV_fn z_en38 (ref16_All_ok hr11 τ9)) ?_
   rintro vτ12 τ12 gsτ12 hl13 ⟨v14, rfl, rfl, hs15⟩
   refine Z 7 rfl ?_
   refine st_cut (fun ρ τ16 gs => ∃ (s16 : Int × Int × Int × Int × Int × Int × Int × Int × List (List Int) × List Int × ByteArray × ByteArray) (v17 : Value) (v19 : Value), ref20_Parse_j2 r2 s16 r ∧ τ12.Le τ16 ∧ ESub ρ [(2, .pointer (some ⟨b1, 0, none⟩)), (3, .int .i64 0), (4, v6), (5, .pointer (some ⟨b8, 0, none⟩)), (8, .int .i64 s16.1)] ∧ gs = [[(b1, .cells #[.int .i64 0, .int .i64 0, .int .i64 0, .int .i64 0, .int .i64 0, .int .i64 0, .int .i64 0, .slice none 0 0, .slice none 0 0, .string (bstr []), .string (bstr [])] 44 (0, 0))], [(b8, .cells #[.int .i64 s16.2.1, .int .i64 s16.2.2.1, .int .i64 s16.2.2.2.1, .int .i64 s16.2.2.2.2.1, .int .i64 s16.2.2.2.2.2.1, .int .i64 s16.2.2.2.2.2.2.1, .int .i64 s16.2.2.2.2.2.2.2.1, v17, v19, .string s16.2.2.2.2.2.2.2.2.2.2.1, .string s16.2.2.2.2.2.2.2.2.2.2.2] 44 (0, 0))]] ∧ Sl (kA .i64 2) τ16 v17 s16.2.2.2.2.2.2.2.2.1 ∧ Sl (kI .i64) τ16 v19 s16.2.2.2.2.2.2.2.2.2.1) ?_ (fun hk16 => ?_)
   ·rintro ρ16 τ16 gs16 ⟨s16, v17, v19, h, hl16, hρ, rfl, hs18, hs20⟩
    refine st_es hρ ?_
    refine Z 5 rfl ?_
    refine o_lenI rfl rfl rfl z_slT106 rfl (hs7.up ((hl9.trans hl13).trans hl16)) ?_
    refine Z 2 rfl ?_
    refine st_if rfl h (fun h => ?_) (fun h => ?_)
    ·refine ZZ 6 [0] rfl rfl ?_
     obtain rfl := Eq.symm h
     exact st_retC (gs' := []) [.agg #[.int .i64 0, .int .i64 0, .int .i64 0, .int .i64 0, .int .i64 0, .int .i64 0, .int .i64 0, .slice none 0 0, .slice none 0 0, .string (bstr []), .string (bstr [])], .int .i64 6] Tryz.func21 ⟨⟨_, _, _, _, rfl, mem_flat 0 rfl, fun w hw => cellOfN (vs := [.int .i64 0, .int .i64 0, .int .i64 0, .int .i64 0, .int .i64 0, .int .i64 0, .int .i64 0, .slice none 0 0, .slice none 0 0, .string (bstr []), .string (bstr [])]) z_agg44 rfl w hw⟩, rfl, trivial⟩ (by simp) (((hl5.trans hl9).trans hl13).trans hl16) ⟨_, _, rfl, rfl, Sl.nil, Sl.nil⟩
    ·refine ZZ 5 [1] rfl rfl ?_
     obtain ⟨r21, hr22, h⟩ := h
     refine st_call (foot := []) rfl rfl rfl rfl rfl rfl (callV_fn z_en36 (ref17_Check_ok hr22 τ16 hs18 hs20)) ?_
     rintro vτ23 τ23 gsτ23 hl24 ⟨rfl, rfl⟩
     refine Z 2 rfl ?_
     refine st_if rfl h (fun h => ?_) (fun h => ?_)
     ·refine ZZ 4 [1] rfl rfl ?_
      obtain ⟨r25, hr26, h⟩ := h
      refine st_call (foot := []) rfl rfl rfl rfl rfl rfl (callV_fn z_en36 (ref17_Check_ok hr26 τ23 (hs18.up hl24) (hs20.up hl24))) ?_
      rintro vτ27 τ27 gsτ27 hl28 ⟨rfl, rfl⟩
      refine ZZ 3 [0] rfl rfl ?_
      obtain rfl := Eq.symm h
      exact st_retC (gs' := []) [.agg #[.int .i64 0, .int .i64 0, .int .i64 0, .int .i64 0, .int .i64 0, .int .i64 0, .int .i64 0, .slice none 0 0, .slice none 0 0, .string (bstr []), .string (bstr [])], .int .i64 r25] Tryz.func21 ⟨⟨_, _, _, _, rfl, mem_flat 0 rfl, fun w hw => cellOfN (vs := [.int .i64 0, .int .i64 0, .int .i64 0, .int .i64 0, .int .i64 0, .int .i64 0, .int .i64 0, .slice none 0 0, .slice none 0 0, .string (bstr []), .string (bstr [])]) z_agg44 rfl w hw⟩, rfl, trivial⟩ (by simp) (((((hl5.trans hl9).trans hl13).trans hl16).trans hl24).trans hl28) ⟨_, _, rfl, rfl, Sl.nil, Sl.nil⟩
     ·refine ZZ 4 [1] rfl rfl ?_
      refine o_store (j := 0) (vs := [.int .i64 s16.2.1, .int .i64 s16.2.2.1, .int .i64 s16.2.2.2.1, .int .i64 s16.2.2.2.2.1, .int .i64 s16.2.2.2.2.2.1, .int .i64 s16.2.2.2.2.2.2.1, .int .i64 s16.2.2.2.2.2.2.2.1, v17, v19, .string s16.2.2.2.2.2.2.2.2.2.2.1, .string s16.2.2.2.2.2.2.2.2.2.2.2]) (cs' := [.int .i64 s16.2.1, .int .i64 s16.2.2.1, .int .i64 s16.2.2.2.1, .int .i64 s16.2.2.2.2.1, .int .i64 s16.2.2.2.2.2.1, .int .i64 s16.2.2.2.2.2.2.1, .int .i64 s16.2.2.2.2.2.2.2.1, v17, v19, .string s16.2.2.2.2.2.2.2.2.2.2.1, .string s16.2.2.2.2.2.2.2.2.2.2.2]) rfl rfl rfl z_size44 rfl rfl rfl (ones_cons rfl (ones_cons rfl (ones_cons rfl (ones_cons rfl (ones_cons rfl (ones_cons rfl (ones_cons rfl (ones_cons (hs18.up hl24).one' (ones_cons (hs20.up hl24).one' (ones_cons rfl (ones_cons rfl ones_nil))))))))))) rfl rfl rfl ?_
      refine st_gs [[(b1, .cells #[.int .i64 s16.2.1, .int .i64 s16.2.2.1, .int .i64 s16.2.2.2.1, .int .i64 s16.2.2.2.2.1, .int .i64 s16.2.2.2.2.2.1, .int .i64 s16.2.2.2.2.2.2.1, .int .i64 s16.2.2.2.2.2.2.2.1, v17, v19, .string s16.2.2.2.2.2.2.2.2.2.2.1, .string s16.2.2.2.2.2.2.2.2.2.2.2] 44 (0, 0))], [(b8, .cells #[.int .i64 s16.2.1, .int .i64 s16.2.2.1, .int .i64 s16.2.2.2.1, .int .i64 s16.2.2.2.2.1, .int .i64 s16.2.2.2.2.2.1, .int .i64 s16.2.2.2.2.2.2.1, .int .i64 s16.2.2.2.2.2.2.2.1, v17, v19, .string s16.2.2.2.2.2.2.2.2.2.2.1, .string s16.2.2.2.2.2.2.2.2.2.2.2] 44 (0, 0))]] rfl ?_
      refine Z 2 rfl ?_
      obtain rfl := Eq.symm h
      exact st_retC (gs' := []) [.agg #[.int .i64 s16.2.1, .int .i64 s16.2.2.1, .int .i64 s16.2.2.2.1, .int .i64 s16.2.2.2.2.1, .int .i64 s16.2.2.2.2.2.1, .int .i64 s16.2.2.2.2.2.2.1, .int .i64 s16.2.2.2.2.2.2.2.1, v17, v19, .string s16.2.2.2.2.2.2.2.2.2.2.1, .string s16.2.2.2.2.2.2.2.2.2.2.2], .int .i64 0] Tryz.func21 ⟨⟨_, _, _, _, rfl, mem_flat 0 rfl, fun w hw => cellOfN (vs := [.int .i64 s16.2.1, .int .i64 s16.2.2.1, .int .i64 s16.2.2.2.1, .int .i64 s16.2.2.2.2.1, .int .i64 s16.2.2.2.2.2.1, .int .i64 s16.2.2.2.2.2.2.1, .int .i64 s16.2.2.2.2.2.2.2.1, v17, v19, .string s16.2.2.2.2.2.2.2.2.2.2.1, .string s16.2.2.2.2.2.2.2.2.2.2.2]) z_agg44 rfl w hw⟩, rfl, trivial⟩ (by simp) ((((hl5.trans hl9).trans hl13).trans hl16).trans hl24) ⟨_, _, rfl, rfl, (hs18.up hl24), (hs20.up hl24)⟩
   refine Z 4 rfl ?_
   obtain ⟨e29, hL29, hA29⟩ := h
   refine st_loop hL29 (fun (s29 : Int × Int × Int × Int × Int × Int × Int × Int × Int × List (List Int) × List Int × ByteArray × ByteArray) ρ τ29 gs => τ12.Le τ29 ∧ ∃ (v30 : Value) (v32 : Value), ESub ρ [(2, .pointer (some ⟨b1, 0, none⟩)), (3, .int .i64 0), (4, v6), (5, .pointer (some ⟨b8, 0, none⟩)), (7, v14), (8, .int .i64 s29.1), (9, .int .i64 s29.2.1)] ∧ gs = [[(b1, .cells #[.int .i64 0, .int .i64 0, .int .i64 0, .int .i64 0, .int .i64 0, .int .i64 0, .int .i64 0, .slice none 0 0, .slice none 0 0, .string (bstr []), .string (bstr [])] 44 (0, 0))], [(b8, .cells #[.int .i64 s29.2.2.1, .int .i64 s29.2.2.2.1, .int .i64 s29.2.2.2.2.1, .int .i64 s29.2.2.2.2.2.1, .int .i64 s29.2.2.2.2.2.2.1, .int .i64 s29.2.2.2.2.2.2.2.1, .int .i64 s29.2.2.2.2.2.2.2.2.1, v30, v32, .string s29.2.2.2.2.2.2.2.2.2.2.2.1, .string s29.2.2.2.2.2.2.2.2.2.2.2.2] 44 (0, 0))]] ∧ Sl (kA .i64 2) τ29 v30 s29.2.2.2.2.2.2.2.2.2.1 ∧ Sl (kI .i64) τ29 v32 s29.2.2.2.2.2.2.2.2.2.2.1) ⟨Sto.Le.refl _, _, _, rfl, rfl, Sl.nil, Sl.nil⟩ ?_
   rintro s29 o29 h he29 ρ29 τ29 gs29 ⟨hl29, v30, v32, hρ, rfl, hs31, hs33⟩ hn29
   refine st_es hρ ?_
   refine Z 5 rfl ?_
   refine o_lenI rfl rfl rfl z_slT99 rfl (hs15.up hl29) ?_
   refine Z 2 rfl ?_
   refine st_if rfl h (fun h => ?_) (fun h => ?_)
   ·refine Z 8 rfl ?_
    refine o_lenI rfl rfl rfl z_slT106 rfl (hs7.up ((hl9.trans hl13).trans hl29)) ?_
    refine Z 2 rfl ?_
    refine st_if rfl h (fun h => ?_) (fun h => ?_)
    ·refine ZZ 6 [0] rfl rfl ?_
     obtain rfl := he29 _ h
     replace h := hA29
     obtain rfl := Eq.symm h
     exact st_retC (gs' := []) [.agg #[.int .i64 0, .int .i64 0, .int .i64 0, .int .i64 0, .int .i64 0, .int .i64 0, .int .i64 0, .slice none 0 0, .slice none 0 0, .string (bstr []), .string (bstr [])], .int .i64 13] Tryz.func21 ⟨⟨_, _, _, _, rfl, mem_flat 0 rfl, fun w hw => cellOfN (vs := [.int .i64 0, .int .i64 0, .int .i64 0, .int .i64 0, .int .i64 0, .int .i64 0, .int .i64 0, .slice none 0 0, .slice none 0 0, .string (bstr []), .string (bstr [])]) z_agg44 rfl w hw⟩, rfl, trivial⟩ (by simp) (((hl5.trans hl9).trans hl13).trans hl29) ⟨_, _, rfl, rfl, Sl.nil, Sl.nil⟩
    ·refine Z 3 rfl ?_
     obtain ⟨q34, hf35, q39, hf40, h⟩ := h
     refine st_draw 10 (dl [.v (v6), .v (.int .i64 s29.1), .t fun τ v => ∃ (b36 : Nat) (of37 : Nat) (vsb36 : List Value), (.pointer (some ⟨b36, of37, none⟩) : Value) = v ∧ CelN τ ⟨b36, of37, none⟩ vsb36 ∧ kS.rep τ vsb36 q34, .v (.string q34), .v (v14), .v (.int .i64 s29.2.1), .t fun τ v => ∃ (b41 : Nat) (of42 : Nat) (vsb41 : List Value), (.pointer (some ⟨b41, of42, none⟩) : Value) = v ∧ CelN τ ⟨b41, of42, none⟩ vsb41 ∧ (kP kS (kP (kI .i64) (kP (kI .i64) (kP (kI .i64) (kP (kI .i64) (kP (kI .i64) (kI .i64))))))).rep τ vsb41 q39, .t fun τ v => ∃ (b41 : Nat) (of42 : Nat) (vsb41 : List Value), (.pointer (some ⟨b41, of42, none⟩) : Value) = v ∧ CelN τ ⟨b41, of42, none⟩ vsb41 ∧ (kP kS (kP (kI .i64) (kP (kI .i64) (kP (kI .i64) (kP (kI .i64) (kP (kI .i64) (kI .i64))))))).rep τ vsb41 q39, .v (.string q39.1), .v (.bool (!(decide (q34 = q39.1))))]) (fun _ _ => []) z_mix rfl (dl_mono ⟨fun _ _ _ hl ⟨b36, of37, vsb36, hv, hc38, hrepb36⟩ => ⟨b36, of37, vsb36, hv, hc38.up hl, Kd.mono _ hl hrepb36⟩, ⟨fun _ _ _ hl ⟨b41, of42, vsb41, hv, hc43, hrepb41⟩ => ⟨b41, of42, vsb41, hv, hc43.up hl, Kd.mono _ hl hrepb41⟩, ⟨fun _ _ _ hl ⟨b41, of42, vsb41, hv, hc43, hrepb41⟩ => ⟨b41, of42, vsb41, hv, hc43.up hl, Kd.mono _ hl hrepb41⟩, trivial⟩⟩⟩) (allB_cons (allB_cons (allB_cons (allB_cons (allB_cons (allB_cons (allB_cons (allB_cons (allB_cons (allB_cons allB_nil (p1 dA)) (p1 dA)) ?_) ?_) (p1 dA)) (p1 dA)) ?_) ?_) ?_) (p1 dA)) ?_
     ·intro ρ' τ pool rs hl hd hout hk
      obtain ⟨_, e0, rfl⟩ := hd 0 rfl
      obtain ⟨_, e1, rfl⟩ := hd 1 rfl
      refine o_index rfl rfl rfl z_slT106 rfl e0 (hs7.up (((hl9.trans hl13).trans hl29).trans hl)) e1 hf35 (fun b36 of37 vsb36 hc38 hrepb36 => ?_)
      exact st_addNil (hk _ _ (Sto.Le.refl _) ⟨b36, of37, _, rfl, hc38, hrepb36⟩)
     ·intro ρ' τ pool rs hl hd hout hk
      obtain ⟨_, e2, b36, of37, vsb36, rfl, hc38, hrepb36⟩ := hd 2 rfl
      have hrepb36 := hrepb36
      obtain rfl := hrepb36
      refine o_loadI (v := .string q34) rfl rfl rfl z_sc9 e2 (hc38 0 _ rfl) ?_
      exact st_addNil (hk _ _ (Sto.Le.refl _) rfl)
     ·intro ρ' τ pool rs hl hd hout hk
      obtain ⟨_, e4, rfl⟩ := hd 4 rfl
      obtain ⟨_, e5, rfl⟩ := hd 5 rfl
      refine o_index rfl rfl rfl z_slT99 rfl e4 (hs15.up (hl29.trans hl)) e5 hf40 (fun b41 of42 vsb41 hc43 hrepb41 => ?_)
      exact st_addNil (hk _ _ (Sto.Le.refl _) ⟨b41, of42, _, rfl, hc43, hrepb41⟩)
     ·intro ρ' τ pool rs hl hd hout hk
      obtain ⟨_, e6, b41, of42, vsb41, rfl, hc43, hrepb41⟩ := hd 6 rfl
      have hrepb41 := hrepb41
      obtain ⟨_, _, rfl, rfl, ⟨_, _, rfl, rfl, ⟨_, _, rfl, rfl, ⟨_, _, rfl, rfl, ⟨_, _, rfl, rfl, ⟨_, _, rfl, rfl, rfl⟩⟩⟩⟩⟩⟩ := hrepb41
      refine o_fieldAddr rfl rfl rfl z_field101_0 e6 ?_
      exact st_addNil (hk _ _ (Sto.Le.refl _) ⟨b41, of42, _, rfl, hc43, hrepb41⟩)
     ·intro ρ' τ pool rs hl hd hout hk
      obtain ⟨_, e7, b41, of42, vsb41, rfl, hc43, hrepb41⟩ := hd 7 rfl
      have hrepb41 := hrepb41
      obtain ⟨_, _, rfl, rfl, ⟨_, _, rfl, rfl, ⟨_, _, rfl, rfl, ⟨_, _, rfl, rfl, ⟨_, _, rfl, rfl, ⟨_, _, rfl, rfl, rfl⟩⟩⟩⟩⟩⟩ := hrepb41
      refine o_loadI (v := .string q39.1) rfl rfl rfl z_sc9 e7 (hc43 0 _ rfl) ?_
      exact st_addNil (hk _ _ (Sto.Le.refl _) rfl)
     intro ρ' τ44 vals hl44 hv hout
     refine st_ord [0, 0] _ rfl ?_
     refine st_env (ρ' := [(54, .bool (!(decide (q34 = q39.1)))), (2, .pointer (some ⟨b1, 0, none⟩)), (3, .int .i64 0), (4, v6), (5, .pointer (some ⟨b8, 0, none⟩)), (7, v14), (8, .int .i64 s29.1), (9, .int .i64 s29.2.1)]) ⟨(lv1 hv 9 rfl rfl), (hout 2 rfl).trans rfl, (hout 3 rfl).trans rfl, (hout 4 rfl).trans rfl, (hout 5 rfl).trans rfl, (hout 7 rfl).trans rfl, (hout 8 rfl).trans rfl, (hout 9 rfl).trans rfl, trivial⟩ ?_
     refine st_end ?_
     refine st_if rfl h (fun h => ?_) (fun h => ?_)
     ·refine ZZ 6 [0] rfl rfl ?_
      obtain rfl := he29 _ h
      replace h := hA29
      obtain rfl := Eq.symm h
      exact st_retC (gs' := []) [.agg #[.int .i64 0, .int .i64 0, .int .i64 0, .int .i64 0, .int .i64 0, .int .i64 0, .int .i64 0, .slice none 0 0, .slice none 0 0, .string (bstr []), .string (bstr [])], .int .i64 3] Tryz.func21 ⟨⟨_, _, _, _, rfl, mem_flat 0 rfl, fun w hw => cellOfN (vs := [.int .i64 0, .int .i64 0, .int .i64 0, .int .i64 0, .int .i64 0, .int .i64 0, .int .i64 0, .slice none 0 0, .slice none 0 0, .string (bstr []), .string (bstr [])]) z_agg44 rfl w hw⟩, rfl, trivial⟩ (by simp) ((((hl5.trans hl9).trans hl13).trans hl29).trans hl44) ⟨_, _, rfl, rfl, Sl.nil, Sl.nil⟩
     ·refine Z 7 rfl ?_
      refine o_lenI rfl rfl rfl z_slT106 rfl (hs7.up (((hl9.trans hl13).trans hl29).trans hl44)) ?_
      refine Z 2 rfl ?_
      refine st_if rfl h (fun h => ?_) (fun h => ?_)
      ·refine ZZ 6 [0] rfl rfl ?_
       obtain rfl := he29 _ h
       replace h := hA29
       obtain rfl := Eq.symm h
       exact st_retC (gs' := []) [.agg #[.int .i64 0, .int .i64 0, .int .i64 0, .int .i64 0, .int .i64 0, .int .i64 0, .int .i64 0, .slice none 0 0, .slice none 0 0, .string (bstr []), .string (bstr [])], .int .i64 13] Tryz.func21 ⟨⟨_, _, _, _, rfl, mem_flat 0 rfl, fun w hw => cellOfN (vs := [.int .i64 0, .int .i64 0, .int .i64 0, .int .i64 0, .int .i64 0, .int .i64 0, .int .i64 0, .slice none 0 0, .slice none 0 0, .string (bstr []), .string (bstr [])]) z_agg44 rfl w hw⟩, rfl, trivial⟩ (by simp) ((((hl5.trans hl9).trans hl13).trans hl29).trans hl44) ⟨_, _, rfl, rfl, Sl.nil, Sl.nil⟩
      ·refine Z 2 rfl ?_
       obtain ⟨q45, hf46, q50, hf51, r55, hr56, h⟩ := h
       refine st_d41 [[(b1, .cells #[.int .i64 0, .int .i64 0, .int .i64 0, .int .i64 0, .int .i64 0, .int .i64 0, .int .i64 0, .slice none 0 0, .slice none 0 0, .string (bstr []), .string (bstr [])] 44 (0, 0))], [(b8, .cells #[.int .i64 s29.2.2.1, .int .i64 s29.2.2.2.1, .int .i64 s29.2.2.2.2.1, .int .i64 s29.2.2.2.2.2.1, .int .i64 s29.2.2.2.2.2.2.1, .int .i64 s29.2.2.2.2.2.2.2.1, .int .i64 s29.2.2.2.2.2.2.2.2.1, v30, v32, .string s29.2.2.2.2.2.2.2.2.2.2.2.1, .string s29.2.2.2.2.2.2.2.2.2.2.2.2] 44 (0, 0))]] [] 16 2 [none, none, none, none, none, none, none, none, none, none, none, none, none, none, some (0, 0), some (0, 1)] [none, none, none, none, none, none, none, none, none, none, none, none, none, none, none, none] [[none, some 10, some 10]] [.v (.agg #[.int .i64 s29.2.2.1, .int .i64 s29.2.2.2.1, .int .i64 s29.2.2.2.2.1, .int .i64 s29.2.2.2.2.2.1, .int .i64 s29.2.2.2.2.2.2.1, .int .i64 s29.2.2.2.2.2.2.2.1, .int .i64 s29.2.2.2.2.2.2.2.2.1, v30, v32, .string s29.2.2.2.2.2.2.2.2.2.2.2.1, .string s29.2.2.2.2.2.2.2.2.2.2.2.2]), .v (v14), .v (.int .i64 s29.2.1), .t fun τ v => ∃ (b47 : Nat) (of48 : Nat) (vsb47 : List Value), (.pointer (some ⟨b47, of48, none⟩) : Value) = v ∧ CelN τ ⟨b47, of48, none⟩ vsb47 ∧ (kP kS (kP (kI .i64) (kP (kI .i64) (kP (kI .i64) (kP (kI .i64) (kP (kI .i64) (kI .i64))))))).rep τ vsb47 q45, .v (.agg #[.string q45.1, .int .i64 q45.2.1, .int .i64 q45.2.2.1, .int .i64 q45.2.2.2.1, .int .i64 q45.2.2.2.2.1, .int .i64 q45.2.2.2.2.2.1, .int .i64 q45.2.2.2.2.2.2]), .v (v6), .v (.int .i64 s29.1), .v (.int .i64 (IntKind.i64.wrap (s29.1 + 1))), .t fun τ v => ∃ (b52 : Nat) (of53 : Nat) (vsb52 : List Value), (.pointer (some ⟨b52, of53, none⟩) : Value) = v ∧ CelN τ ⟨b52, of53, none⟩ vsb52 ∧ kS.rep τ vsb52 q50, .v (.string q50), .t fun τ v => ∃ (v59 : Value) (v60 : Value), (.tuple #[.agg #[.int .i64 r55.1.1, .int .i64 (r55.1.2.1.getD 0 0), .int .i64 (r55.1.2.1.getD 1 0), .int .i64 (r55.1.2.1.getD 2 0), .int .i64 (r55.1.2.1.getD 3 0), .int .i64 (r55.1.2.1.getD 4 0), .int .i64 (r55.1.2.1.getD 5 0), v59, v60, .string r55.1.2.2.2.2.1, .string r55.1.2.2.2.2.2], .int .i64 r55.2] : Value) = v ∧ Sl (kA .i64 2) τ v59 r55.1.2.2.1 ∧ Sl (kI .i64) τ v60 r55.1.2.2.2.1, .t fun τ v => ∃ (v59 : Value) (v60 : Value), (.tuple #[.agg #[.int .i64 r55.1.1, .int .i64 (r55.1.2.1.getD 0 0), .int .i64 (r55.1.2.1.getD 1 0), .int .i64 (r55.1.2.1.getD 2 0), .int .i64 (r55.1.2.1.getD 3 0), .int .i64 (r55.1.2.1.getD 4 0), .int .i64 (r55.1.2.1.getD 5 0), v59, v60, .string r55.1.2.2.2.2.1, .string r55.1.2.2.2.2.2], .int .i64 r55.2] : Value) = v ∧ Sl (kA .i64 2) τ v59 r55.1.2.2.1 ∧ Sl (kI .i64) τ v60 r55.1.2.2.2.1, .t fun τ v => ∃ (v59 : Value) (v60 : Value), (.agg #[.int .i64 r55.1.1, .int .i64 (r55.1.2.1.getD 0 0), .int .i64 (r55.1.2.1.getD 1 0), .int .i64 (r55.1.2.1.getD 2 0), .int .i64 (r55.1.2.1.getD 3 0), .int .i64 (r55.1.2.1.getD 4 0), .int .i64 (r55.1.2.1.getD 5 0), v59, v60, .string r55.1.2.2.2.2.1, .string r55.1.2.2.2.2.2] : Value) = v ∧ Sl (kA .i64 2) τ v59 r55.1.2.2.1 ∧ Sl (kI .i64) τ v60 r55.1.2.2.2.1, .v (.int .i64 r55.2), .t fun _ _ => True, .t fun _ _ => True] [[fun τ u F => F = [], fun τ u F => ∃ (b64 : Nat), F = [[(b64, .cells #[.int .i64 0, .int .i64 0, .int .i64 0, .int .i64 0, .int .i64 0, .int .i64 0, .int .i64 0, .slice none 0 0, .slice none 0 0, .string (bstr []), .string (bstr [])] 44 (0, 0))]] ∧ .pointer (some ⟨b64, 0, none⟩) = u, fun τ u F => ∃ (b65 : Nat) (v66 : Value) (v68 : Value), F = [[(b65, .cells #[.int .i64 r55.1.1, .int .i64 (r55.1.2.1.getD 0 0), .int .i64 (r55.1.2.1.getD 1 0), .int .i64 (r55.1.2.1.getD 2 0), .int .i64 (r55.1.2.1.getD 3 0), .int .i64 (r55.1.2.1.getD 4 0), .int .i64 (r55.1.2.1.getD 5 0), v66, v68, .string r55.1.2.2.2.2.1, .string r55.1.2.2.2.2.2] 44 (0, 0))]] ∧ .pointer (some ⟨b65, 0, none⟩) = u ∧ Sl (kA .i64 2) τ v66 r55.1.2.2.1 ∧ Sl (kI .i64) τ v68 r55.1.2.2.2.1]] rfl z_mix rfl ⟨fun _ _ _ hl ⟨b47, of48, vsb47, hv, hc49, hrepb47⟩ => ⟨b47, of48, vsb47, hv, hc49.up hl, Kd.mono _ hl hrepb47⟩, ⟨fun _ _ _ hl ⟨b52, of53, vsb52, hv, hc54, hrepb52⟩ => ⟨b52, of53, vsb52, hv, hc54.up hl, Kd.mono _ hl hrepb52⟩, ⟨fun _ _ _ hl ⟨v59, v60, hv, hs61, hs62⟩ => ⟨v59, v60, hv, hs61.up hl, hs62.up hl⟩, ⟨fun _ _ _ hl ⟨v59, v60, hv, hs61, hs62⟩ => ⟨v59, v60, hv, hs61.up hl, hs62.up hl⟩, ⟨fun _ _ _ hl ⟨v59, v60, hv, hs61, hs62⟩ => ⟨v59, v60, hv, hs61.up hl, hs62.up hl⟩, ⟨fun _ _ _ _ _ => trivial, ⟨fun _ _ _ _ _ => trivial, trivial⟩⟩⟩⟩⟩⟩⟩ ⟨⟨fun _ _ _ _ hl h => h, ⟨fun _ _ _ _ hl h => (let ⟨b64, hF, hU⟩ := h; ⟨b64, hF, hU⟩), ⟨fun _ _ _ _ hl h => (let ⟨b65, v66, v68, hF, hU, hs67, hs69⟩ := h; ⟨b65, v66, v68, hF, hU, hs67.up hl, hs69.up hl⟩), trivial⟩⟩⟩, trivial⟩ rfl rfl ?_ (allB_cons (allB_cons (allB_cons (allB_cons (allB_cons (allB_cons (allB_cons (allB_cons (allB_cons (allB_cons (allB_cons (allB_cons (allB_cons (allB_cons (allB_cons (allB_cons allB_nil ?_) (p4 dA)) (p4 dA)) ?_) ?_) (p4 dA)) (p4 dA)) (p4 dA)) ?_) ?_) ?_) ?_) ?_) ?_) ?_) ?_) ?_
       ·exact rfl
       ·intro ρ' τ pool rs hl hd hout hw hk
        refine o_loadN (j := 1) (vs := [.int .i64 s29.2.2.1, .int .i64 s29.2.2.2.1, .int .i64 s29.2.2.2.2.1, .int .i64 s29.2.2.2.2.2.1, .int .i64 s29.2.2.2.2.2.2.1, .int .i64 s29.2.2.2.2.2.2.2.1, .int .i64 s29.2.2.2.2.2.2.2.2.1, v30, v32, .string s29.2.2.2.2.2.2.2.2.2.2.2.1, .string s29.2.2.2.2.2.2.2.2.2.2.2.2]) rfl rfl rfl z_agg44 ((hout 5 rfl).trans rfl) rfl rfl ?_
        exact hk _ _ (Sto.Le.refl _) rfl
       ·intro ρ' τ pool rs hl hd hout hw hk
        obtain ⟨_, e1, rfl⟩ := hd 1 rfl _ rfl
        obtain ⟨_, e2, rfl⟩ := hd 2 rfl _ rfl
        refine o_index rfl rfl rfl z_slT99 rfl e1 (hs15.up ((hl29.trans hl44).trans hl)) e2 hf46 (fun b47 of48 vsb47 hc49 hrepb47 => ?_)
        exact hk _ _ (Sto.Le.refl _) ⟨b47, of48, _, rfl, hc49, hrepb47⟩
       ·intro ρ' τ pool rs hl hd hout hw hk
        obtain ⟨_, e3, b47, of48, vsb47, rfl, hc49, hrepb47⟩ := hd 3 rfl _ rfl
        have hrepb47 := hrepb47
        obtain ⟨_, _, rfl, rfl, ⟨_, _, rfl, rfl, ⟨_, _, rfl, rfl, ⟨_, _, rfl, rfl, ⟨_, _, rfl, rfl, ⟨_, _, rfl, rfl, rfl⟩⟩⟩⟩⟩⟩ := hrepb47
        refine o_loadIN (vs := [.string q45.1, .int .i64 q45.2.1, .int .i64 q45.2.2.1, .int .i64 q45.2.2.2.1, .int .i64 q45.2.2.2.2.1, .int .i64 q45.2.2.2.2.2.1, .int .i64 q45.2.2.2.2.2.2]) rfl rfl rfl z_agg101 e3 rfl (celn_part 0 rfl hc49) ?_
        exact hk _ _ (Sto.Le.refl _) rfl
       ·intro ρ' τ pool rs hl hd hout hw hk
        obtain ⟨_, e5, rfl⟩ := hd 5 rfl _ rfl
        obtain ⟨_, e7, rfl⟩ := hd 7 rfl _ rfl
        refine o_index rfl rfl rfl z_slT106 rfl e5 (hs7.up ((((hl9.trans hl13).trans hl29).trans hl44).trans hl)) e7 hf51 (fun b52 of53 vsb52 hc54 hrepb52 => ?_)
        exact hk _ _ (Sto.Le.refl _) ⟨b52, of53, _, rfl, hc54, hrepb52⟩
       ·intro ρ' τ pool rs hl hd hout hw hk
        obtain ⟨_, e8, b52, of53, vsb52, rfl, hc54, hrepb52⟩ := hd 8 rfl _ rfl
        have hrepb52 := hrepb52
        obtain rfl := hrepb52
        refine o_loadI (v := .string q50) rfl rfl rfl z_sc9 e8 (hc54 0 _ rfl) ?_
        exact hk _ _ (Sto.Le.refl _) rfl
       ·intro ρ' τ pool rs hl hd hout hw hk
        obtain ⟨_, e0, rfl⟩ := hd 0 rfl _ rfl
        obtain ⟨_, e4, rfl⟩ := hd 4 rfl _ rfl
        obtain ⟨_, e9, rfl⟩ := hd 9 rfl _ rfl
        refine st_call (foot := []) rfl rfl rfl rfl (evs_cons e0 (evs_cons e4 (evs_cons e9 rfl))) rfl (callV_fn z_en51 (ref20_value_ok hr56 τ (hs31.up (hl44.trans hl)) (hs33.up (hl44.trans hl)))) ?_
        rintro vτ57 τ57 gsτ57 hl58 ⟨v59, v60, rfl, rfl, hs61, hs62⟩
        exact hk _ _ hl58 ⟨v59, v60, rfl, hs61, hs62⟩
       ·intro ρ' τ pool rs hl hd hout hw hk
        obtain ⟨_, e10, v59, v60, rfl, hs61, hs62⟩ := hd 10 rfl _ rfl
        refine o_move rfl rfl rfl e10 ?_
        exact hk _ _ (Sto.Le.refl _) ⟨v59, v60, rfl, hs61, hs62⟩
       ·intro ρ' τ pool rs hl hd hout hw hk
        obtain ⟨_, e11, v59, v60, rfl, hs61, hs62⟩ := hd 11 rfl _ rfl
        refine o_extract rfl rfl rfl e11 rfl ?_
        exact hk _ _ (Sto.Le.refl _) ⟨v59, v60, rfl, hs61, hs62⟩
       ·intro ρ' τ pool rs hl hd hout hw hk
        obtain ⟨_, e11, v59, v60, rfl, hs61, hs62⟩ := hd 11 rfl _ rfl
        refine o_extract rfl rfl rfl e11 rfl ?_
        exact hk _ _ (Sto.Le.refl _) rfl
       ·intro ρ' τ u Fv pool rs hl hI hu hd hout hw hk
        have hI0 := hI
        obtain rfl := hI
        refine st_gs [[(b1, .cells #[.int .i64 0, .int .i64 0, .int .i64 0, .int .i64 0, .int .i64 0, .int .i64 0, .int .i64 0, .slice none 0 0, .slice none 0 0, .string (bstr []), .string (bstr [])] 44 (0, 0))], [(b8, .cells #[.int .i64 s29.2.2.1, .int .i64 s29.2.2.2.1, .int .i64 s29.2.2.2.2.1, .int .i64 s29.2.2.2.2.2.1, .int .i64 s29.2.2.2.2.2.2.1, .int .i64 s29.2.2.2.2.2.2.2.1, .int .i64 s29.2.2.2.2.2.2.2.2.1, v30, v32, .string s29.2.2.2.2.2.2.2.2.2.2.2.1, .string s29.2.2.2.2.2.2.2.2.2.2.2.2] 44 (0, 0))], pool] rfl ?_
        refine o_alloc rfl rfl rfl z_zero44 (fun b63 => ?_)
        refine st_ord [1, 1, 0, 0] _ rfl ?_
        exact hk _ _ [[(b63, .cells #[.int .i64 0, .int .i64 0, .int .i64 0, .int .i64 0, .int .i64 0, .int .i64 0, .int .i64 0, .slice none 0 0, .slice none 0 0, .string (bstr []), .string (bstr [])] 44 (0, 0))]] (Sto.Le.refl _) trivial (by exact ⟨b63, rfl, rfl⟩)
       ·intro ρ' τ u Fv pool rs hl hI hu hd hout hw hk
        obtain ⟨_, e12, v59, v60, rfl, hs61, hs62⟩ := hd 12 rfl _ rfl
        obtain ⟨b64, rfl, rfl⟩ := hI
        refine st_gs [[(b1, .cells #[.int .i64 0, .int .i64 0, .int .i64 0, .int .i64 0, .int .i64 0, .int .i64 0, .int .i64 0, .slice none 0 0, .slice none 0 0, .string (bstr []), .string (bstr [])] 44 (0, 0))], [(b8, .cells #[.int .i64 s29.2.2.1, .int .i64 s29.2.2.2.1, .int .i64 s29.2.2.2.2.1, .int .i64 s29.2.2.2.2.2.1, .int .i64 s29.2.2.2.2.2.2.1, .int .i64 s29.2.2.2.2.2.2.2.1, .int .i64 s29.2.2.2.2.2.2.2.2.1, v30, v32, .string s29.2.2.2.2.2.2.2.2.2.2.2.1, .string s29.2.2.2.2.2.2.2.2.2.2.2.2] 44 (0, 0))], [(b64, .cells #[.int .i64 0, .int .i64 0, .int .i64 0, .int .i64 0, .int .i64 0, .int .i64 0, .int .i64 0, .slice none 0 0, .slice none 0 0, .string (bstr []), .string (bstr [])] 44 (0, 0))], pool] rfl ?_
        refine o_store (j := 2) (vs := [.int .i64 r55.1.1, .int .i64 (r55.1.2.1.getD 0 0), .int .i64 (r55.1.2.1.getD 1 0), .int .i64 (r55.1.2.1.getD 2 0), .int .i64 (r55.1.2.1.getD 3 0), .int .i64 (r55.1.2.1.getD 4 0), .int .i64 (r55.1.2.1.getD 5 0), v59, v60, .string r55.1.2.2.2.2.1, .string r55.1.2.2.2.2.2]) (cs' := [.int .i64 r55.1.1, .int .i64 (r55.1.2.1.getD 0 0), .int .i64 (r55.1.2.1.getD 1 0), .int .i64 (r55.1.2.1.getD 2 0), .int .i64 (r55.1.2.1.getD 3 0), .int .i64 (r55.1.2.1.getD 4 0), .int .i64 (r55.1.2.1.getD 5 0), v59, v60, .string r55.1.2.2.2.2.1, .string r55.1.2.2.2.2.2]) rfl rfl rfl z_size44 (hu (by decide) _ rfl) e12 rfl (ones_cons rfl (ones_cons rfl (ones_cons rfl (ones_cons rfl (ones_cons rfl (ones_cons rfl (ones_cons rfl (ones_cons hs61.one' (ones_cons hs62.one' (ones_cons rfl (ones_cons rfl ones_nil))))))))))) rfl rfl rfl ?_
        refine st_gs [[(b1, .cells #[.int .i64 0, .int .i64 0, .int .i64 0, .int .i64 0, .int .i64 0, .int .i64 0, .int .i64 0, .slice none 0 0, .slice none 0 0, .string (bstr []), .string (bstr [])] 44 (0, 0))], [(b8, .cells #[.int .i64 s29.2.2.1, .int .i64 s29.2.2.2.1, .int .i64 s29.2.2.2.2.1, .int .i64 s29.2.2.2.2.2.1, .int .i64 s29.2.2.2.2.2.2.1, .int .i64 s29.2.2.2.2.2.2.2.1, .int .i64 s29.2.2.2.2.2.2.2.2.1, v30, v32, .string s29.2.2.2.2.2.2.2.2.2.2.2.1, .string s29.2.2.2.2.2.2.2.2.2.2.2.2] 44 (0, 0))], [(b64, .cells #[.int .i64 r55.1.1, .int .i64 (r55.1.2.1.getD 0 0), .int .i64 (r55.1.2.1.getD 1 0), .int .i64 (r55.1.2.1.getD 2 0), .int .i64 (r55.1.2.1.getD 3 0), .int .i64 (r55.1.2.1.getD 4 0), .int .i64 (r55.1.2.1.getD 5 0), v59, v60, .string r55.1.2.2.2.2.1, .string r55.1.2.2.2.2.2] 44 (0, 0))], pool] rfl ?_
        exact hk _ _ [[(b64, .cells #[.int .i64 r55.1.1, .int .i64 (r55.1.2.1.getD 0 0), .int .i64 (r55.1.2.1.getD 1 0), .int .i64 (r55.1.2.1.getD 2 0), .int .i64 (r55.1.2.1.getD 3 0), .int .i64 (r55.1.2.1.getD 4 0), .int .i64 (r55.1.2.1.getD 5 0), v59, v60, .string r55.1.2.2.2.2.1, .string r55.1.2.2.2.2.2] 44 (0, 0))]] (Sto.Le.refl _) trivial (by exact ⟨b64, v59, v60, rfl, rfl, hs61, hs62⟩)
       intro ρ' τ70 vals u Fv hl70 hI hu hv hout
       obtain ⟨b65, v66, v68, rfl, rfl, hs67, hs69⟩ := hI
       refine st_gs [[(b1, .cells #[.int .i64 0, .int .i64 0, .int .i64 0, .int .i64 0, .int .i64 0, .int .i64 0, .int .i64 0, .slice none 0 0, .slice none 0 0, .string (bstr []), .string (bstr [])] 44 (0, 0))], [(b8, .cells #[.int .i64 s29.2.2.1, .int .i64 s29.2.2.2.1, .int .i64 s29.2.2.2.2.1, .int .i64 s29.2.2.2.2.2.1, .int .i64 s29.2.2.2.2.2.2.1, .int .i64 s29.2.2.2.2.2.2.2.1, .int .i64 s29.2.2.2.2.2.2.2.2.1, v30, v32, .string s29.2.2.2.2.2.2.2.2.2.2.2.1, .string s29.2.2.2.2.2.2.2.2.2.2.2.2] 44 (0, 0))], [(b65, .cells #[.int .i64 r55.1.1, .int .i64 (r55.1.2.1.getD 0 0), .int .i64 (r55.1.2.1.getD 1 0), .int .i64 (r55.1.2.1.getD 2 0), .int .i64 (r55.1.2.1.getD 3 0), .int .i64 (r55.1.2.1.getD 4 0), .int .i64 (r55.1.2.1.getD 5 0), v66, v68, .string r55.1.2.2.2.2.1, .string r55.1.2.2.2.2.2] 44 (0, 0))]] rfl ?_
       refine st_env (ρ' := [(75, .int .i64 r55.2), (2, .pointer (some ⟨b1, 0, none⟩)), (3, .int .i64 0), (4, v6), (5, .pointer (some ⟨b8, 0, none⟩)), (7, v14), (8, .int .i64 s29.1), (9, .int .i64 s29.2.1), (10, .pointer (some ⟨b65, 0, none⟩))]) ⟨(lv4 hv 13 rfl rfl rfl), (hout 2 rfl).trans rfl, (hout 3 rfl).trans rfl, (hout 4 rfl).trans rfl, (hout 5 rfl).trans rfl, (hout 7 rfl).trans rfl, (hout 8 rfl).trans rfl, (hout 9 rfl).trans rfl, (by exact hu _ rfl), trivial⟩ ?_
       refine Z 8 rfl ?_
       refine st_if rfl h (fun h => ?_) (fun h => ?_)
       ·refine ZZ 7 [0] rfl rfl ?_
        obtain rfl := he29 _ h
        replace h := hA29
        obtain rfl := Eq.symm h
        exact st_retC (gs' := []) [.agg #[.int .i64 0, .int .i64 0, .int .i64 0, .int .i64 0, .int .i64 0, .int .i64 0, .int .i64 0, .slice none 0 0, .slice none 0 0, .string (bstr []), .string (bstr [])], .int .i64 r55.2] Tryz.func21 ⟨⟨_, _, _, _, rfl, mem_flat 0 rfl, fun w hw => cellOfN (vs := [.int .i64 0, .int .i64 0, .int .i64 0, .int .i64 0, .int .i64 0, .int .i64 0, .int .i64 0, .slice none 0 0, .slice none 0 0, .string (bstr []), .string (bstr [])]) z_agg44 rfl w hw⟩, rfl, trivial⟩ (by simp) (((((hl5.trans hl9).trans hl13).trans hl29).trans hl44).trans hl70) ⟨_, _, rfl, rfl, Sl.nil, Sl.nil⟩
       ·refine ZZ 4 [2] rfl rfl ?_
        refine o_store (j := 1) (vs := [.int .i64 r55.1.1, .int .i64 (r55.1.2.1.getD 0 0), .int .i64 (r55.1.2.1.getD 1 0), .int .i64 (r55.1.2.1.getD 2 0), .int .i64 (r55.1.2.1.getD 3 0), .int .i64 (r55.1.2.1.getD 4 0), .int .i64 (r55.1.2.1.getD 5 0), v66, v68, .string r55.1.2.2.2.2.1, .string r55.1.2.2.2.2.2]) (cs' := [.int .i64 r55.1.1, .int .i64 (r55.1.2.1.getD 0 0), .int .i64 (r55.1.2.1.getD 1 0), .int .i64 (r55.1.2.1.getD 2 0), .int .i64 (r55.1.2.1.getD 3 0), .int .i64 (r55.1.2.1.getD 4 0), .int .i64 (r55.1.2.1.getD 5 0), v66, v68, .string r55.1.2.2.2.2.1, .string r55.1.2.2.2.2.2]) rfl rfl rfl z_size44 rfl rfl rfl (ones_cons rfl (ones_cons rfl (ones_cons rfl (ones_cons rfl (ones_cons rfl (ones_cons rfl (ones_cons rfl (ones_cons hs67.one' (ones_cons hs69.one' (ones_cons rfl (ones_cons rfl ones_nil))))))))))) rfl rfl rfl ?_
        refine st_gs [[(b1, .cells #[.int .i64 0, .int .i64 0, .int .i64 0, .int .i64 0, .int .i64 0, .int .i64 0, .int .i64 0, .slice none 0 0, .slice none 0 0, .string (bstr []), .string (bstr [])] 44 (0, 0))], [(b8, .cells #[.int .i64 r55.1.1, .int .i64 (r55.1.2.1.getD 0 0), .int .i64 (r55.1.2.1.getD 1 0), .int .i64 (r55.1.2.1.getD 2 0), .int .i64 (r55.1.2.1.getD 3 0), .int .i64 (r55.1.2.1.getD 4 0), .int .i64 (r55.1.2.1.getD 5 0), v66, v68, .string r55.1.2.2.2.2.1, .string r55.1.2.2.2.2.2] 44 (0, 0))], [(b65, .cells #[.int .i64 r55.1.1, .int .i64 (r55.1.2.1.getD 0 0), .int .i64 (r55.1.2.1.getD 1 0), .int .i64 (r55.1.2.1.getD 2 0), .int .i64 (r55.1.2.1.getD 3 0), .int .i64 (r55.1.2.1.getD 4 0), .int .i64 (r55.1.2.1.getD 5 0), v66, v68, .string r55.1.2.2.2.2.1, .string r55.1.2.2.2.2.2] 44 (0, 0))]] rfl ?_
        refine Z 12 rfl ?_
        refine st_ord [0, 0] _ rfl ?_
        exact hn29 _ _ _ _ h ⟨((hl29.trans hl44).trans hl70), _, _, rfl, rfl, hs67, hs69⟩
   ·refine st_exit rfl ?_
    obtain rfl := he29 _ h
    replace h := hA29
    exact hk16 _ _ _ ⟨(s29.1, s29.2.2.1, s29.2.2.2.1, s29.2.2.2.2.1, s29.2.2.2.2.2.1, s29.2.2.2.2.2.2.1, s29.2.2.2.2.2.2.2.1, s29.2.2.2.2.2.2.2.2.1, s29.2.2.2.2.2.2.2.2.2.1, s29.2.2.2.2.2.2.2.2.2.2.1, s29.2.2.2.2.2.2.2.2.2.2.2.1, s29.2.2.2.2.2.2.2.2.2.2.2.2), _, _, h, hl29, rfl, rfl, hs31, hs33⟩
 refine Z 4 rfl ?_
 obtain ⟨e73, hL73, hA73⟩ := h
 refine st_ord [1, 0] _ rfl ?_
 refine st_loop hL73 (fun (s73 : Int × Int) ρ τ73 gs => τ4.Le τ73 ∧ ESub ρ [(2, .pointer (some ⟨b1, 0, none⟩)), (3, .int .i64 0), (4, v6), (5, .pointer (some ⟨b8, 0, none⟩)), (6, .int .i64 s73.1)] ∧ gs = [[(b1, .cells #[.int .i64 0, .int .i64 0, .int .i64 0, .int .i64 0, .int .i64 0, .int .i64 0, .int .i64 0, .slice none 0 0, .slice none 0 0, .string (bstr []), .string (bstr [])] 44 (0, 0))], [(b8, .cells #[.int .i64 s73.2, .int .i64 0, .int .i64 0, .int .i64 0, .int .i64 0, .int .i64 0, .int .i64 0, .slice none 0 0, .slice none 0 0, .string (bstr []), .string (bstr [])] 44 (0, 0))]]) ⟨Sto.Le.refl _, rfl, rfl⟩ ?_
 rintro s73 o73 h he73 ρ73 τ73 gs73 ⟨hl73, hρ, rfl⟩ hn73
 refine st_es hρ ?_
 refine Z 6 rfl ?_
 refine st_if rfl h (fun h => ?_) (fun h => ?_)
 ·refine Z 2 rfl ?_
  refine st_cut (fun ρ τ74 gs => ∃ (s74 : Int), ref20_Parse_j5 s73 s74 o73 ∧ τ73.Le τ74 ∧ ESub ρ [(2, .pointer (some ⟨b1, 0, none⟩)), (3, .int .i64 0), (4, v6), (5, .pointer (some ⟨b8, 0, none⟩)), (6, .int .i64 s73.1)] ∧ gs = [[(b1, .cells #[.int .i64 0, .int .i64 0, .int .i64 0, .int .i64 0, .int .i64 0, .int .i64 0, .int .i64 0, .slice none 0 0, .slice none 0 0, .string (bstr []), .string (bstr [])] 44 (0, 0))], [(b8, .cells #[.int .i64 s74, .int .i64 0, .int .i64 0, .int .i64 0, .int .i64 0, .int .i64 0, .int .i64 0, .slice none 0 0, .slice none 0 0, .string (bstr []), .string (bstr [])] 44 (0, 0))]]) ?_ (fun hk74 => ?_)
  ·rintro ρ74 τ74 gs74 ⟨s74, h, hl74, hρ, rfl⟩
   refine st_es hρ ?_
   refine Z 5 rfl ?_
   exact hn73 _ _ _ _ h ⟨(hl73.trans hl74), rfl, rfl⟩
  refine Z 2 rfl ?_
  obtain ⟨r75, hr76, q79, hf80, h⟩ := h
  refine st_draw 6 (dl [.v (.int .i64 s73.1), .v (.string r75), .v (v6), .t fun τ v => ∃ (b81 : Nat) (of82 : Nat) (vsb81 : List Value), (.pointer (some ⟨b81, of82, none⟩) : Value) = v ∧ CelN τ ⟨b81, of82, none⟩ vsb81 ∧ kS.rep τ vsb81 q79, .v (.string q79), .v (.bool (decide (r75 = q79)))]) (fun _ _ => []) z_mix rfl (dl_mono ⟨fun _ _ _ hl ⟨b81, of82, vsb81, hv, hc83, hrepb81⟩ => ⟨b81, of82, vsb81, hv, hc83.up hl, Kd.mono _ hl hrepb81⟩, trivial⟩) (allB_cons (allB_cons (allB_cons (allB_cons (allB_cons (allB_cons allB_nil (p1 dA)) ?_) (p1 dA)) ?_) ?_) (p1 dA)) ?_
  ·intro ρ' τ pool rs hl hd hout hk
   obtain ⟨_, e0, rfl⟩ := hd 0 rfl
   refine st_call (foot := []) rfl rfl rfl rfl (evs_cons e0 rfl) rfl (callV_fn z_en37 (ref16_Word_ok hr76 τ)) ?_
   rintro vτ77 τ77 gsτ77 hl78 ⟨rfl, rfl⟩
   exact st_addNil (hk _ _ hl78 rfl)
  ·intro ρ' τ pool rs hl hd hout hk
   obtain ⟨_, e2, rfl⟩ := hd 2 rfl
   refine o_index rfl rfl rfl z_slT106 rfl e2 (hs7.up (hl73.trans hl)) rfl hf80 (fun b81 of82 vsb81 hc83 hrepb81 => ?_)
   exact st_addNil (hk _ _ (Sto.Le.refl _) ⟨b81, of82, _, rfl, hc83, hrepb81⟩)
  ·intro ρ' τ pool rs hl hd hout hk
   obtain ⟨_, e3, b81, of82, vsb81, rfl, hc83, hrepb81⟩ := hd 3 rfl
   have hrepb81 := hrepb81
   obtain rfl := hrepb81
   refine o_loadI (v := .string q79) rfl rfl rfl z_sc9 e3 (hc83 0 _ rfl) ?_
   exact st_addNil (hk _ _ (Sto.Le.refl _) rfl)
  intro ρ' τ84 vals hl84 hv hout
  refine st_ord [0, 0] _ rfl ?_
  refine st_env (ρ' := [(24, .bool (decide (r75 = q79))), (2, .pointer (some ⟨b1, 0, none⟩)), (3, .int .i64 0), (4, v6), (5, .pointer (some ⟨b8, 0, none⟩)), (6, .int .i64 s73.1)]) ⟨(lv1 hv 5 rfl rfl), (hout 2 rfl).trans rfl, (hout 3 rfl).trans rfl, (hout 4 rfl).trans rfl, (hout 5 rfl).trans rfl, (hout 6 rfl).trans rfl, trivial⟩ ?_
  refine st_end ?_
  refine st_if rfl h (fun h => ?_) (fun h => ?_)
  ·refine ZZ 6 [1] rfl rfl ?_
   exact hk74 _ _ _ ⟨s73.1, h, hl84, rfl, rfl⟩
  ·refine Z 2 rfl ?_
   exact hk74 _ _ _ ⟨s73.2, h, hl84, rfl, rfl⟩
 ·refine st_exit rfl ?_
  obtain rfl := he73 _ h
  replace h := hA73
  exact hk9 _ _ _ ⟨s73.2, h, hl73, rfl, rfl⟩
theorem ref01_Ints_ok {a0 : List Int} {a1 : List Int} {v1 : Value} {v3 : Value} {r : Bool} (h : ref01_Ints a0 a1 r) (σ : Sto) (hs2 : Sl (kI .i64) σ v1 a0) (hs4 : Sl (kI .i64) σ v3 a1) :
    Does Tryz.prog 52 [v1, v3] σ [] (fun v τ gs => gs = [] ∧ .bool r = v) := by
 refine call_of Tryz.func52 Tryz.ntmps52 rfl rfl (fun cs fs => ?_)
 refine Z 8 rfl ?_
 refine o_lenI rfl rfl rfl z_slT27 rfl hs2 ?_
 refine o_move rfl rfl rfl rfl ?_
 refine o_lenI rfl rfl rfl z_slT27 rfl hs4 ?_
 refine Z 2 rfl ?_
 refine st_if rfl h (fun h => ?_) (fun h => ?_)
 ·refine Z 4 rfl ?_
  obtain rfl := Eq.symm h
  exact st_ret (gs' := []) Tryz.func52 rfl (List.Sublist.refl _) (Sto.Le.refl _) ⟨rfl, rfl⟩
 ·refine Z 2 rfl ?_
  refine st_cut (fun ρ τ5 gs => ∃ (s5 : Unit), ref01_Ints_j1 s5 r ∧ σ.Le τ5 ∧ ESub ρ [(4, .bool false)] ∧ gs = []) ?_ (fun hk5 => ?_)
  ·rintro ρ5 τ5 gs5 ⟨s5, h, hl5, hρ, rfl⟩
   refine st_es hρ ?_
   refine Z 4 rfl ?_
   obtain rfl := Eq.symm h
   exact st_ret (gs' := []) Tryz.func52 rfl (List.Sublist.refl _) hl5 ⟨rfl, rfl⟩
  refine Z 4 rfl ?_
  obtain ⟨e6, hL6, hA6⟩ := h
  refine st_loop hL6 (fun (s6 : Int) ρ τ6 gs => σ.Le τ6 ∧ ESub ρ [(0, v1), (1, v3), (4, .bool false), (5, .int .i64 s6)] ∧ gs = []) ⟨Sto.Le.refl _, rfl, rfl⟩ ?_
  rintro s6 o6 h he6 ρ6 τ6 gs6 ⟨hl6, hρ, rfl⟩ hn6
  refine st_es hρ ?_
  refine Z 5 rfl ?_
  refine o_lenI rfl rfl rfl z_slT27 rfl (hs2.up hl6) ?_
  refine Z 2 rfl ?_
  refine st_if rfl h (fun h => ?_) (fun h => ?_)
  ·refine Z 4 rfl ?_
   obtain ⟨q7, hf8, q12, hf13, h⟩ := h
   refine st_draw 9 (dl [.v (v1), .v (.int .i64 s6), .t fun τ v => ∃ (b9 : Nat) (of10 : Nat) (vsb9 : List Value), (.pointer (some ⟨b9, of10, none⟩) : Value) = v ∧ CelN τ ⟨b9, of10, none⟩ vsb9 ∧ (kI .i64).rep τ vsb9 q7, .v (.int .i64 q7), .v (v3), .v (.int .i64 s6), .t fun τ v => ∃ (b14 : Nat) (of15 : Nat) (vsb14 : List Value), (.pointer (some ⟨b14, of15, none⟩) : Value) = v ∧ CelN τ ⟨b14, of15, none⟩ vsb14 ∧ (kI .i64).rep τ vsb14 q12, .v (.int .i64 q12), .v (.bool (!(decide (q7 = q12))))]) (fun _ _ => []) z_mix rfl (dl_mono ⟨fun _ _ _ hl ⟨b9, of10, vsb9, hv, hc11, hrepb9⟩ => ⟨b9, of10, vsb9, hv, hc11.up hl, Kd.mono _ hl hrepb9⟩, ⟨fun _ _ _ hl ⟨b14, of15, vsb14, hv, hc16, hrepb14⟩ => ⟨b14, of15, vsb14, hv, hc16.up hl, Kd.mono _ hl hrepb14⟩, trivial⟩⟩) (allB_cons (allB_cons (allB_cons (allB_cons (allB_cons (allB_cons (allB_cons (allB_cons (allB_cons allB_nil (p1 dA)) (p1 dA)) ?_) ?_) (p1 dA)) (p1 dA)) ?_) ?_) (p1 dA)) ?_
   ·intro ρ' τ pool rs hl hd hout hk
    obtain ⟨_, e0, rfl⟩ := hd 0 rfl
    obtain ⟨_, e1, rfl⟩ := hd 1 rfl
    refine o_index rfl rfl rfl z_slT27 rfl e0 (hs2.up (hl6.trans hl)) e1 hf8 (fun b9 of10 vsb9 hc11 hrepb9 => ?_)
    exact st_addNil (hk _ _ (Sto.Le.refl _) ⟨b9, of10, _, rfl, hc11, hrepb9⟩)
   ·intro ρ' τ pool rs hl hd hout hk
    obtain ⟨_, e2, b9, of10, vsb9, rfl, hc11, hrepb9⟩ := hd 2 rfl
    have hrepb9 := hrepb9
    obtain rfl := hrepb9
    refine o_loadI (v := .int .i64 q7) rfl rfl rfl z_sc3 e2 (hc11 0 _ rfl) ?_
    exact st_addNil (hk _ _ (Sto.Le.refl _) rfl)
   ·intro ρ' τ pool rs hl hd hout hk
    obtain ⟨_, e4, rfl⟩ := hd 4 rfl
    obtain ⟨_, e5, rfl⟩ := hd 5 rfl
    refine o_index rfl rfl rfl z_slT27 rfl e4 (hs4.up (hl6.trans hl)) e5 hf13 (fun b14 of15 vsb14 hc16 hrepb14 => ?_)
    exact st_addNil (hk _ _ (Sto.Le.refl _) ⟨b14, of15, _, rfl, hc16, hrepb14⟩)
   ·intro ρ' τ pool rs hl hd hout hk
    obtain ⟨_, e6, b14, of15, vsb14, rfl, hc16, hrepb14⟩ := hd 6 rfl
    have hrepb14 := hrepb14
    obtain rfl := hrepb14
    refine o_loadI (v := .int .i64 q12) rfl rfl rfl z_sc3 e6 (hc16 0 _ rfl) ?_
    exact st_addNil (hk _ _ (Sto.Le.refl _) rfl)
   intro ρ' τ17 vals hl17 hv hout
   refine st_ord [] _ rfl ?_
   refine st_env (ρ' := [(25, .bool (!(decide (q7 = q12)))), (0, v1), (1, v3), (4, .bool false), (5, .int .i64 s6)]) ⟨(lv1 hv 8 rfl rfl), (hout 0 rfl).trans rfl, (hout 1 rfl).trans rfl, (hout 4 rfl).trans rfl, (hout 5 rfl).trans rfl, trivial⟩ ?_
   refine st_end ?_
   refine st_if rfl h (fun h => ?_) (fun h => ?_)
   ·refine Z 4 rfl ?_
    obtain rfl := he6 _ h
    replace h := hA6
    obtain rfl := Eq.symm h
    exact st_ret (gs' := []) Tryz.func52 rfl (List.Sublist.refl _) (hl6.trans hl17) ⟨rfl, rfl⟩
   ·refine Z 7 rfl ?_
    exact hn6 _ _ _ _ h ⟨(hl6.trans hl17), rfl, rfl⟩
  ·refine st_exit rfl ?_
   obtain rfl := he6 _ h
   replace h := hA6
   exact hk5 _ _ _ ⟨(), h, hl6, rfl, rfl⟩
theorem ref17_Same_ok {a0 : Int × List Int × List (List Int) × List Int × ByteArray × ByteArray} {a1 : Int × List Int × List (List Int) × List Int × ByteArray × ByteArray} {v1 : Value} {v2 : Value} {v5 : Value} {v6 : Value} {r : Bool} (h : ref17_Same a0 a1 r) (σ : Sto) (hs3 : Sl (kA .i64 2) σ v1 a0.2.2.1) (hs4 : Sl (kI .i64) σ v2 a0.2.2.2.1) (hs7 : Sl (kA .i64 2) σ v5 a1.2.2.1) (hs8 : Sl (kI .i64) σ v6 a1.2.2.2.1) :
    Does Tryz.prog 22 [.agg [.int .i64 a0.1, .int .i64 (a0.2.1.getD 0 0), .int .i64 (a0.2.1.getD 1 0), .int .i64 (a0.2.1.getD 2 0), .int .i64 (a0.2.1.getD 3 0), .int .i64 (a0.2.1.getD 4 0), .int .i64 (a0.2.1.getD 5 0), v1, v2, .string a0.2.2.2.2.1, .string a0.2.2.2.2.2].toArray, .agg [.int .i64 a1.1, .int .i64 (a1.2.1.getD 0 0), .int .i64 (a1.2.1.getD 1 0), .int .i64 (a1.2.1.getD 2 0), .int .i64 (a1.2.1.getD 3 0), .int .i64 (a1.2.1.getD 4 0), .int .i64 (a1.2.1.getD 5 0), v5, v6, .string a1.2.2.2.2.1, .string a1.2.2.2.2.2].toArray] σ [] (fun v τ gs => gs = [] ∧ .bool r = v) := by
 refine call_of Tryz.func22 Tryz.ntmps22 rfl rfl (fun cs fs => ?_)
 refine Z 2 rfl ?_
 refine o_box (cs := [.int .i64 a0.1, .int .i64 (a0.2.1.getD 0 0), .int .i64 (a0.2.1.getD 1 0), .int .i64 (a0.2.1.getD 2 0), .int .i64 (a0.2.1.getD 3 0), .int .i64 (a0.2.1.getD 4 0), .int .i64 (a0.2.1.getD 5 0), v1, v2, .string a0.2.2.2.2.1, .string a0.2.2.2.2.2]) rfl rfl rfl rfl rfl (fun b9 => ?_)
 refine o_box (cs := [.int .i64 a1.1, .int .i64 (a1.2.1.getD 0 0), .int .i64 (a1.2.1.getD 1 0), .int .i64 (a1.2.1.getD 2 0), .int .i64 (a1.2.1.getD 3 0), .int .i64 (a1.2.1.getD 4 0), .int .i64 (a1.2.1.getD 5 0), v5, v6, .string a1.2.2.2.2.1, .string a1.2.2.2.2.2]) rfl rfl rfl rfl rfl (fun b10 => ?_)
 refine Z 4 rfl ?_
 refine st_cut (fun ρ τ11 gs => ∃ (s11 : Bool), ref17_Same_j1 a0 a1 s11 r ∧ σ.Le τ11 ∧ ESub ρ [(2, .pointer (some ⟨b9, 0, none⟩)), (3, .pointer (some ⟨b10, 0, none⟩)), (4, .bool false), (48, .bool s11)] ∧ gs = [[(b9, .cells #[.int .i64 a0.1, .int .i64 (a0.2.1.getD 0 0), .int .i64 (a0.2.1.getD 1 0), .int .i64 (a0.2.1.getD 2 0), .int .i64 (a0.2.1.getD 3 0), .int .i64 (a0.2.1.getD 4 0), .int .i64 (a0.2.1.getD 5 0), v1, v2, .string a0.2.2.2.2.1, .string a0.2.2.2.2.2] 44 (0, 0))], [(b10, .cells #[.int .i64 a1.1, .int .i64 (a1.2.1.getD 0 0), .int .i64 (a1.2.1.getD 1 0), .int .i64 (a1.2.1.getD 2 0), .int .i64 (a1.2.1.getD 3 0), .int .i64 (a1.2.1.getD 4 0), .int .i64 (a1.2.1.getD 5 0), v5, v6, .string a1.2.2.2.2.1, .string a1.2.2.2.2.2] 44 (0, 0))]]) ?_ (fun hk11 => ?_)
 ·rintro ρ11 τ11 gs11 ⟨s11, h, hl11, hρ, rfl⟩
  refine st_es hρ ?_
  refine st_if rfl h (fun h => ?_) (fun h => ?_)
  ·refine Z 4 rfl ?_
   refine st_ord [] _ rfl ?_
   obtain rfl := Eq.symm h
   exact st_ret (gs' := []) Tryz.func22 rfl (List.Sublist.refl _) hl11 ⟨rfl, rfl⟩
  ·refine Z 2 rfl ?_
   refine st_cut (fun ρ τ12 gs => ∃ (s12 : Unit), ref17_Same_j2 s12 r ∧ τ11.Le τ12 ∧ ESub ρ [(4, .bool false)] ∧ gs = []) ?_ (fun hk12 => ?_)
   ·rintro ρ12 τ12 gs12 ⟨s12, h, hl12, hρ, rfl⟩
    refine st_es hρ ?_
    refine Z 4 rfl ?_
    obtain rfl := Eq.symm h
    exact st_ret (gs' := []) Tryz.func22 rfl (List.Sublist.refl _) (hl11.trans hl12) ⟨rfl, rfl⟩
   refine Z 4 rfl ?_
   obtain ⟨e13, hL13, hA13⟩ := h
   refine st_loop hL13 (fun (s13 : Int) ρ τ13 gs => τ11.Le τ13 ∧ ESub ρ [(2, .pointer (some ⟨b9, 0, none⟩)), (3, .pointer (some ⟨b10, 0, none⟩)), (4, .bool false), (5, .int .i64 s13)] ∧ gs = [[(b9, .cells #[.int .i64 a0.1, .int .i64 (a0.2.1.getD 0 0), .int .i64 (a0.2.1.getD 1 0), .int .i64 (a0.2.1.getD 2 0), .int .i64 (a0.2.1.getD 3 0), .int .i64 (a0.2.1.getD 4 0), .int .i64 (a0.2.1.getD 5 0), v1, v2, .string a0.2.2.2.2.1, .string a0.2.2.2.2.2] 44 (0, 0))], [(b10, .cells #[.int .i64 a1.1, .int .i64 (a1.2.1.getD 0 0), .int .i64 (a1.2.1.getD 1 0), .int .i64 (a1.2.1.getD 2 0), .int .i64 (a1.2.1.getD 3 0), .int .i64 (a1.2.1.getD 4 0), .int .i64 (a1.2.1.getD 5 0), v5, v6, .string a1.2.2.2.2.1, .string a1.2.2.2.2.2] 44 (0, 0))]]) ⟨Sto.Le.refl _, rfl, rfl⟩ ?_
   rintro s13 o13 h he13 ρ13 τ13 gs13 ⟨hl13, hρ, rfl⟩ hn13
   refine st_es hρ ?_
   refine ZZ 6 [0] rfl rfl ?_
   refine o_lenI rfl rfl rfl z_slT42 rfl (hs3.up (hl11.trans hl13)) ?_
   refine Z 2 rfl ?_
   refine st_if rfl h (fun h => ?_) (fun h => ?_)
   ·refine Z 4 rfl ?_
    obtain ⟨q14, hf15, q19, hf20, h⟩ := h
    refine st_draw 11 (dl [.v (.pointer (some ⟨b9, 7, none⟩)), .v (v1), .v (.int .i64 s13), .t fun τ v => ∃ (b16 : Nat) (of17 : Nat) (vsb16 : List Value), (.pointer (some ⟨b16, of17, none⟩) : Value) = v ∧ CelN τ ⟨b16, of17, none⟩ vsb16 ∧ (kA .i64 2).rep τ vsb16 q14, .v (.agg #[.int .i64 (q14.getD 0 0), .int .i64 (q14.getD 1 0)]), .v (.pointer (some ⟨b10, 7, none⟩)), .v (v5), .v (.int .i64 s13), .t fun τ v => ∃ (b21 : Nat) (of22 : Nat) (vsb21 : List Value), (.pointer (some ⟨b21, of22, none⟩) : Value) = v ∧ CelN τ ⟨b21, of22, none⟩ vsb21 ∧ (kA .i64 2).rep τ vsb21 q19, .v (.agg #[.int .i64 (q19.getD 0 0), .int .i64 (q19.getD 1 0)]), .v (.bool (!(eqN 2 0 q14 q19)))]) (fun _ _ => []) z_mix rfl (dl_mono ⟨fun _ _ _ hl ⟨b16, of17, vsb16, hv, hc18, hrepb16⟩ => ⟨b16, of17, vsb16, hv, hc18.up hl, Kd.mono _ hl hrepb16⟩, ⟨fun _ _ _ hl ⟨b21, of22, vsb21, hv, hc23, hrepb21⟩ => ⟨b21, of22, vsb21, hv, hc23.up hl, Kd.mono _ hl hrepb21⟩, trivial⟩⟩) (allB_cons (allB_cons (allB_cons (allB_cons (allB_cons (allB_cons (allB_cons (allB_cons (allB_cons (allB_cons (allB_cons allB_nil (p1 dA)) ?_) (p1 dA)) ?_) ?_) (p1 dA)) ?_) (p1 dA)) ?_) ?_) ?_) ?_
    ·intro ρ' τ pool rs hl hd hout hk
     obtain ⟨_, e0, rfl⟩ := hd 0 rfl
     refine o_load (j := 0) (v := v1) rfl rfl rfl z_sc42 e0 rfl rfl ?_
     exact st_addNil (hk _ _ (Sto.Le.refl _) rfl)
    ·intro ρ' τ pool rs hl hd hout hk
     obtain ⟨_, e1, rfl⟩ := hd 1 rfl
     obtain ⟨_, e2, rfl⟩ := hd 2 rfl
     refine o_index rfl rfl rfl z_slT42 rfl e1 (hs3.up ((hl11.trans hl13).trans hl)) e2 hf15 (fun b16 of17 vsb16 hc18 hrepb16 => ?_)
     exact st_addNil (hk _ _ (Sto.Le.refl _) ⟨b16, of17, _, rfl, hc18, hrepb16⟩)
    ·intro ρ' τ pool rs hl hd hout hk
     obtain ⟨_, e3, b16, of17, vsb16, rfl, hc18, hrepb16⟩ := hd 3 rfl
     have hrepb16 := hrepb16
     obtain rfl := hrepb16
     refine o_loadIN (vs := [.int .i64 (q14.getD 0 0), .int .i64 (q14.getD 1 0)]) rfl rfl rfl z_agg102 e3 rfl (celn_part 0 rfl hc18) ?_
     exact st_addNil (hk _ _ (Sto.Le.refl _) rfl)
    ·intro ρ' τ pool rs hl hd hout hk
     obtain ⟨_, e5, rfl⟩ := hd 5 rfl
     refine o_load (j := 1) (v := v5) rfl rfl rfl z_sc42 e5 rfl rfl ?_
     exact st_addNil (hk _ _ (Sto.Le.refl _) rfl)
    ·intro ρ' τ pool rs hl hd hout hk
     obtain ⟨_, e6, rfl⟩ := hd 6 rfl
     obtain ⟨_, e7, rfl⟩ := hd 7 rfl
     refine o_index rfl rfl rfl z_slT42 rfl e6 (hs7.up ((hl11.trans hl13).trans hl)) e7 hf20 (fun b21 of22 vsb21 hc23 hrepb21 => ?_)
     exact st_addNil (hk _ _ (Sto.Le.refl _) ⟨b21, of22, _, rfl, hc23, hrepb21⟩)
    ·intro ρ' τ pool rs hl hd hout hk
     obtain ⟨_, e8, b21, of22, vsb21, rfl, hc23, hrepb21⟩ := hd 8 rfl
     have hrepb21 := hrepb21
     obtain rfl := hrepb21
     refine o_loadIN (vs := [.int .i64 (q19.getD 0 0), .int .i64 (q19.getD 1 0)]) rfl rfl rfl z_agg102 e8 rfl (celn_part 0 rfl hc23) ?_
     exact st_addNil (hk _ _ (Sto.Le.refl _) rfl)
    ·intro ρ' τ pool rs hl hd hout hk
     obtain ⟨_, e4, rfl⟩ := hd 4 rfl
     obtain ⟨_, e9, rfl⟩ := hd 9 rfl
     refine o_aggEq (b := (eqN 2 0 q14 q19)) (e := (!(eqN 2 0 q14 q19))) rfl rfl rfl z_eqg102 e4 e9 (fun w => by exact eq_arr (xs := q14) (ys := q19) Tryz.underlying102 Tryz.underlying3 z_info3 z_cell3) rfl ?_
     exact st_addNil (hk _ _ (Sto.Le.refl _) rfl)
    intro ρ' τ24 vals hl24 hv hout
    refine st_ord [0, 0] _ rfl ?_
    refine st_env (ρ' := [(66, .bool (!(eqN 2 0 q14 q19))), (2, .pointer (some ⟨b9, 0, none⟩)), (3, .pointer (some ⟨b10, 0, none⟩)), (4, .bool false), (5, .int .i64 s13)]) ⟨(lv1 hv 10 rfl rfl), (hout 2 rfl).trans rfl, (hout 3 rfl).trans rfl, (hout 4 rfl).trans rfl, (hout 5 rfl).trans rfl, trivial⟩ ?_
    refine st_end ?_
    refine st_if rfl h (fun h => ?_) (fun h => ?_)
    ·refine Z 4 rfl ?_
     refine st_ord [] _ rfl ?_
     obtain rfl := he13 _ h
     replace h := hA13
     obtain rfl := Eq.symm h
     exact st_ret (gs' := []) Tryz.func22 rfl (List.Sublist.refl _) ((hl11.trans hl13).trans hl24) ⟨rfl, rfl⟩
    ·refine Z 7 rfl ?_
     exact hn13 _ _ _ _ h ⟨(hl13.trans hl24), rfl, rfl⟩
   ·refine st_exit rfl ?_
    obtain rfl := he13 _ h
    replace h := hA13
    refine st_ord [] _ rfl ?_
    exact hk12 _ _ _ ⟨(), h, hl13, rfl, rfl⟩
 refine ZZ 6 [1, 0] rfl rfl ?_
 refine o_mif rfl rfl rfl rfl h (fun h => ?_) (fun h => ?_)
 ·refine Z 38 rfl ?_
  refine st_ord [1, 0] _ rfl ?_
  exact hk11 _ _ _ ⟨true, h, (Sto.Le.refl _), rfl, rfl⟩
 ·refine ZZ 4 [1, 0] rfl rfl ?_
  refine o_aggEq (b := (eqN 6 0 a0.2.1 a1.2.1)) (e := (!(eqN 6 0 a0.2.1 a1.2.1))) rfl rfl rfl z_eqg35 rfl rfl (fun w => by exact eq_arr (xs := a0.2.1) (ys := a1.2.1) Tryz.underlying35 Tryz.underlying3 z_info3 z_cell3) rfl ?_
  refine o_pick rfl rfl rfl rfl rfl ?_
  refine o_mif rfl rfl rfl rfl h (fun h => ?_) (fun h => ?_)
  ·refine Z 31 rfl ?_
   refine st_ord [1, 0] _ rfl ?_
   exact hk11 _ _ _ ⟨true, h, (Sto.Le.refl _), rfl, rfl⟩
  ·refine ZZ 2 [1] rfl rfl ?_
   refine o_lenI rfl rfl rfl z_slT42 rfl hs3 ?_
   refine ZZ 2 [0] rfl rfl ?_
   refine o_lenI rfl rfl rfl z_slT42 rfl hs7 ?_
   refine Z 2 rfl ?_
   refine o_mif rfl rfl rfl rfl h (fun h => ?_) (fun h => ?_)
   ·refine Z 22 rfl ?_
    refine st_ord [1, 0] _ rfl ?_
    exact hk11 _ _ _ ⟨true, h, (Sto.Le.refl _), rfl, rfl⟩
   ·refine ZZ 4 [1, 0] rfl rfl ?_
    obtain ⟨r27, hr28, h⟩ := h
    refine st_call (foot := []) rfl rfl rfl rfl rfl rfl (callV_fn z_en52 (ref01_Ints_ok hr28 σ hs4 hs8)) ?_
    rintro vτ29 τ29 gsτ29 hl30 ⟨rfl, rfl⟩
    refine Z 2 rfl ?_
    refine o_mif rfl rfl rfl rfl h (fun h => ?_) (fun h => ?_)
    ·refine Z 14 rfl ?_
     refine st_ord [1, 0] _ rfl ?_
     exact hk11 _ _ _ ⟨true, h, hl30, rfl, rfl⟩
    ·refine ZZ 6 [1, 0] rfl rfl ?_
     refine o_mif rfl rfl rfl rfl h (fun h => ?_) (fun h => ?_)
     ·refine Z 7 rfl ?_
      refine st_ord [1, 0] _ rfl ?_
      exact hk11 _ _ _ ⟨true, h, hl30, rfl, rfl⟩
     ·refine ZZ 7 [1, 0] rfl rfl ?_
      refine st_ord [1, 0] _ rfl ?_
      exact hk11 _ _ _ ⟨(!(decide (a0.2.2.2.2.2 = a1.2.2.2.2.2))), h, hl30, rfl, rfl⟩
theorem law20_SayParses_ok {a0 : ByteArray} {r : Bool} (h : law20_SayParses a0 r) (σ : Sto) (hT : Tab Tryz.prog σ) (hE : Errs Tryz.prog σ) :
    Does Tryz.prog 5 [.string a0] σ [] (fun v τ gs => gs = [] ∧ .bool r = v) := by
 refine call_of Tryz.func5 Tryz.ntmps5 rfl rfl (fun cs fs => ?_)
 refine Z 10 rfl ?_
 obtain ⟨hf1, hf2, h⟩ := h
 refine o_sliceSh rfl rfl rfl Tryz.underlying9 rfl rfl hf1 hf2 ?_
 refine Z 5 rfl ?_
 obtain ⟨r3, hr4, h⟩ := h
 refine st_call (foot := []) rfl rfl rfl rfl rfl rfl (callV_fn z_en17 (say_Parse_ok hr4 σ hE)) ?_
 rintro vτ5 τ5 gsτ5 hl6 ⟨v7, v8, rfl, rfl, hs9, hs10⟩
 refine Z 3 rfl ?_
 refine o_alloc rfl rfl rfl z_zero38 (fun b11 => ?_)
 refine o_store (j := 0) (vs := [.int .i64 r3.1.1, .int .i64 (r3.1.2.1.getD 0 0), .int .i64 (r3.1.2.1.getD 1 0), .int .i64 (r3.1.2.1.getD 2 0), .int .i64 (r3.1.2.1.getD 3 0), .int .i64 (r3.1.2.1.getD 4 0), .int .i64 (r3.1.2.1.getD 5 0), v7, v8, .string r3.1.2.2.2.2.1, .string r3.1.2.2.2.2.2]) (cs' := [.int .i64 r3.1.1, .int .i64 (r3.1.2.1.getD 0 0), .int .i64 (r3.1.2.1.getD 1 0), .int .i64 (r3.1.2.1.getD 2 0), .int .i64 (r3.1.2.1.getD 3 0), .int .i64 (r3.1.2.1.getD 4 0), .int .i64 (r3.1.2.1.getD 5 0), v7, v8, .string r3.1.2.2.2.2.1, .string r3.1.2.2.2.2.2]) rfl rfl rfl z_size38 rfl rfl rfl (ones_cons rfl (ones_cons rfl (ones_cons rfl (ones_cons rfl (ones_cons rfl (ones_cons rfl (ones_cons rfl (ones_cons hs9.one' (ones_cons hs10.one' (ones_cons rfl (ones_cons rfl ones_nil))))))))))) rfl rfl rfl ?_
 refine st_gs [[(b11, .cells #[.int .i64 r3.1.1, .int .i64 (r3.1.2.1.getD 0 0), .int .i64 (r3.1.2.1.getD 1 0), .int .i64 (r3.1.2.1.getD 2 0), .int .i64 (r3.1.2.1.getD 3 0), .int .i64 (r3.1.2.1.getD 4 0), .int .i64 (r3.1.2.1.getD 5 0), v7, v8, .string r3.1.2.2.2.2.1, .string r3.1.2.2.2.2.2] 38 (0, 0))]] rfl ?_
 refine Z 5 rfl ?_
 obtain ⟨r12, hr13, h⟩ := h
 refine st_call (foot := []) rfl rfl rfl rfl rfl rfl (callV_fn z_en21 (ref20_Parse_ok hr13 τ5)) ?_
 rintro vτ14 τ14 gsτ14 hl15 ⟨v16, v17, rfl, rfl, hs18, hs19⟩
 refine Z 3 rfl ?_
 refine o_alloc rfl rfl rfl z_zero44 (fun b20 => ?_)
 refine o_store (j := 0) (vs := [.int .i64 r12.1.1, .int .i64 (r12.1.2.1.getD 0 0), .int .i64 (r12.1.2.1.getD 1 0), .int .i64 (r12.1.2.1.getD 2 0), .int .i64 (r12.1.2.1.getD 3 0), .int .i64 (r12.1.2.1.getD 4 0), .int .i64 (r12.1.2.1.getD 5 0), v16, v17, .string r12.1.2.2.2.2.1, .string r12.1.2.2.2.2.2]) (cs' := [.int .i64 r12.1.1, .int .i64 (r12.1.2.1.getD 0 0), .int .i64 (r12.1.2.1.getD 1 0), .int .i64 (r12.1.2.1.getD 2 0), .int .i64 (r12.1.2.1.getD 3 0), .int .i64 (r12.1.2.1.getD 4 0), .int .i64 (r12.1.2.1.getD 5 0), v16, v17, .string r12.1.2.2.2.2.1, .string r12.1.2.2.2.2.2]) rfl rfl rfl z_size44 rfl rfl rfl (ones_cons rfl (ones_cons rfl (ones_cons rfl (ones_cons rfl (ones_cons rfl (ones_cons rfl (ones_cons rfl (ones_cons hs18.one' (ones_cons hs19.one' (ones_cons rfl (ones_cons rfl ones_nil))))))))))) rfl rfl rfl ?_
 refine st_gs [[(b20, .cells #[.int .i64 r12.1.1, .int .i64 (r12.1.2.1.getD 0 0), .int .i64 (r12.1.2.1.getD 1 0), .int .i64 (r12.1.2.1.getD 2 0), .int .i64 (r12.1.2.1.getD 3 0), .int .i64 (r12.1.2.1.getD 4 0), .int .i64 (r12.1.2.1.getD 5 0), v16, v17, .string r12.1.2.2.2.2.1, .string r12.1.2.2.2.2.2] 44 (0, 0))], [(b11, .cells #[.int .i64 r3.1.1, .int .i64 (r3.1.2.1.getD 0 0), .int .i64 (r3.1.2.1.getD 1 0), .int .i64 (r3.1.2.1.getD 2 0), .int .i64 (r3.1.2.1.getD 3 0), .int .i64 (r3.1.2.1.getD 4 0), .int .i64 (r3.1.2.1.getD 5 0), v7, v8, .string r3.1.2.2.2.2.1, .string r3.1.2.2.2.2.2] 38 (0, 0))]] rfl ?_
 refine Z 4 rfl ?_
 obtain ⟨r22, hr23, r30, hr31, h⟩ := h
 let cc21 : Prop := (!(decide (r3.2 = r12.2))) = false
 refine st_draw 10 (dl [.v (.int .i64 r3.2), .v (.int .i64 r12.2), .v (.bool (!(decide (r3.2 = r12.2)))), .v (.bool (!(decide (r3.2 = r12.2)))), .g cc21 (.agg #[.int .i64 r3.1.1, .int .i64 (r3.1.2.1.getD 0 0), .int .i64 (r3.1.2.1.getD 1 0), .int .i64 (r3.1.2.1.getD 2 0), .int .i64 (r3.1.2.1.getD 3 0), .int .i64 (r3.1.2.1.getD 4 0), .int .i64 (r3.1.2.1.getD 5 0), v7, v8, .string r3.1.2.2.2.2.1, .string r3.1.2.2.2.2.2]), .h cc21 fun τ v => ∃ (v26 : Value) (v27 : Value), (.agg #[.int .i64 r22.1, .int .i64 (r22.2.1.getD 0 0), .int .i64 (r22.2.1.getD 1 0), .int .i64 (r22.2.1.getD 2 0), .int .i64 (r22.2.1.getD 3 0), .int .i64 (r22.2.1.getD 4 0), .int .i64 (r22.2.1.getD 5 0), v26, v27, .string r22.2.2.2.2.1, .string r22.2.2.2.2.2] : Value) = v ∧ Sl (kA .i64 2) τ v26 r22.2.2.1 ∧ Sl (kI .i64) τ v27 r22.2.2.2.1, .g cc21 (.agg #[.int .i64 r12.1.1, .int .i64 (r12.1.2.1.getD 0 0), .int .i64 (r12.1.2.1.getD 1 0), .int .i64 (r12.1.2.1.getD 2 0), .int .i64 (r12.1.2.1.getD 3 0), .int .i64 (r12.1.2.1.getD 4 0), .int .i64 (r12.1.2.1.getD 5 0), v16, v17, .string r12.1.2.2.2.2.1, .string r12.1.2.2.2.2.2]), .g cc21 (.bool r30), .g cc21 (.bool (!r30)), .v (.bool ((!(decide (r3.2 = r12.2))) || (!r30)))]) (fun _ _ => []) z_mix rfl (dl_mono ⟨fun _ _ _ hl ⟨v26, v27, hv, hs28, hs29⟩ => ⟨v26, v27, hv, hs28.up hl, hs29.up hl⟩, trivial⟩) (allB_cons (allB_cons (allB_cons (allB_cons (allB_cons (allB_cons (allB_cons (allB_cons (allB_cons (allB_cons allB_nil (p1 dA)) (p1 dA)) (p1 dA)) (p1 dA)) ?_) ?_) ?_) ?_) (p1 (dG [7]))) (p1 dO)) ?_
 ·intro ρ' τ pool rs hl hd hout hk
  obtain ⟨_, e3, rfl⟩ := hd 3 rfl
  by_cases hG : (!(decide (r3.2 = r12.2))) = false
  ·have hC := hG
   refine o_loadN (j := 1) (vs := [.int .i64 r3.1.1, .int .i64 (r3.1.2.1.getD 0 0), .int .i64 (r3.1.2.1.getD 1 0), .int .i64 (r3.1.2.1.getD 2 0), .int .i64 (r3.1.2.1.getD 3 0), .int .i64 (r3.1.2.1.getD 4 0), .int .i64 (r3.1.2.1.getD 5 0), v7, v8, .string r3.1.2.2.2.2.1, .string r3.1.2.2.2.2.2]) rfl (wants_of rfl e3 hG) rfl z_agg38 ((hout 3 rfl).trans rfl) rfl rfl ?_
   exact st_addNil (hk _ _ (Sto.Le.refl _) ⟨fun _ => rfl, fun hn => absurd hC hn⟩)
  ·refine st_pass rfl rfl rfl e3 (beq_off hG) rfl ?_
   exact st_addNil (hk _ _ (Sto.Le.refl _) ⟨fun h => absurd h hG, fun _ => rfl⟩)
 ·intro ρ' τ pool rs hl hd hout hk
  obtain ⟨_, e3, rfl⟩ := hd 3 rfl
  obtain ⟨w4, e4, t4⟩ := hd 4 rfl
  by_cases hG : (!(decide (r3.2 = r12.2))) = false
  ·have hC := hG
   replace hr23 := hr23 hC
   obtain ⟨rfl⟩ := t4.1 hC
   refine st_call (foot := []) rfl (wants_of rfl e3 hG) rfl rfl (evs_cons e4 rfl) rfl (callV_fn z_en16 (law17_Of_ok hr23 τ (hs9.up (hl15.trans hl)) (hs10.up (hl15.trans hl)))) ?_
   rintro vτ24 τ24 gsτ24 hl25 ⟨v26, v27, rfl, rfl, hs28, hs29⟩
   exact st_addNil (hk _ _ hl25 ⟨fun _ => ⟨v26, v27, rfl, hs28, hs29⟩, fun hn => absurd hC hn⟩)
  ·refine st_pass rfl rfl rfl e3 (beq_off hG) rfl ?_
   exact st_addNil (hk _ _ (Sto.Le.refl _) ⟨fun h => absurd h hG, fun _ => rfl⟩)
 ·intro ρ' τ pool rs hl hd hout hk
  obtain ⟨_, e3, rfl⟩ := hd 3 rfl
  by_cases hG : (!(decide (r3.2 = r12.2))) = false
  ·have hC := hG
   refine o_loadN (j := 0) (vs := [.int .i64 r12.1.1, .int .i64 (r12.1.2.1.getD 0 0), .int .i64 (r12.1.2.1.getD 1 0), .int .i64 (r12.1.2.1.getD 2 0), .int .i64 (r12.1.2.1.getD 3 0), .int .i64 (r12.1.2.1.getD 4 0), .int .i64 (r12.1.2.1.getD 5 0), v16, v17, .string r12.1.2.2.2.2.1, .string r12.1.2.2.2.2.2]) rfl (wants_of rfl e3 hG) rfl z_agg44 ((hout 5 rfl).trans rfl) rfl rfl ?_
   exact st_addNil (hk _ _ (Sto.Le.refl _) ⟨fun _ => rfl, fun hn => absurd hC hn⟩)
  ·refine st_pass rfl rfl rfl e3 (beq_off hG) rfl ?_
   exact st_addNil (hk _ _ (Sto.Le.refl _) ⟨fun h => absurd h hG, fun _ => rfl⟩)
 ·intro ρ' τ pool rs hl hd hout hk
  obtain ⟨_, e3, rfl⟩ := hd 3 rfl
  obtain ⟨w5, e5, t5⟩ := hd 5 rfl
  obtain ⟨w6, e6, t6⟩ := hd 6 rfl
  by_cases hG : (!(decide (r3.2 = r12.2))) = false
  ·have hC := hG
   replace hr31 := hr31 hC
   obtain ⟨v26, v27, rfl, hs28, hs29⟩ := t5.1 hC
   obtain ⟨rfl⟩ := t6.1 hC
   refine st_call (foot := []) rfl (wants_of rfl e3 hG) rfl rfl (evs_cons e5 (evs_cons e6 rfl)) rfl (callV_fn z_en22 (ref17_Same_ok hr31 τ hs28 hs29 (hs18.up hl) (hs19.up hl))) ?_
   rintro vτ32 τ32 gsτ32 hl33 ⟨rfl, rfl⟩
   exact st_addNil (hk _ _ hl33 ⟨fun _ => rfl, fun hn => absurd hC hn⟩)
  ·refine st_pass rfl rfl rfl e3 (beq_off hG) rfl ?_
   exact st_addNil (hk _ _ (Sto.Le.refl _) ⟨fun h => absurd h hG, fun _ => rfl⟩)
 intro ρ' τ34 vals hl34 hv hout
 refine st_ord [0, 0] _ rfl ?_
 refine st_env (ρ' := [(31, .bool ((!(decide (r3.2 = r12.2))) || (!r30))), (0, .string (a0.extract 0 (min (a0.size : Int) 600).toNat)), (2, .bool false), (3, .pointer (some ⟨b11, 0, none⟩)), (4, .int .i64 r3.2)]) ⟨(lv1 hv 9 rfl rfl), (hout 0 rfl).trans rfl, (hout 2 rfl).trans rfl, (hout 3 rfl).trans rfl, (hout 4 rfl).trans rfl, trivial⟩ ?_
 refine st_end ?_
 refine st_if rfl h (fun h => ?_) (fun h => ?_)
 ·refine Z 4 rfl ?_
  refine st_ord [] _ rfl ?_
  obtain rfl := Eq.symm h
  exact st_ret (gs' := []) Tryz.func5 rfl (List.Sublist.refl _) ((hl6.trans hl15).trans hl34) ⟨rfl, rfl⟩
 ·refine Z 2 rfl ?_
  refine st_cut (fun ρ τ35 gs => ∃ (s35 : Bool), law20_SayParses_j1 s35 r ∧ τ34.Le τ35 ∧ ESub ρ [(2, .bool s35)] ∧ gs = []) ?_ (fun hk35 => ?_)
  ·rintro ρ35 τ35 gs35 ⟨s35, h, hl35, hρ, rfl⟩
   refine st_es hρ ?_
   obtain rfl := Eq.symm h
   exact st_ret (gs' := []) Tryz.func5 rfl (List.Sublist.refl _) (((hl6.trans hl15).trans hl34).trans hl35) ⟨rfl, rfl⟩
  refine st_region ?_
  obtain ⟨r36, hr37, h⟩ := h
  refine st_call (foot := []) rfl rfl rfl rfl rfl rfl (callV_fn z_en19 (law20_known_ok hr37 τ34 (hT.up ((hl6.trans hl15).trans hl34)))) ?_
  rintro vτ38 τ38 gsτ38 hl39 ⟨rfl, rfl⟩
  refine o_mif rfl rfl rfl rfl h (fun h => ?_) (fun h => ?_)
  ·refine Z 2 rfl ?_
   refine o_mif rfl rfl rfl rfl h (fun h => ?_) (fun h => ?_)
   ·refine Z 8 rfl ?_
    refine st_ord [] _ rfl ?_
    exact hk35 _ _ _ ⟨true, h, hl39, rfl, rfl⟩
   ·refine ZZ 1 [1] rfl rfl ?_
    obtain ⟨r40, hr41, h⟩ := h
    refine st_call (foot := []) rfl rfl rfl rfl rfl rfl (callV_fn z_en14 (say_Line_ok hr41 τ38 (hs9.up ((hl15.trans hl34).trans hl39)) (hs10.up ((hl15.trans hl34).trans hl39)) (hT.up (((hl6.trans hl15).trans hl34).trans hl39)))) ?_
    rintro vτ42 τ42 gsτ42 hl43 ⟨rfl, rfl⟩
    refine Z 6 rfl ?_
    refine st_ord [] _ rfl ?_
    exact hk35 _ _ _ ⟨(decide (r40 = (a0.extract 0 (min (a0.size : Int) 600).toNat))), h, (hl39.trans hl43), rfl, rfl⟩
  ·refine Z 11 rfl ?_
   refine st_ord [] _ rfl ?_
   exact hk35 _ _ _ ⟨false, h, hl39, rfl, rfl⟩
end Go.Rel
