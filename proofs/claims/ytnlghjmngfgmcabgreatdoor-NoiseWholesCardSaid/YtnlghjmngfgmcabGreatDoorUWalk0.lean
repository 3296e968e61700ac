import Derived.Test.YtnlghjmngfgmcabGreatDoorURel
import Derived.Test.YtnlghjmngfgmcabGreatDoorUFacts
/-! The walks. -/
set_option linter.unusedVariables false
set_option linter.unusedSimpArgs false
set_option maxRecDepth 4000
set_option maxHeartbeats 4000000
namespace Go.Rel
open Go Go.Eng Go.Proofs
theorem crc_shift_ok {a0 : Int} {r : Int} (h : crc_shift a0 r) (σ : Sto)  :
    Does Tryz.prog 56 [.int .u32 a0] σ [] (fun v τ gs => gs = [] ∧ .int .u32 r = v) := by
 refine call_of Tryz.func56 Tryz.ntmps56 rfl rfl (fun cs fs => ?_)
 refine Z 5 rfl ?_
 refine st_cut (fun ρ τ1 gs => ∃ (s1 : Int), crc_shift_j1 s1 r ∧ σ.Le τ1 ∧ ESub ρ [(0, .int .u32 s1), (2, .int .u32 0)] ∧ gs = []) ?_ (fun hk1 => ?_)
 ·rintro ρ1 τ1 gs1 ⟨s1, h, hl1, hρ, rfl⟩
  refine st_es hρ ?_
  refine Z 5 rfl ?_
  obtain rfl := Eq.symm h
  exact st_ret (gs' := []) Tryz.func56 rfl (List.Sublist.refl _) hl1 ⟨rfl, rfl⟩
 refine Z 4 rfl ?_
 obtain ⟨e2, hL2, hA2⟩ := h
 refine st_loop hL2 (fun (s2 : Int × Int) ρ τ2 gs => σ.Le τ2 ∧ ESub ρ [(0, .int .u32 s2.1), (2, .int .u32 0), (3, .int .i64 s2.2)] ∧ gs = []) ⟨Sto.Le.refl _, rfl, rfl⟩ ?_
 rintro s2 o2 h he2 ρ2 τ2 gs2 ⟨hl2, hρ, rfl⟩ hn2
 refine st_es hρ ?_
 refine Z 5 rfl ?_
 refine st_if rfl h (fun h => ?_) (fun h => ?_)
 ·refine Z 18 rfl ?_
  exact hn2 _ _ _ _ h ⟨hl2, rfl, rfl⟩
 ·refine st_exit rfl ?_
  obtain rfl := he2 _ h
  replace h := hA2
  exact hk1 _ _ _ ⟨s2.1, h, hl2, rfl, rfl⟩
theorem crc_New_ok  {r : List Int} (h : crc_New r) (σ : Sto)  :
    Does Tryz.prog 25 [] σ [] (fun v τ gs => ∃ (bi19 : Nat), gs = [] ∧ .pointer (some ⟨bi19, 0, none⟩) = v ∧ CelN τ ⟨bi19, 0, none⟩ (cellsN (Value.int .u32) 0 1024 r)) := by
 refine call_of Tryz.func25 Tryz.ntmps25 rfl rfl (fun cs fs => ?_)
 refine Z 6 rfl ?_
 refine o_build (ps := []) (cs := (cellsN (Value.int .u32) 0 1024 (List.replicate 1024 0))) rfl rfl rfl z_struct129 trivial rfl ?_
 refine o_box (cs := (cellsN (Value.int .u32) 0 1024 (List.replicate 1024 0))) rfl rfl rfl rfl rfl (fun b1 => ?_)
 refine Z 3 rfl ?_
 refine st_cut (fun ρ τ2 gs => ∃ (s2 : List Int), crc_New_j1 s2 r ∧ σ.Le τ2 ∧ ESub ρ [(0, .pointer none), (1, .pointer (some ⟨b1, 0, none⟩))] ∧ gs = [[(b1, .cells (cellsN (Value.int .u32) 0 1024 s2).toArray 129 (0, 0))]]) ?_ (fun hk2 => ?_)
 ·rintro ρ2 τ2 gs2 ⟨s2, h, hl2, hρ, rfl⟩
  refine st_es hρ ?_
  refine Z 5 rfl ?_
  refine st_freeze (fun τ3 hl4 hg5 => ?_)
  obtain rfl := Eq.symm h
  exact st_ret (gs' := []) Tryz.func25 rfl (List.Sublist.refl _) (hl2.trans hl4) ⟨_, rfl, rfl, (celn_box hg5)⟩
 refine Z 4 rfl ?_
 obtain ⟨e6, hL6, hA6⟩ := h
 refine st_loop hL6 (fun (s6 : Int × List Int) ρ τ6 gs => σ.Le τ6 ∧ ESub ρ [(0, .pointer none), (1, .pointer (some ⟨b1, 0, none⟩)), (7, .int .i64 s6.1)] ∧ gs = [[(b1, .cells (cellsN (Value.int .u32) 0 1024 s6.2).toArray 129 (0, 0))]]) ⟨Sto.Le.refl _, rfl, rfl⟩ ?_
 rintro s6 o6 h he6 ρ6 τ6 gs6 ⟨hl6, hρ, rfl⟩ hn6
 refine st_es hρ ?_
 refine Z 5 rfl ?_
 refine st_if rfl h (fun h => ?_) (fun h => ?_)
 ·refine Z 2 rfl ?_
  refine st_cut (fun ρ τ7 gs => ∃ (s7 : List Int), crc_New_j3 s6 s7 o6 ∧ τ6.Le τ7 ∧ ESub ρ [(0, .pointer none), (1, .pointer (some ⟨b1, 0, none⟩)), (7, .int .i64 s6.1)] ∧ gs = [[(b1, .cells (cellsN (Value.int .u32) 0 1024 s7).toArray 129 (0, 0))]]) ?_ (fun hk7 => ?_)
  ·rintro ρ7 τ7 gs7 ⟨s7, h, hl7, hρ, rfl⟩
   refine st_es hρ ?_
   refine Z 4 rfl ?_
   exact hn6 _ _ _ _ h ⟨(hl6.trans hl7), rfl, rfl⟩
  refine Z 16 rfl ?_
  obtain ⟨e8, hL8, hA8⟩ := h
  refine st_loop hL8 (fun (s8 : Int × Int × List Int) ρ τ8 gs => τ6.Le τ8 ∧ ESub ρ [(0, .pointer none), (1, .pointer (some ⟨b1, 0, none⟩)), (7, .int .i64 s6.1), (2, .int .i64 s6.1), (3, .int .u32 s8.1), (12, .int .i64 s8.2.1)] ∧ gs = [[(b1, .cells (cellsN (Value.int .u32) 0 1024 s8.2.2).toArray 129 (0, 0))]]) ⟨Sto.Le.refl _, rfl, rfl⟩ ?_
  rintro s8 o8 h he8 ρ8 τ8 gs8 ⟨hl8, hρ, rfl⟩ hn8
  refine st_es hρ ?_
  refine Z 5 rfl ?_
  refine st_if rfl h (fun h => ?_) (fun h => ?_)
  ·refine Z 11 rfl ?_
   obtain ⟨r9, hr10, h⟩ := h
   refine st_call (foot := []) rfl rfl rfl rfl rfl rfl (callV_fn z_en56 (crc_shift_ok hr10 τ8)) ?_
   rintro vτ11 τ11 gsτ11 hl12 ⟨rfl, rfl⟩
   refine Z 9 rfl ?_
   obtain ⟨hf13, hf14, h⟩ := h
   refine o_indexA rfl rfl rfl z_arr127 rfl rfl hf13 hf14 ?_
   obtain ⟨hf15, hf16, h⟩ := h
   refine o_indexA rfl rfl rfl z_arr126 rfl rfl hf15 hf16 ?_
   refine o_storeB (j := 0) (q := (s8.2.1.toNat * 256 + s6.1.toNat)) (f := (Value.int .u32)) (zz := 0) (a := r9) (l := 1024) (xs := s8.2.2) rfl rfl rfl z_size57 rfl rfl rfl rfl rfl (by omega) (by omega) ?_
   refine st_gs [[(b1, .cells (cellsN (Value.int .u32) 0 1024 (putN 1024 0 s8.2.2 (s8.2.1.toNat * 256 + s6.1.toNat) r9)).toArray 129 (0, 0))]] rfl ?_
   refine Z 6 rfl ?_
   exact hn8 _ _ _ _ h ⟨(hl8.trans hl12), rfl, rfl⟩
  ·refine Z 2 rfl ?_
   obtain rfl := he8 _ h
   replace h := hA8
   exact hk7 _ _ _ ⟨s8.2.2, h, hl8, rfl, rfl⟩
 ·refine st_exit rfl ?_
  obtain rfl := he6 _ h
  replace h := hA6
  exact hk2 _ _ _ ⟨s6.2, h, hl6, rfl, rfl⟩
theorem frame_New_ok  {r : List Int} (h : frame_New r) (σ : Sto)  :
    Does Tryz.prog 8 [] σ [] (fun v τ gs => ∃ (bi13 : Nat) (bi11 : Nat), gs = [] ∧ .pointer (some ⟨bi11, 0, none⟩) = v ∧ CelN τ ⟨bi13, 0, none⟩ (cellsN (Value.int .u32) 0 1024 r) ∧ CelN τ ⟨bi11, 0, none⟩ [.pointer (some ⟨bi13, 0, none⟩)]) := by
 refine call_of Tryz.func8 Tryz.ntmps8 rfl rfl (fun cs fs => ?_)
 refine Z 6 rfl ?_
 obtain ⟨r1, hr2, h⟩ := h
 refine st_call (foot := []) rfl rfl rfl rfl rfl rfl (callV_fn z_en25 (crc_New_ok hr2 σ)) ?_
 rintro vτ3 τ3 gsτ3 hl4 ⟨bi5, rfl, rfl, hc6⟩
 refine ZZ 1 [] rfl rfl ?_
 refine o_box (cs := [.pointer (some ⟨bi5, 0, none⟩)]) rfl rfl rfl rfl rfl (fun b7 => ?_)
 refine Z 2 rfl ?_
 refine st_freeze (fun τ8 hl9 hg10 => ?_)
 obtain rfl := Eq.symm h
 exact st_ret (gs' := []) Tryz.func8 rfl (List.Sublist.refl _) (hl4.trans hl9) ⟨_, _, rfl, rfl, (hc6.up hl9), (celn_box hg10)⟩
theorem ref01_Same_ok {a0 : List Int} {a1 : List Int} {v1 : Value} {v3 : Value} {r : Bool} (h : ref01_Same a0 a1 r) (σ : Sto) (hs2 : Sl (kI .u8) σ v1 a0) (hs4 : Sl (kI .u8) σ v3 a1) :
    Does Tryz.prog 28 [v1, v3] σ [] (fun v τ gs => gs = [] ∧ .bool r = v) := by
 refine call_of Tryz.func28 Tryz.ntmps28 rfl rfl (fun cs fs => ?_)
 refine Z 8 rfl ?_
 refine o_lenI rfl rfl rfl z_slT23 rfl hs2 ?_
 refine o_move rfl rfl rfl rfl ?_
 refine o_lenI rfl rfl rfl z_slT23 rfl hs4 ?_
 refine Z 2 rfl ?_
 refine st_if rfl h (fun h => ?_) (fun h => ?_)
 ·refine Z 4 rfl ?_
  obtain rfl := Eq.symm h
  exact st_ret (gs' := []) Tryz.func28 rfl (List.Sublist.refl _) (Sto.Le.refl _) ⟨rfl, rfl⟩
 ·refine Z 2 rfl ?_
  refine st_cut (fun ρ τ5 gs => ∃ (s5 : Unit), ref01_Same_j1 s5 r ∧ σ.Le τ5 ∧ ESub ρ [(4, .bool false)] ∧ gs = []) ?_ (fun hk5 => ?_)
  ·rintro ρ5 τ5 gs5 ⟨s5, h, hl5, hρ, rfl⟩
   refine st_es hρ ?_
   refine Z 4 rfl ?_
   obtain rfl := Eq.symm h
   exact st_ret (gs' := []) Tryz.func28 rfl (List.Sublist.refl _) hl5 ⟨rfl, rfl⟩
  refine Z 4 rfl ?_
  obtain ⟨e6, hL6, hA6⟩ := h
  refine st_loop hL6 (fun (s6 : Int) ρ τ6 gs => σ.Le τ6 ∧ ESub ρ [(0, v1), (1, v3), (4, .bool false), (5, .int .i64 s6)] ∧ gs = []) ⟨Sto.Le.refl _, rfl, rfl⟩ ?_
  rintro s6 o6 h he6 ρ6 τ6 gs6 ⟨hl6, hρ, rfl⟩ hn6
  refine st_es hρ ?_
  refine Z 5 rfl ?_
  refine o_lenI rfl rfl rfl z_slT23 rfl (hs2.up hl6) ?_
  refine Z 2 rfl ?_
  refine st_if rfl h (fun h => ?_) (fun h => ?_)
  ·refine Z 4 rfl ?_
   obtain ⟨q7, hf8, q12, hf13, h⟩ := h
   refine st_draw 9 (dl [.v (v1), .v (.int .i64 s6), .t fun τ v => ∃ (b9 : Nat) (of10 : Nat) (vsb9 : List Value), (.pointer (some ⟨b9, of10, none⟩) : Value) = v ∧ CelN τ ⟨b9, of10, none⟩ vsb9 ∧ (kI .u8).rep τ vsb9 q7, .v (.int .u8 q7), .v (v3), .v (.int .i64 s6), .t fun τ v => ∃ (b14 : Nat) (of15 : Nat) (vsb14 : List Value), (.pointer (some ⟨b14, of15, none⟩) : Value) = v ∧ CelN τ ⟨b14, of15, none⟩ vsb14 ∧ (kI .u8).rep τ vsb14 q12, .v (.int .u8 q12), .v (.bool (!(decide (q7 = q12))))]) (fun _ _ => []) z_mix rfl (dl_mono ⟨fun _ _ _ hl ⟨b9, of10, vsb9, hv, hc11, hrepb9⟩ => ⟨b9, of10, vsb9, hv, hc11.up hl, Kd.mono _ hl hrepb9⟩, ⟨fun _ _ _ hl ⟨b14, of15, vsb14, hv, hc16, hrepb14⟩ => ⟨b14, of15, vsb14, hv, hc16.up hl, Kd.mono _ hl hrepb14⟩, trivial⟩⟩) (allB_cons (allB_cons (allB_cons (allB_cons (allB_cons (allB_cons (allB_cons (allB_cons (allB_cons allB_nil (p1 dA)) (p1 dA)) ?_) ?_) (p1 dA)) (p1 dA)) ?_) ?_) (p1 dA)) ?_
   ·intro ρ' τ pool rs hl hd hout hk
    obtain ⟨_, e0, rfl⟩ := hd 0 rfl
    obtain ⟨_, e1, rfl⟩ := hd 1 rfl
    refine o_index rfl rfl rfl z_slT23 rfl e0 (hs2.up (hl6.trans hl)) e1 hf8 (fun b9 of10 vsb9 hc11 hrepb9 => ?_)
    exact st_addNil (hk _ _ (Sto.Le.refl _) ⟨b9, of10, _, rfl, hc11, hrepb9⟩)
   ·intro ρ' τ pool rs hl hd hout hk
    obtain ⟨_, e2, b9, of10, vsb9, rfl, hc11, hrepb9⟩ := hd 2 rfl
    have hrepb9 := hrepb9
    obtain rfl := hrepb9
    refine o_loadI (v := .int .u8 q7) rfl rfl rfl z_sc5 e2 (hc11 0 _ rfl) ?_
    exact st_addNil (hk _ _ (Sto.Le.refl _) rfl)
   ·intro ρ' τ pool rs hl hd hout hk
    obtain ⟨_, e4, rfl⟩ := hd 4 rfl
    obtain ⟨_, e5, rfl⟩ := hd 5 rfl
    refine o_index rfl rfl rfl z_slT23 rfl e4 (hs4.up (hl6.trans hl)) e5 hf13 (fun b14 of15 vsb14 hc16 hrepb14 => ?_)
    exact st_addNil (hk _ _ (Sto.Le.refl _) ⟨b14, of15, _, rfl, hc16, hrepb14⟩)
   ·intro ρ' τ pool rs hl hd hout hk
    obtain ⟨_, e6, b14, of15, vsb14, rfl, hc16, hrepb14⟩ := hd 6 rfl
    have hrepb14 := hrepb14
    obtain rfl := hrepb14
    refine o_loadI (v := .int .u8 q12) rfl rfl rfl z_sc5 e6 (hc16 0 _ rfl) ?_
    exact st_addNil (hk _ _ (Sto.Le.refl _) rfl)
   intro ρ' τ17 vals hl17 hv hout
   refine st_ord [] _ rfl ?_
   refine st_env (ρ' := [(25, .bool (!(decide (q7 = q12)))), (0, v1), (1, v3), (4, .bool false), (5, .int .i64 s6)]) ⟨(lv1 hv 8 rfl rfl), (hout 0 rfl).trans rfl, (hout 1 rfl).trans rfl, (hout 4 rfl).trans rfl, (hout 5 rfl).trans rfl, trivial⟩ ?_
   refine st_end ?_
   refine st_if rfl h (fun h => ?_) (fun h => ?_)
   ·refine Z 4 rfl ?_
    obtain rfl := he6 _ h
    replace h := hA6
    obtain rfl := Eq.symm h
    exact st_ret (gs' := []) Tryz.func28 rfl (List.Sublist.refl _) (hl6.trans hl17) ⟨rfl, rfl⟩
   ·refine Z 7 rfl ?_
    exact hn6 _ _ _ _ h ⟨(hl6.trans hl17), rfl, rfl⟩
  ·refine st_exit rfl ?_
   obtain rfl := he6 _ h
   replace h := hA6
   exact hk5 _ _ _ ⟨(), h, hl6, rfl, rfl⟩
theorem fence_Segments_1_ok {c0 : List Int} {bc0 : Nat} {v1 : Value} {σ0 : Sto} (hc0_0 : Cel σ0 ⟨bc0, 0, none⟩ (v1)) (hs2 : Sl (kI .u8) σ0 v1 c0) :
    IterV Tryz.prog (fun τ x vx => ∃ (v2 : Value), vx = [.int .i64 x.1, v2] ∧ Sl (kI .u8) τ v2 x.2) (.func (.func 60) #[] [.pointer (some ⟨bc0, 0, none⟩)].toArray) σ0 [] (fun (_ : Unit) _ f => f = []) (fence_Segments_1 c0) := by
 intro S Y I y hyc hyo hIm hY s s' o hR σ g hle hIg
 obtain ⟨r, hr0⟩ : ∃ r, r = (s', o) := ⟨_, rfl⟩
 rw [← hr0] at hR
 have h := hR
 refine callV_of (caps := [.pointer (some ⟨bc0, 0, none⟩)]) z_en60 ?_
 refine call_of Tryz.func60 Tryz.ntmps60 rfl rfl (fun cs fs => ?_)
 refine st_ord [0] _ rfl ?_
 refine Z 9 rfl ?_
 refine o_loadI (v := v1) rfl rfl rfl z_sc23 rfl (Cel.up hc0_0 hle) ?_
 refine o_lenI rfl rfl rfl z_slT23 rfl (hs2.up hle) ?_
 refine Z 2 rfl ?_
 obtain ⟨e3, hL3, hA3⟩ := h
 refine st_loop hL3 (fun (s3 : S × Int × Int) ρ τ3 gs => σ.Le τ3 ∧ ∃ (g4 : Grp), ESub ρ [(0, y), (1, .pointer (some ⟨bc0, 0, none⟩)), (3, .int .i64 s3.2.1), (6, v1), (7, .int .i64 (c0.length : Int)), (8, .int .i64 s3.2.2)] ∧ gs = [g4] ∧ I s3.1 τ3 g4) ⟨Sto.Le.refl _, g, rfl, rfl, hIg⟩ ?_
 rintro s3 o3 h he3 ρ3 τ3 gs3 ⟨hl3, g4, hρ, rfl, hI5⟩ hn3
 refine st_es hρ ?_
 refine Z 5 rfl ?_
 refine st_if rfl h (fun h => ?_) (fun h => ?_)
 ·refine Z 2 rfl ?_
  refine st_cut (fun ρ τ6 gs => ∃ (s6 : S × Int) (g7 : Grp), fence_Segments_1_j2 S Y s3 s6 o3 ∧ τ3.Le τ6 ∧ ESub ρ [(0, y), (1, .pointer (some ⟨bc0, 0, none⟩)), (3, .int .i64 s6.2), (6, v1), (7, .int .i64 (c0.length : Int)), (8, .int .i64 s3.2.2)] ∧ gs = [g7] ∧ I s6.1 τ6 g7) ?_ (fun hk6 => ?_)
  ·rintro ρ6 τ6 gs6 ⟨s6, g7, h, hl6, hρ, rfl, hI8⟩
   refine st_es hρ ?_
   refine Z 4 rfl ?_
   exact hn3 _ _ _ _ h ⟨(hl3.trans hl6), g7, rfl, rfl, hI8⟩
  refine Z 4 rfl ?_
  obtain ⟨q9, hf10, h⟩ := h
  refine o_index rfl rfl rfl z_slT23 rfl rfl (hs2.up (hle.trans hl3)) rfl hf10 (fun b11 of12 vs hc13 hrep => ?_)
  obtain rfl := hrep
  refine o_loadI (v := .int .u8 q9) rfl rfl rfl z_sc5 rfl (hc13 0 _ rfl) ?_
  refine Z 9 rfl ?_
  refine st_if rfl h (fun h => ?_) (fun h => ?_)
  ·refine st_exit rfl ?_
   exact hk6 _ _ _ ⟨(s3.1, s3.2.1), g4, h, (Sto.Le.refl _), rfl, rfl, hI5⟩
  ·refine Z 3 rfl ?_
   refine st_cut (fun ρ τ14 gs => ∃ (s14 : S × Bool) (g15 : Grp), fence_Segments_1_j3 S Y s3 s14 o3 ∧ τ3.Le τ14 ∧ ESub ρ [(0, y), (1, .pointer (some ⟨bc0, 0, none⟩)), (6, v1), (7, .int .i64 (c0.length : Int)), (8, .int .i64 s3.2.2), (4, .int .i64 s3.2.2), (30, .bool s14.2)] ∧ gs = [g15] ∧ I s14.1 τ14 g15) ?_ (fun hk14 => ?_)
   ·rintro ρ14 τ14 gs14 ⟨s14, g15, h, hl14, hρ, rfl, hI16⟩
    refine st_es hρ ?_
    refine st_if rfl h (fun h => ?_) (fun h => ?_)
    ·obtain rfl := he3 _ h
     replace h := hA3
     obtain rfl := Eq.symm h
     cases hr0
     exact st_ret (gs' := [g15, []]) Tryz.func60 rfl (by simp) (hl3.trans hl14) ⟨g15, _, rfl, hI16, rfl⟩
    ·refine Z 7 rfl ?_
     exact hk6 _ _ _ ⟨(s14.1, (IntKind.i64.wrap (s3.2.2 + 1))), g15, h, hl14, rfl, rfl, hI16⟩
   refine Z 4 rfl ?_
   refine o_mif rfl rfl rfl rfl h (fun h => ?_) (fun h => ?_)
   ·refine Z 2 rfl ?_
    refine o_lit (dk := (kI .u8)) (xs := ([] : List Int)) (ps := []) (cs := []) rfl rfl rfl z_slT23 z_zero5 trivial rfl rfl rfl rfl Kd.Many.nil (fun v17 g18 ho19 => ?_)
    refine o_loadI (v := v1) rfl rfl rfl z_sc23 rfl (Cel.up hc0_0 (hle.trans hl3)) ?_
    refine Z 3 rfl ?_
    obtain ⟨hf20, hf21, hf22, hf23, hf24, h⟩ := h
    refine o_slice (L := s3.2.1) (H := s3.2.2) rfl rfl rfl z_slT23 rfl rfl (hs2.up (hle.trans hl3)) ⟨_, rfl⟩ ⟨_, rfl⟩ hf20 hf21 hf22 ⟨_, _, rfl, hf23, hf24⟩ (by simp) (fun v25 hs26 => ?_)
    obtain ⟨hf30, hf31, h⟩ := h
    refine o_append (dk := (kI .u8)) (xs := ([] : List Int)) (ys := ((c0.drop s3.2.1.toNat).take ((s3.2.2 : Int) - s3.2.1).toNat)) rfl rfl rfl rfl z_slT23 rfl ho19 rfl (Sl.src hs26) hf30 hf31 (fun v27 g28 ho29 => ?_)
    obtain ⟨y36, u37, hy38, h⟩ := h
    refine st_freeze (fun τ32 hl33 hg34 => ?_)
    have hs35 := ho29.freeze hl33 hg34
    refine st_call (foot := [g4]) rfl rfl rfl rfl rfl rfl (hY (s3.2.1, (([] : List Int) ++ ((c0.drop s3.2.1.toNat).take ((s3.2.2 : Int) - s3.2.1).toNat))) s3.1 _ _ _ _ _ (hle.trans (hl3.trans hl33)) hy38 ⟨_, rfl, hs35⟩ (hIm _ _ _ _ hl33 hI5)) ?_
    rintro vτ39 τ39 gsτ39 hl40 ⟨rfl, g41, rfl, hI42⟩
    refine Z 3 rfl ?_
    exact hk14 _ _ _ ⟨(u37, (!y36)), g41, h, (hl33.trans hl40), rfl, rfl, hI42⟩
   ·refine Z 13 rfl ?_
    exact hk14 _ _ _ ⟨(s3.1, false), g4, h, (Sto.Le.refl _), rfl, rfl, hI5⟩
 ·refine Z 2 rfl ?_
  obtain rfl := he3 _ h
  replace h := hA3
  obtain rfl := Eq.symm h
  cases hr0
  exact st_fin (gs' := [g4, []]) Tryz.func60 rfl (by simp) hl3 ⟨g4, _, rfl, hI5, rfl⟩
theorem fence_Segments_ok {a0 : List Int} {v1 : Value} {r : (((S : Type) → ((Int × List Int) → S → Bool × S → Prop) → S → S × Unit → Prop))} (h : fence_Segments a0 r) (σ : Sto) (hs2 : Sl (kI .u8) σ v1 a0) :
    Does Tryz.prog 30 [v1] σ [] (fun v τ gs => ∃ (f7 : Nat) (q8 : Array Value), gs = [] ∧ .func (.func f7) #[] q8 = v ∧ IterV Tryz.prog (fun τ x vx => ∃ (v4 : Value), vx = [.int .i64 x.1, v4] ∧ Sl (kI .u8) τ v4 x.2) (.func (.func f7) #[] q8) τ [] (fun (_ : Unit) _ f => f = []) r) := by
 refine call_of Tryz.func30 Tryz.ntmps30 rfl rfl (fun cs fs => ?_)
 refine Z 2 rfl ?_
 refine o_box (cs := [v1]) rfl rfl rfl rfl (oneL_sl hs2) (fun b3 => ?_)
 refine Z 4 rfl ?_
 refine st_freeze (fun τ4 hl5 hg6 => ?_)
 refine Z 3 rfl ?_
 obtain rfl := Eq.symm h
 exact st_ret (gs' := []) Tryz.func30 rfl (List.Sublist.refl _) hl5 ⟨_, _, rfl, rfl, (fence_Segments_1_ok (cel_of hg6 rfl) (hs2.up hl5))⟩
theorem cobs_Decode_ok {a0 : List Int} {v1 : Value} {r : List Int × Int} (h : cobs_Decode a0 r) (σ : Sto) (hs2 : Sl (kI .u8) σ v1 a0) :
    Does Tryz.prog 61 [v1] σ [] (fun v τ gs => ∃ (v64 : Value), gs = [] ∧ .tuple [v64, .int .i64 r.2].toArray = v ∧ Sl (kI .u8) τ v64 r.1) := by
 refine call_of Tryz.func61 Tryz.ntmps61 rfl rfl (fun cs fs => ?_)
 refine Z 6 rfl ?_
 refine st_lcut (l := 0) rfl (fun ρ τ3 gs => ∃ (s3 : Unit), cobs_Decode_j1 s3 r ∧ σ.Le τ3 ∧ ESub ρ [(2, .slice none 0 0), (3, .int .i64 0)] ∧ gs = []) ?_ (fun hk3 => ?_)
 ·rintro ρ3 τ3 gs3 ⟨s3, h, hl3, hρ, rfl⟩
  refine st_es hρ ?_
  refine Z 7 rfl ?_
  obtain rfl := Eq.symm h
  exact st_ret (gs' := []) Tryz.func61 rfl (List.Sublist.refl _) hl3 ⟨_, rfl, rfl, Sl.nil⟩
 refine Z 14 rfl ?_
 refine o_lenI rfl rfl rfl z_slT23 rfl hs2 ?_
 refine Z 2 rfl ?_
 refine st_if rfl h (fun h => ?_) (fun h => ?_)
 ·refine st_goto rfl ?_
  exact hk3 _ _ _ ⟨(), h, (Sto.Le.refl _), rfl, rfl⟩
 ·refine Z 4 rfl ?_
  refine st_cut (fun ρ τ4 gs => ∃ (s4 : List Int) (v5 : Value) (g6 : Grp), cobs_Decode_j2 s4 r ∧ σ.Le τ4 ∧ ESub ρ [(2, .slice none 0 0), (3, .int .i64 0), (4, v5)] ∧ gs = [g6] ∧ Ow (kI .u8) 5 τ4 v5 s4 g6) ?_ (fun hk4 => ?_)
  ·rintro ρ4 τ4 gs4 ⟨s4, v5, g6, h, hl4, hρ, rfl, ho7⟩
   refine st_es hρ ?_
   refine Z 7 rfl ?_
   refine st_freeze (fun τ8 hl9 hg10 => ?_)
   have hs11 := ho7.freeze hl9 hg10
   obtain rfl := Eq.symm h
   exact st_ret (gs' := []) Tryz.func61 rfl (List.Sublist.refl _) (hl4.trans hl9) ⟨_, rfl, rfl, hs11⟩
  obtain ⟨e14, hL14, hA14⟩ := h
  refine st_addNil ?_
  refine st_loop hL14 (fun (s14 : List Int × List Int × Bool) ρ τ14 gs => σ.Le τ14 ∧ ∃ (v15 : Value) (g16 : Grp) (v18 : Value), ESub ρ [(2, .slice none 0 0), (3, .int .i64 0), (4, v15), (5, v18), (6, .bool s14.2.2)] ∧ gs = [g16] ∧ Ow (kI .u8) 5 τ14 v15 s14.1 g16 ∧ Sl (kI .u8) τ14 v18 s14.2.1) ⟨Sto.Le.refl _, _, _, _, rfl, rfl, Ow.nil, hs2⟩ ?_
  rintro s14 o14 h he14 ρ14 τ14 gs14 ⟨hl14, v15, g16, v18, hρ, rfl, ho17, hs19⟩ hn14
  refine st_es hρ ?_
  refine Z 4 rfl ?_
  obtain ⟨q20, hf21, h⟩ := h
  refine o_index rfl rfl rfl z_slT23 rfl rfl hs19 rfl hf21 (fun b22 of23 vs hc24 hrep => ?_)
  obtain rfl := hrep
  refine o_loadI (v := .int .u8 q20) rfl rfl rfl z_sc5 rfl (hc24 0 _ rfl) ?_
  refine Z 6 rfl ?_
  refine st_cut (fun ρ τ25 gs => ∃ (s25 : Bool), cobs_Decode_j4 s14 q20 s25 o14 ∧ τ14.Le τ25 ∧ ESub ρ [(2, .slice none 0 0), (3, .int .i64 0), (4, v15), (5, v18), (6, .bool s14.2.2), (7, .int .i64 (IntKind.i64.wrap ((IntKind.i64.wrap q20) - 1))), (27, .bool s25)] ∧ gs = [g16]) ?_ (fun hk25 => ?_)
  ·rintro ρ25 τ25 gs25 ⟨s25, h, hl25, hρ, rfl⟩
   refine st_es hρ ?_
   refine st_if rfl h (fun h => ?_) (fun h => ?_)
   ·refine st_goto rfl ?_
    obtain rfl := he14 _ h
    replace h := hA14
    refine st_ord [] _ rfl ?_
    exact hk3 _ _ _ ⟨(), h, (hl14.trans hl25), rfl, rfl⟩
   ·refine Z 2 rfl ?_
    refine st_cut (fun ρ τ26 gs => ∃ (s26 : Unit), cobs_Decode_j5 s14 q20 s26 o14 ∧ τ25.Le τ26 ∧ ESub ρ [(2, .slice none 0 0), (3, .int .i64 0), (4, v15), (5, v18), (6, .bool s14.2.2), (7, .int .i64 (IntKind.i64.wrap ((IntKind.i64.wrap q20) - 1)))] ∧ gs = [g16]) ?_ (fun hk26 => ?_)
    ·rintro ρ26 τ26 gs26 ⟨s26, h, hl26, hρ, rfl⟩
     refine st_es hρ ?_
     refine Z 6 rfl ?_
     obtain ⟨hf27, hf28, h⟩ := h
     refine o_slice (L := 1) (H := (IntKind.i64.wrap ((IntKind.i64.wrap ((IntKind.i64.wrap q20) - 1)) + 1))) rfl rfl rfl z_slT23 rfl rfl (hs19.up (hl25.trans hl26)) ⟨_, rfl⟩ ⟨_, rfl⟩ (by decide) hf27 hf28 trivial (by simp) (fun v29 hs30 => ?_)
     obtain ⟨hf34, hf35, h⟩ := h
     refine o_append (dk := (kI .u8)) (xs := s14.1) (ys := ((s14.2.1.drop (1 : Int).toNat).take (((IntKind.i64.wrap ((IntKind.i64.wrap ((IntKind.i64.wrap q20) - 1)) + 1)) : Int) - 1).toNat)) rfl rfl rfl rfl z_slT23 rfl (ho17.up (hl25.trans hl26)) rfl (Sl.src hs30) hf34 hf35 (fun v31 g32 ho33 => ?_)
     refine Z 7 rfl ?_
     obtain ⟨hf36, hf37, hf38, h⟩ := h
     refine o_slice (L := (IntKind.i64.wrap ((IntKind.i64.wrap ((IntKind.i64.wrap q20) - 1)) + 1))) (H := (s14.2.1.length : Int)) rfl rfl rfl z_slT23 rfl rfl (hs19.up (hl25.trans hl26)) ⟨_, rfl⟩ rfl hf36 hf37 hf38 trivial (by simp) (fun v39 hs40 => ?_)
     refine Z 15 rfl ?_
     refine st_cut (fun ρ τ41 gs => ∃ (s41 : Bool), cobs_Decode_j6 s14 q20 s41 o14 ∧ τ26.Le τ41 ∧ ESub ρ [(2, .slice none 0 0), (3, .int .i64 0), (4, v31), (5, v39), (6, .bool (decide ((IntKind.i64.wrap ((IntKind.i64.wrap q20) - 1)) = 254))), (53, .bool s41)] ∧ gs = [g32]) ?_ (fun hk41 => ?_)
     ·rintro ρ41 τ41 gs41 ⟨s41, h, hl41, hρ, rfl⟩
      refine st_es hρ ?_
      refine st_if rfl h (fun h => ?_) (fun h => ?_)
      ·refine st_goto rfl ?_
       obtain rfl := he14 _ h
       replace h := hA14
       refine st_ord [] _ rfl ?_
       exact hk3 _ _ _ ⟨(), h, (((hl14.trans hl25).trans hl26).trans hl41), rfl, rfl⟩
      ·refine Z 3 rfl ?_
       refine o_lenI rfl rfl rfl z_slT23 rfl (hs40.up hl41) ?_
       refine Z 3 rfl ?_
       refine st_if rfl h (fun h => ?_) (fun h => ?_)
       ·refine st_exit rfl ?_
        obtain rfl := he14 _ h
        replace h := hA14
        exact hk4 _ _ _ ⟨(s14.1 ++ ((s14.2.1.drop (1 : Int).toNat).take (((IntKind.i64.wrap ((IntKind.i64.wrap ((IntKind.i64.wrap q20) - 1)) + 1)) : Int) - 1).toNat)), _, _, h, (((hl14.trans hl25).trans hl26).trans hl41), rfl, rfl, (ho33.up hl41)⟩
       ·refine Z 6 rfl ?_
        refine st_if rfl h (fun h => ?_) (fun h => ?_)
        ·refine Z 2 rfl ?_
         refine o_litE (eI .u8) [0] rfl rfl rfl z_slT23 z_zero5 ⟨rfl, ⟨_, rfl, rfl⟩, trivial⟩ rfl rfl rfl rfl (fun v42 g43 ho44 => ?_)
         obtain ⟨hf48, hf49, h⟩ := h
         refine st_ord [1, 0] _ rfl ?_
         refine o_append (dk := (kI .u8)) (xs := (s14.1 ++ ((s14.2.1.drop (1 : Int).toNat).take (((IntKind.i64.wrap ((IntKind.i64.wrap ((IntKind.i64.wrap q20) - 1)) + 1)) : Int) - 1).toNat))) (ys := [0]) rfl rfl rfl rfl z_slT23 rfl (ho33.up hl41) rfl (Ow.src (j := 1) ho44 rfl) hf48 hf49 (fun v45 g46 ho47 => ?_)
         refine Z 4 rfl ?_
         refine st_ord [0] _ rfl ?_
         exact hn14 _ _ _ _ h ⟨(((hl14.trans hl25).trans hl26).trans hl41), _, _, _, rfl, rfl, ho47, (hs40.up hl41)⟩
        ·refine Z 3 rfl ?_
         exact hn14 _ _ _ _ h ⟨(((hl14.trans hl25).trans hl26).trans hl41), _, _, _, rfl, rfl, (ho33.up hl41), (hs40.up hl41)⟩
     refine Z 2 rfl ?_
     refine o_lenI rfl rfl rfl z_slT23 rfl hs40 ?_
     refine o_ibin (v := .bool (decide ((((s14.2.1.drop (IntKind.i64.wrap ((IntKind.i64.wrap ((IntKind.i64.wrap q20) - 1)) + 1)).toNat).take (((s14.2.1.length : Int) : Int) - (IntKind.i64.wrap ((IntKind.i64.wrap ((IntKind.i64.wrap q20) - 1)) + 1))).toNat).length : Int) = 0))) rfl rfl rfl rfl rfl rfl ?_
     refine o_mif rfl rfl rfl rfl h (fun h => ?_) (fun h => ?_)
     ·refine Z 2 rfl ?_
      refine o_mif rfl rfl rfl rfl h (fun h => ?_) (fun h => ?_)
      ·refine Z 5 rfl ?_
       exact hk41 _ _ _ ⟨(decide ((IntKind.i64.wrap ((IntKind.i64.wrap q20) - 1)) = 0)), h, (Sto.Le.refl _), rfl, rfl⟩
      ·refine Z 5 rfl ?_
       exact hk41 _ _ _ ⟨false, h, (Sto.Le.refl _), rfl, rfl⟩
     ·refine Z 8 rfl ?_
      exact hk41 _ _ _ ⟨false, h, (Sto.Le.refl _), rfl, rfl⟩
    refine Z 5 rfl ?_
    obtain ⟨hf50, hf51, h⟩ := h
    refine o_slice (L := 1) (H := (IntKind.i64.wrap ((IntKind.i64.wrap ((IntKind.i64.wrap q20) - 1)) + 1))) rfl rfl rfl z_slT23 rfl rfl (hs19.up hl25) ⟨_, rfl⟩ ⟨_, rfl⟩ (by decide) hf50 hf51 trivial (by simp) (fun v52 hs53 => ?_)
    refine o_lenI rfl rfl rfl z_slT23 rfl hs53 ?_
    refine Z 2 rfl ?_
    obtain ⟨e54, hL54, hA54⟩ := h
    refine st_loop hL54 (fun (s54 : Int) ρ τ54 gs => τ25.Le τ54 ∧ ESub ρ [(2, .slice none 0 0), (3, .int .i64 0), (4, v15), (5, v18), (6, .bool s14.2.2), (7, .int .i64 (IntKind.i64.wrap ((IntKind.i64.wrap q20) - 1))), (31, v52), (32, .int .i64 (((s14.2.1.drop (1 : Int).toNat).take (((IntKind.i64.wrap ((IntKind.i64.wrap ((IntKind.i64.wrap q20) - 1)) + 1)) : Int) - 1).toNat).length : Int)), (33, .int .i64 s54)] ∧ gs = [g16]) ⟨Sto.Le.refl _, rfl, rfl⟩ ?_
    rintro s54 o54 h he54 ρ54 τ54 gs54 ⟨hl54, hρ, rfl⟩ hn54
    refine st_es hρ ?_
    refine Z 5 rfl ?_
    refine st_if rfl h (fun h => ?_) (fun h => ?_)
    ·refine Z 5 rfl ?_
     obtain ⟨q55, hf56, h⟩ := h
     refine o_index rfl rfl rfl z_slT23 rfl rfl (hs53.up hl54) rfl hf56 (fun b57 of58 vs hc59 hrep => ?_)
     obtain rfl := hrep
     refine o_loadI (v := .int .u8 q55) rfl rfl rfl z_sc5 rfl (hc59 0 _ rfl) ?_
     refine Z 7 rfl ?_
     refine st_if rfl h (fun h => ?_) (fun h => ?_)
     ·refine st_goto rfl ?_
      obtain rfl := he54 _ h
      replace h := hA54
      obtain rfl := he14 _ h
      replace h := hA14
      refine st_ord [] _ rfl ?_
      exact hk3 _ _ _ ⟨(), h, ((hl14.trans hl25).trans hl54), rfl, rfl⟩
     ·refine Z 6 rfl ?_
      exact hn54 _ _ _ _ h ⟨hl54, rfl, rfl⟩
    ·refine st_exit rfl ?_
     obtain rfl := he54 _ h
     replace h := hA54
     exact hk26 _ _ _ ⟨(), h, hl54, rfl, rfl⟩
  refine Z 3 rfl ?_
  refine o_mif rfl rfl rfl rfl h (fun h => ?_) (fun h => ?_)
  ·refine Z 6 rfl ?_
   exact hk25 _ _ _ ⟨true, h, (Sto.Le.refl _), rfl, rfl⟩
  ·refine Z 2 rfl ?_
   refine o_lenI rfl rfl rfl z_slT23 rfl hs19 ?_
   refine Z 3 rfl ?_
   exact hk25 _ _ _ ⟨(decide ((s14.2.1.length : Int) ≤ (IntKind.i64.wrap ((IntKind.i64.wrap q20) - 1)))), h, (Sto.Le.refl _), rfl, rfl⟩
theorem crc_Table_Begin_ok {a0 : List Int} {bi1 : Nat} {r : Int} (h : crc_Table_Begin a0 r) (σ : Sto) (hc2 : CelN σ ⟨bi1, 0, none⟩ (cellsN (Value.int .u32) 0 1024 a0)) :
    Does Tryz.prog 125 [.pointer (some ⟨bi1, 0, none⟩)] σ [] (fun v τ gs => gs = [] ∧ .int .u32 r = v) := by
 refine call_of Tryz.func125 Tryz.ntmps125 rfl rfl (fun cs fs => ?_)
 refine Z 16 rfl ?_
 obtain rfl := Eq.symm h
 exact st_ret (gs' := []) Tryz.func125 rfl (List.Sublist.refl _) (Sto.Le.refl _) ⟨rfl, rfl⟩
theorem crc_Table_Add_ok {a0 : List Int} {a1 : Int} {a2 : List Int} {bi1 : Nat} {v3 : Value} {r : Int} (h : crc_Table_Add a0 a1 a2 r) (σ : Sto) (hc2 : CelN σ ⟨bi1, 0, none⟩ (cellsN (Value.int .u32) 0 1024 a0)) (hs4 : Sl (kI .u8) σ v3 a2) :
    Does Tryz.prog 126 [.pointer (some ⟨bi1, 0, none⟩), .int .u32 a1, v3] σ [] (fun v τ gs => gs = [] ∧ .int .u32 r = v) := by
 refine call_of Tryz.func126 Tryz.ntmps126 rfl rfl (fun cs fs => ?_)
 refine Z 16 rfl ?_
 refine st_cut (fun ρ τ5 gs => ∃ (s5 : Int × List Int) (v6 : Value), crc_Table_Add_j1 a0 s5 r ∧ σ.Le τ5 ∧ ESub ρ [(0, .pointer (some ⟨bi1, 0, none⟩)), (1, .int .u32 s5.1), (2, v6), (6, .int .u32 0)] ∧ gs = [] ∧ Sl (kI .u8) τ5 v6 s5.2) ?_ (fun hk5 => ?_)
 ·rintro ρ5 τ5 gs5 ⟨s5, v6, h, hl5, hρ, rfl, hs7⟩
  refine st_es hρ ?_
  refine st_seq ?_
  refine st_cut (fun ρ τ8 gs => ∃ (s8 : Int), crc_Table_Add_j2 s8 r ∧ τ5.Le τ8 ∧ ESub ρ [(1, .int .u32 s8), (6, .int .u32 0)] ∧ gs = []) ?_ (fun hk8 => ?_)
  ·rintro ρ8 τ8 gs8 ⟨s8, h, hl8, hρ, rfl⟩
   refine st_es hρ ?_
   refine Z 5 rfl ?_
   obtain rfl := Eq.symm h
   exact st_ret (gs' := []) Tryz.func126 rfl (List.Sublist.refl _) (hl5.trans hl8) ⟨rfl, rfl⟩
  refine Z 3 rfl ?_
  refine o_lenI rfl rfl rfl z_slT23 rfl hs7 ?_
  refine Z 2 rfl ?_
  obtain ⟨e9, hL9, hA9⟩ := h
  refine st_loop hL9 (fun (s9 : Int × Int) ρ τ9 gs => τ5.Le τ9 ∧ ESub ρ [(0, .pointer (some ⟨bi1, 0, none⟩)), (1, .int .u32 s9.1), (6, .int .u32 0), (77, v6), (78, .int .i64 (s5.2.length : Int)), (79, .int .i64 s9.2)] ∧ gs = []) ⟨Sto.Le.refl _, rfl, rfl⟩ ?_
  rintro s9 o9 h he9 ρ9 τ9 gs9 ⟨hl9, hρ, rfl⟩ hn9
  refine st_es hρ ?_
  refine Z 5 rfl ?_
  refine st_if rfl h (fun h => ?_) (fun h => ?_)
  ·refine Z 5 rfl ?_
   obtain ⟨q10, hf11, h⟩ := h
   refine o_index rfl rfl rfl z_slT23 rfl rfl (hs7.up hl9) rfl hf11 (fun b12 of13 vs hc14 hrep => ?_)
   obtain rfl := hrep
   refine o_loadI (v := .int .u8 q10) rfl rfl rfl z_sc5 rfl (hc14 0 _ rfl) ?_
   refine Z 12 rfl ?_
   refine o_indexA rfl rfl rfl z_arr127 rfl rfl (by decide) (by decide) ?_
   obtain ⟨hf15, hf16, h⟩ := h
   refine o_indexA rfl rfl rfl z_arr126 rfl rfl hf15 hf16 ?_
   refine o_loadI (v := .int .u32 (a0.getD ((ixor .u8 (IntKind.u8.wrap s9.1) q10).toNat) 0)) rfl rfl rfl z_sc57 rfl (cel_big (q := (ixor .u8 (IntKind.u8.wrap s9.1) q10).toNat) (hc2.up (hl5.trans hl9)) (by omega) (by omega)) ?_
   refine Z 8 rfl ?_
   exact hn9 _ _ _ _ h ⟨hl9, rfl, rfl⟩
  ·refine st_exit rfl ?_
   obtain rfl := he9 _ h
   replace h := hA9
   exact hk8 _ _ _ ⟨s9.1, h, hl9, rfl, rfl⟩
 obtain ⟨e18, hL18, hA18⟩ := h
 refine st_loop hL18 (fun (s18 : Int × List Int) ρ τ18 gs => σ.Le τ18 ∧ ∃ (v19 : Value), ESub ρ [(0, .pointer (some ⟨bi1, 0, none⟩)), (1, .int .u32 s18.1), (2, v19), (6, .int .u32 0)] ∧ gs = [] ∧ Sl (kI .u8) τ18 v19 s18.2) ⟨Sto.Le.refl _, _, rfl, rfl, hs4⟩ ?_
 rintro s18 o18 h he18 ρ18 τ18 gs18 ⟨hl18, v19, hρ, rfl, hs20⟩ hn18
 refine st_es hρ ?_
 refine Z 5 rfl ?_
 refine o_lenI rfl rfl rfl z_slT23 rfl hs20 ?_
 refine Z 2 rfl ?_
 refine st_if rfl h (fun h => ?_) (fun h => ?_)
 ·refine st_exit rfl ?_
  obtain rfl := he18 _ h
  replace h := hA18
  exact hk5 _ _ _ ⟨(s18.1, s18.2), _, h, hl18, rfl, rfl, hs20⟩
 ·refine Z 2 rfl ?_
  obtain ⟨q21, hf22, q26, hf27, q31, hf32, q36, hf37, h⟩ := h
  refine st_draw 24 (dl [.v (.int .u32 s18.1), .v (v19), .t fun τ v => ∃ (b23 : Nat) (of24 : Nat) (vsb23 : List Value), (.pointer (some ⟨b23, of24, none⟩) : Value) = v ∧ CelN τ ⟨b23, of24, none⟩ vsb23 ∧ (kI .u8).rep τ vsb23 q21, .v (.int .u8 q21), .v (.int .u32 (IntKind.u32.wrap q21)), .v (v19), .t fun τ v => ∃ (b28 : Nat) (of29 : Nat) (vsb28 : List Value), (.pointer (some ⟨b28, of29, none⟩) : Value) = v ∧ CelN τ ⟨b28, of29, none⟩ vsb28 ∧ (kI .u8).rep τ vsb28 q26, .v (.int .u8 q26), .v (.int .u32 (IntKind.u32.wrap q26)), .v (.int .u32 (ishl .u32 (IntKind.u32.wrap q26) 8)), .v (.int .u32 (ior .u32 (IntKind.u32.wrap q21) (ishl .u32 (IntKind.u32.wrap q26) 8))), .v (v19), .t fun τ v => ∃ (b33 : Nat) (of34 : Nat) (vsb33 : List Value), (.pointer (some ⟨b33, of34, none⟩) : Value) = v ∧ CelN τ ⟨b33, of34, none⟩ vsb33 ∧ (kI .u8).rep τ vsb33 q31, .v (.int .u8 q31), .v (.int .u32 (IntKind.u32.wrap q31)), .v (.int .u32 (ishl .u32 (IntKind.u32.wrap q31) 16)), .v (.int .u32 (ior .u32 (ior .u32 (IntKind.u32.wrap q21) (ishl .u32 (IntKind.u32.wrap q26) 8)) (ishl .u32 (IntKind.u32.wrap q31) 16))), .v (v19), .t fun τ v => ∃ (b38 : Nat) (of39 : Nat) (vsb38 : List Value), (.pointer (some ⟨b38, of39, none⟩) : Value) = v ∧ CelN τ ⟨b38, of39, none⟩ vsb38 ∧ (kI .u8).rep τ vsb38 q36, .v (.int .u8 q36), .v (.int .u32 (IntKind.u32.wrap q36)), .v (.int .u32 (ishl .u32 (IntKind.u32.wrap q36) 24)), .v (.int .u32 (ior .u32 (ior .u32 (ior .u32 (IntKind.u32.wrap q21) (ishl .u32 (IntKind.u32.wrap q26) 8)) (ishl .u32 (IntKind.u32.wrap q31) 16)) (ishl .u32 (IntKind.u32.wrap q36) 24))), .v (.int .u32 (ixor .u32 s18.1 (ior .u32 (ior .u32 (ior .u32 (IntKind.u32.wrap q21) (ishl .u32 (IntKind.u32.wrap q26) 8)) (ishl .u32 (IntKind.u32.wrap q31) 16)) (ishl .u32 (IntKind.u32.wrap q36) 24))))]) (fun _ _ => []) z_mix rfl (dl_mono (by exact ⟨fun _ _ _ hl ⟨b23, of24, vsb23, hv, hc25, hrepb23⟩ => ⟨b23, of24, vsb23, hv, hc25.up hl, Kd.mono _ hl hrepb23⟩, ⟨fun _ _ _ hl ⟨b28, of29, vsb28, hv, hc30, hrepb28⟩ => ⟨b28, of29, vsb28, hv, hc30.up hl, Kd.mono _ hl hrepb28⟩, ⟨fun _ _ _ hl ⟨b33, of34, vsb33, hv, hc35, hrepb33⟩ => ⟨b33, of34, vsb33, hv, hc35.up hl, Kd.mono _ hl hrepb33⟩, ⟨fun _ _ _ hl ⟨b38, of39, vsb38, hv, hc40, hrepb38⟩ => ⟨b38, of39, vsb38, hv, hc40.up hl, Kd.mono _ hl hrepb38⟩, trivial⟩⟩⟩⟩)) (allB_cons (allB_cons (allB_cons (allB_cons (allB_cons (allB_cons (allB_cons (allB_cons (allB_cons (allB_cons (allB_cons (allB_cons (allB_cons (allB_cons (allB_cons (allB_cons (allB_cons (allB_cons (allB_cons (allB_cons (allB_cons (allB_cons (allB_cons (allB_cons allB_nil (p1 dA)) (p1 dA)) ?_) ?_) (p1 dA)) (p1 dA)) ?_) ?_) (p1 dA)) (p1 dA)) (p1 dA)) (p1 dA)) ?_) ?_) (p1 dA)) (p1 dA)) (p1 dA)) (p1 dA)) ?_) ?_) (p1 dA)) (p1 dA)) (p1 dA)) (p1 dA)) ?_
  ·intro ρ' τ pool rs hl hd hout hk
   obtain ⟨_, e1, rfl⟩ := hd 1 rfl
   refine o_index rfl rfl rfl z_slT23 rfl e1 (hs20.up hl) rfl hf22 (fun b23 of24 vsb23 hc25 hrepb23 => ?_)
   exact st_addNil (hk _ _ (Sto.Le.refl _) ⟨b23, of24, _, rfl, hc25, hrepb23⟩)
  ·intro ρ' τ pool rs hl hd hout hk
   obtain ⟨_, e2, b23, of24, vsb23, rfl, hc25, hrepb23⟩ := hd 2 rfl
   have hrepb23 := hrepb23
   obtain rfl := hrepb23
   refine o_loadI (v := .int .u8 q21) rfl rfl rfl z_sc5 e2 (hc25 0 _ rfl) ?_
   exact st_addNil (hk _ _ (Sto.Le.refl _) rfl)
  ·intro ρ' τ pool rs hl hd hout hk
   obtain ⟨_, e5, rfl⟩ := hd 5 rfl
   refine o_index rfl rfl rfl z_slT23 rfl e5 (hs20.up hl) rfl hf27 (fun b28 of29 vsb28 hc30 hrepb28 => ?_)
   exact st_addNil (hk _ _ (Sto.Le.refl _) ⟨b28, of29, _, rfl, hc30, hrepb28⟩)
  ·intro ρ' τ pool rs hl hd hout hk
   obtain ⟨_, e6, b28, of29, vsb28, rfl, hc30, hrepb28⟩ := hd 6 rfl
   have hrepb28 := hrepb28
   obtain rfl := hrepb28
   refine o_loadI (v := .int .u8 q26) rfl rfl rfl z_sc5 e6 (hc30 0 _ rfl) ?_
   exact st_addNil (hk _ _ (Sto.Le.refl _) rfl)
  ·intro ρ' τ pool rs hl hd hout hk
   obtain ⟨_, e11, rfl⟩ := hd 11 rfl
   refine o_index rfl rfl rfl z_slT23 rfl e11 (hs20.up hl) rfl hf32 (fun b33 of34 vsb33 hc35 hrepb33 => ?_)
   exact st_addNil (hk _ _ (Sto.Le.refl _) ⟨b33, of34, _, rfl, hc35, hrepb33⟩)
  ·intro ρ' τ pool rs hl hd hout hk
   obtain ⟨_, e12, b33, of34, vsb33, rfl, hc35, hrepb33⟩ := hd 12 rfl
   have hrepb33 := hrepb33
   obtain rfl := hrepb33
   refine o_loadI (v := .int .u8 q31) rfl rfl rfl z_sc5 e12 (hc35 0 _ rfl) ?_
   exact st_addNil (hk _ _ (Sto.Le.refl _) rfl)
  ·intro ρ' τ pool rs hl hd hout hk
   obtain ⟨_, e17, rfl⟩ := hd 17 rfl
   refine o_index rfl rfl rfl z_slT23 rfl e17 (hs20.up hl) rfl hf37 (fun b38 of39 vsb38 hc40 hrepb38 => ?_)
   exact st_addNil (hk _ _ (Sto.Le.refl _) ⟨b38, of39, _, rfl, hc40, hrepb38⟩)
  ·intro ρ' τ pool rs hl hd hout hk
   obtain ⟨_, e18, b38, of39, vsb38, rfl, hc40, hrepb38⟩ := hd 18 rfl
   have hrepb38 := hrepb38
   obtain rfl := hrepb38
   refine o_loadI (v := .int .u8 q36) rfl rfl rfl z_sc5 e18 (hc40 0 _ rfl) ?_
   exact st_addNil (hk _ _ (Sto.Le.refl _) rfl)
  intro ρ' τ41 vals hl41 hv hout
  refine st_ord [] _ rfl ?_
  refine st_env (ρ' := [(37, .int .u32 (ixor .u32 s18.1 (ior .u32 (ior .u32 (ior .u32 (IntKind.u32.wrap q21) (ishl .u32 (IntKind.u32.wrap q26) 8)) (ishl .u32 (IntKind.u32.wrap q31) 16)) (ishl .u32 (IntKind.u32.wrap q36) 24)))), (0, .pointer (some ⟨bi1, 0, none⟩)), (2, v19), (6, .int .u32 0)]) ⟨(lv1 hv 23 rfl rfl), (hout 0 rfl).trans rfl, (hout 2 rfl).trans rfl, (hout 6 rfl).trans rfl, trivial⟩ ?_
  refine Z 3 rfl ?_
  obtain ⟨hf42, hf43, hf44, hf45, hf46, hf47, hf48, hf49, h⟩ := h
  refine st_draw 37 (dl [.v (.pointer (some ⟨bi1, 0, none⟩)), .v (.int .u32 (ixor .u32 s18.1 (ior .u32 (ior .u32 (ior .u32 (IntKind.u32.wrap q21) (ishl .u32 (IntKind.u32.wrap q26) 8)) (ishl .u32 (IntKind.u32.wrap q31) 16)) (ishl .u32 (IntKind.u32.wrap q36) 24)))), .v (.int .u32 (iand .u32 (ixor .u32 s18.1 (ior .u32 (ior .u32 (ior .u32 (IntKind.u32.wrap q21) (ishl .u32 (IntKind.u32.wrap q26) 8)) (ishl .u32 (IntKind.u32.wrap q31) 16)) (ishl .u32 (IntKind.u32.wrap q36) 24))) 255)), .v (.pointer (some ⟨bi1, 0, none⟩)), .v (.pointer (some ⟨bi1, 0 + 0, none⟩)), .v (.pointer (some ⟨bi1, 0 + 0 + (3 : Int).toNat * 256, none⟩)), .v (.pointer (some ⟨bi1, 0 + 0 + (3 : Int).toNat * 256 + (iand .u32 (ixor .u32 s18.1 (ior .u32 (ior .u32 (ior .u32 (IntKind.u32.wrap q21) (ishl .u32 (IntKind.u32.wrap q26) 8)) (ishl .u32 (IntKind.u32.wrap q31) 16)) (ishl .u32 (IntKind.u32.wrap q36) 24))) 255).toNat * 1, none⟩)), .v (.int .u32 (a0.getD (768 + (iand .u32 (ixor .u32 s18.1 (ior .u32 (ior .u32 (ior .u32 (IntKind.u32.wrap q21) (ishl .u32 (IntKind.u32.wrap q26) 8)) (ishl .u32 (IntKind.u32.wrap q31) 16)) (ishl .u32 (IntKind.u32.wrap q36) 24))) 255).toNat) 0)), .v (.pointer (some ⟨bi1, 0, none⟩)), .v (.int .u32 (ixor .u32 s18.1 (ior .u32 (ior .u32 (ior .u32 (IntKind.u32.wrap q21) (ishl .u32 (IntKind.u32.wrap q26) 8)) (ishl .u32 (IntKind.u32.wrap q31) 16)) (ishl .u32 (IntKind.u32.wrap q36) 24)))), .v (.int .u32 (ishr .u32 (ixor .u32 s18.1 (ior .u32 (ior .u32 (ior .u32 (IntKind.u32.wrap q21) (ishl .u32 (IntKind.u32.wrap q26) 8)) (ishl .u32 (IntKind.u32.wrap q31) 16)) (ishl .u32 (IntKind.u32.wrap q36) 24))) 8)), .v (.int .u32 (iand .u32 (ishr .u32 (ixor .u32 s18.1 (ior .u32 (ior .u32 (ior .u32 (IntKind.u32.wrap q21) (ishl .u32 (IntKind.u32.wrap q26) 8)) (ishl .u32 (IntKind.u32.wrap q31) 16)) (ishl .u32 (IntKind.u32.wrap q36) 24))) 8) 255)), .v (.pointer (some ⟨bi1, 0, none⟩)), .v (.pointer (some ⟨bi1, 0 + 0, none⟩)), .v (.pointer (some ⟨bi1, 0 + 0 + (2 : Int).toNat * 256, none⟩)), .v (.pointer (some ⟨bi1, 0 + 0 + (2 : Int).toNat * 256 + (iand .u32 (ishr .u32 (ixor .u32 s18.1 (ior .u32 (ior .u32 (ior .u32 (IntKind.u32.wrap q21) (ishl .u32 (IntKind.u32.wrap q26) 8)) (ishl .u32 (IntKind.u32.wrap q31) 16)) (ishl .u32 (IntKind.u32.wrap q36) 24))) 8) 255).toNat * 1, none⟩)), .v (.int .u32 (a0.getD (512 + (iand .u32 (ishr .u32 (ixor .u32 s18.1 (ior .u32 (ior .u32 (ior .u32 (IntKind.u32.wrap q21) (ishl .u32 (IntKind.u32.wrap q26) 8)) (ishl .u32 (IntKind.u32.wrap q31) 16)) (ishl .u32 (IntKind.u32.wrap q36) 24))) 8) 255).toNat) 0)), .v (.int .u32 (ixor .u32 (a0.getD (768 + (iand .u32 (ixor .u32 s18.1 (ior .u32 (ior .u32 (ior .u32 (IntKind.u32.wrap q21) (ishl .u32 (IntKind.u32.wrap q26) 8)) (ishl .u32 (IntKind.u32.wrap q31) 16)) (ishl .u32 (IntKind.u32.wrap q36) 24))) 255).toNat) 0) (a0.getD (512 + (iand .u32 (ishr .u32 (ixor .u32 s18.1 (ior .u32 (ior .u32 (ior .u32 (IntKind.u32.wrap q21) (ishl .u32 (IntKind.u32.wrap q26) 8)) (ishl .u32 (IntKind.u32.wrap q31) 16)) (ishl .u32 (IntKind.u32.wrap q36) 24))) 8) 255).toNat) 0))), .v (.pointer (some ⟨bi1, 0, none⟩)), .v (.int .u32 (ixor .u32 s18.1 (ior .u32 (ior .u32 (ior .u32 (IntKind.u32.wrap q21) (ishl .u32 (IntKind.u32.wrap q26) 8)) (ishl .u32 (IntKind.u32.wrap q31) 16)) (ishl .u32 (IntKind.u32.wrap q36) 24)))), .v (.int .u32 (ishr .u32 (ixor .u32 s18.1 (ior .u32 (ior .u32 (ior .u32 (IntKind.u32.wrap q21) (ishl .u32 (IntKind.u32.wrap q26) 8)) (ishl .u32 (IntKind.u32.wrap q31) 16)) (ishl .u32 (IntKind.u32.wrap q36) 24))) 16)), .v (.int .u32 (iand .u32 (ishr .u32 (ixor .u32 s18.1 (ior .u32 (ior .u32 (ior .u32 (IntKind.u32.wrap q21) (ishl .u32 (IntKind.u32.wrap q26) 8)) (ishl .u32 (IntKind.u32.wrap q31) 16)) (ishl .u32 (IntKind.u32.wrap q36) 24))) 16) 255)), .v (.pointer (some ⟨bi1, 0, none⟩)), .v (.pointer (some ⟨bi1, 0 + 0, none⟩)), .v (.pointer (some ⟨bi1, 0 + 0 + (1 : Int).toNat * 256, none⟩)), .v (.pointer (some ⟨bi1, 0 + 0 + (1 : Int).toNat * 256 + (iand .u32 (ishr .u32 (ixor .u32 s18.1 (ior .u32 (ior .u32 (ior .u32 (IntKind.u32.wrap q21) (ishl .u32 (IntKind.u32.wrap q26) 8)) (ishl .u32 (IntKind.u32.wrap q31) 16)) (ishl .u32 (IntKind.u32.wrap q36) 24))) 16) 255).toNat * 1, none⟩)), .v (.int .u32 (a0.getD (256 + (iand .u32 (ishr .u32 (ixor .u32 s18.1 (ior .u32 (ior .u32 (ior .u32 (IntKind.u32.wrap q21) (ishl .u32 (IntKind.u32.wrap q26) 8)) (ishl .u32 (IntKind.u32.wrap q31) 16)) (ishl .u32 (IntKind.u32.wrap q36) 24))) 16) 255).toNat) 0)), .v (.int .u32 (ixor .u32 (ixor .u32 (a0.getD (768 + (iand .u32 (ixor .u32 s18.1 (ior .u32 (ior .u32 (ior .u32 (IntKind.u32.wrap q21) (ishl .u32 (IntKind.u32.wrap q26) 8)) (ishl .u32 (IntKind.u32.wrap q31) 16)) (ishl .u32 (IntKind.u32.wrap q36) 24))) 255).toNat) 0) (a0.getD (512 + (iand .u32 (ishr .u32 (ixor .u32 s18.1 (ior .u32 (ior .u32 (ior .u32 (IntKind.u32.wrap q21) (ishl .u32 (IntKind.u32.wrap q26) 8)) (ishl .u32 (IntKind.u32.wrap q31) 16)) (ishl .u32 (IntKind.u32.wrap q36) 24))) 8) 255).toNat) 0)) (a0.getD (256 + (iand .u32 (ishr .u32 (ixor .u32 s18.1 (ior .u32 (ior .u32 (ior .u32 (IntKind.u32.wrap q21) (ishl .u32 (IntKind.u32.wrap q26) 8)) (ishl .u32 (IntKind.u32.wrap q31) 16)) (ishl .u32 (IntKind.u32.wrap q36) 24))) 16) 255).toNat) 0))), .v (.pointer (some ⟨bi1, 0, none⟩)), .v (.int .u32 (ixor .u32 s18.1 (ior .u32 (ior .u32 (ior .u32 (IntKind.u32.wrap q21) (ishl .u32 (IntKind.u32.wrap q26) 8)) (ishl .u32 (IntKind.u32.wrap q31) 16)) (ishl .u32 (IntKind.u32.wrap q36) 24)))), .v (.int .u32 (ishr .u32 (ixor .u32 s18.1 (ior .u32 (ior .u32 (ior .u32 (IntKind.u32.wrap q21) (ishl .u32 (IntKind.u32.wrap q26) 8)) (ishl .u32 (IntKind.u32.wrap q31) 16)) (ishl .u32 (IntKind.u32.wrap q36) 24))) 24)), .v (.pointer (some ⟨bi1, 0, none⟩)), .v (.pointer (some ⟨bi1, 0 + 0, none⟩)), .v (.pointer (some ⟨bi1, 0 + 0 + (0 : Int).toNat * 256, none⟩)), .v (.pointer (some ⟨bi1, 0 + 0 + (0 : Int).toNat * 256 + (ishr .u32 (ixor .u32 s18.1 (ior .u32 (ior .u32 (ior .u32 (IntKind.u32.wrap q21) (ishl .u32 (IntKind.u32.wrap q26) 8)) (ishl .u32 (IntKind.u32.wrap q31) 16)) (ishl .u32 (IntKind.u32.wrap q36) 24))) 24).toNat * 1, none⟩)), .v (.int .u32 (a0.getD ((ishr .u32 (ixor .u32 s18.1 (ior .u32 (ior .u32 (ior .u32 (IntKind.u32.wrap q21) (ishl .u32 (IntKind.u32.wrap q26) 8)) (ishl .u32 (IntKind.u32.wrap q31) 16)) (ishl .u32 (IntKind.u32.wrap q36) 24))) 24).toNat) 0)), .v (.int .u32 (ixor .u32 (ixor .u32 (ixor .u32 (a0.getD (768 + (iand .u32 (ixor .u32 s18.1 (ior .u32 (ior .u32 (ior .u32 (IntKind.u32.wrap q21) (ishl .u32 (IntKind.u32.wrap q26) 8)) (ishl .u32 (IntKind.u32.wrap q31) 16)) (ishl .u32 (IntKind.u32.wrap q36) 24))) 255).toNat) 0) (a0.getD (512 + (iand .u32 (ishr .u32 (ixor .u32 s18.1 (ior .u32 (ior .u32 (ior .u32 (IntKind.u32.wrap q21) (ishl .u32 (IntKind.u32.wrap q26) 8)) (ishl .u32 (IntKind.u32.wrap q31) 16)) (ishl .u32 (IntKind.u32.wrap q36) 24))) 8) 255).toNat) 0)) (a0.getD (256 + (iand .u32 (ishr .u32 (ixor .u32 s18.1 (ior .u32 (ior .u32 (ior .u32 (IntKind.u32.wrap q21) (ishl .u32 (IntKind.u32.wrap q26) 8)) (ishl .u32 (IntKind.u32.wrap q31) 16)) (ishl .u32 (IntKind.u32.wrap q36) 24))) 16) 255).toNat) 0)) (a0.getD ((ishr .u32 (ixor .u32 s18.1 (ior .u32 (ior .u32 (ior .u32 (IntKind.u32.wrap q21) (ishl .u32 (IntKind.u32.wrap q26) 8)) (ishl .u32 (IntKind.u32.wrap q31) 16)) (ishl .u32 (IntKind.u32.wrap q36) 24))) 24).toNat) 0)))]) (fun _ _ => []) z_mix rfl (dl_mono (by exact trivial)) (allB_cons (allB_cons (allB_cons (allB_cons (allB_cons (allB_cons (allB_cons (allB_cons (allB_cons (allB_cons (allB_cons (allB_cons (allB_cons (allB_cons (allB_cons (allB_cons (allB_cons (allB_cons (allB_cons (allB_cons (allB_cons (allB_cons (allB_cons (allB_cons (allB_cons (allB_cons (allB_cons (allB_cons (allB_cons (allB_cons (allB_cons (allB_cons (allB_cons (allB_cons (allB_cons (allB_cons (allB_cons allB_nil (p1 dA)) (p1 dA)) (p1 dA)) (p1 dA)) (p1 dA)) ?_) ?_) ?_) (p1 dA)) (p1 dA)) (p1 dA)) (p1 dA)) (p1 dA)) (p1 dA)) ?_) ?_) ?_) (p1 dA)) (p1 dA)) (p1 dA)) (p1 dA)) (p1 dA)) (p1 dA)) (p1 dA)) ?_) ?_) ?_) (p1 dA)) (p1 dA)) (p1 dA)) (p1 dA)) (p1 dA)) (p1 dA)) ?_) ?_) ?_) (p1 dA)) ?_
  ·intro ρ' τ pool rs hl hd hout hk
   obtain ⟨_, e4, rfl⟩ := hd 4 rfl
   refine o_indexA rfl rfl rfl z_arr127 e4 rfl (by decide) (by decide) ?_
   exact st_addNil (hk _ _ (Sto.Le.refl _) rfl)
  ·intro ρ' τ pool rs hl hd hout hk
   obtain ⟨_, e2, rfl⟩ := hd 2 rfl
   obtain ⟨_, e5, rfl⟩ := hd 5 rfl
   refine o_indexA rfl rfl rfl z_arr126 e5 e2 hf42 hf43 ?_
   exact st_addNil (hk _ _ (Sto.Le.refl _) rfl)
  ·intro ρ' τ pool rs hl hd hout hk
   obtain ⟨_, e6, rfl⟩ := hd 6 rfl
   refine o_loadI (v := .int .u32 (a0.getD (768 + (iand .u32 (ixor .u32 s18.1 (ior .u32 (ior .u32 (ior .u32 (IntKind.u32.wrap q21) (ishl .u32 (IntKind.u32.wrap q26) 8)) (ishl .u32 (IntKind.u32.wrap q31) 16)) (ishl .u32 (IntKind.u32.wrap q36) 24))) 255).toNat) 0)) rfl rfl rfl z_sc57 e6 (cel_big (q := (768 + (iand .u32 (ixor .u32 s18.1 (ior .u32 (ior .u32 (ior .u32 (IntKind.u32.wrap q21) (ishl .u32 (IntKind.u32.wrap q26) 8)) (ishl .u32 (IntKind.u32.wrap q31) 16)) (ishl .u32 (IntKind.u32.wrap q36) 24))) 255).toNat)) (hc2.up ((hl18.trans hl41).trans hl)) (by omega) (by omega)) ?_
   exact st_addNil (hk _ _ (Sto.Le.refl _) rfl)
  ·intro ρ' τ pool rs hl hd hout hk
   obtain ⟨_, e13, rfl⟩ := hd 13 rfl
   refine o_indexA rfl rfl rfl z_arr127 e13 rfl (by decide) (by decide) ?_
   exact st_addNil (hk _ _ (Sto.Le.refl _) rfl)
  ·intro ρ' τ pool rs hl hd hout hk
   obtain ⟨_, e11, rfl⟩ := hd 11 rfl
   obtain ⟨_, e14, rfl⟩ := hd 14 rfl
   refine o_indexA rfl rfl rfl z_arr126 e14 e11 hf44 hf45 ?_
   exact st_addNil (hk _ _ (Sto.Le.refl _) rfl)
  ·intro ρ' τ pool rs hl hd hout hk
   obtain ⟨_, e15, rfl⟩ := hd 15 rfl
   refine o_loadI (v := .int .u32 (a0.getD (512 + (iand .u32 (ishr .u32 (ixor .u32 s18.1 (ior .u32 (ior .u32 (ior .u32 (IntKind.u32.wrap q21) (ishl .u32 (IntKind.u32.wrap q26) 8)) (ishl .u32 (IntKind.u32.wrap q31) 16)) (ishl .u32 (IntKind.u32.wrap q36) 24))) 8) 255).toNat) 0)) rfl rfl rfl z_sc57 e15 (cel_big (q := (512 + (iand .u32 (ishr .u32 (ixor .u32 s18.1 (ior .u32 (ior .u32 (ior .u32 (IntKind.u32.wrap q21) (ishl .u32 (IntKind.u32.wrap q26) 8)) (ishl .u32 (IntKind.u32.wrap q31) 16)) (ishl .u32 (IntKind.u32.wrap q36) 24))) 8) 255).toNat)) (hc2.up ((hl18.trans hl41).trans hl)) (by omega) (by omega)) ?_
   exact st_addNil (hk _ _ (Sto.Le.refl _) rfl)
  ·intro ρ' τ pool rs hl hd hout hk
   obtain ⟨_, e23, rfl⟩ := hd 23 rfl
   refine o_indexA rfl rfl rfl z_arr127 e23 rfl (by decide) (by decide) ?_
   exact st_addNil (hk _ _ (Sto.Le.refl _) rfl)
  ·intro ρ' τ pool rs hl hd hout hk
   obtain ⟨_, e21, rfl⟩ := hd 21 rfl
   obtain ⟨_, e24, rfl⟩ := hd 24 rfl
   refine o_indexA rfl rfl rfl z_arr126 e24 e21 hf46 hf47 ?_
   exact st_addNil (hk _ _ (Sto.Le.refl _) rfl)
  ·intro ρ' τ pool rs hl hd hout hk
   obtain ⟨_, e25, rfl⟩ := hd 25 rfl
   refine o_loadI (v := .int .u32 (a0.getD (256 + (iand .u32 (ishr .u32 (ixor .u32 s18.1 (ior .u32 (ior .u32 (ior .u32 (IntKind.u32.wrap q21) (ishl .u32 (IntKind.u32.wrap q26) 8)) (ishl .u32 (IntKind.u32.wrap q31) 16)) (ishl .u32 (IntKind.u32.wrap q36) 24))) 16) 255).toNat) 0)) rfl rfl rfl z_sc57 e25 (cel_big (q := (256 + (iand .u32 (ishr .u32 (ixor .u32 s18.1 (ior .u32 (ior .u32 (ior .u32 (IntKind.u32.wrap q21) (ishl .u32 (IntKind.u32.wrap q26) 8)) (ishl .u32 (IntKind.u32.wrap q31) 16)) (ishl .u32 (IntKind.u32.wrap q36) 24))) 16) 255).toNat)) (hc2.up ((hl18.trans hl41).trans hl)) (by omega) (by omega)) ?_
   exact st_addNil (hk _ _ (Sto.Le.refl _) rfl)
  ·intro ρ' τ pool rs hl hd hout hk
   obtain ⟨_, e32, rfl⟩ := hd 32 rfl
   refine o_indexA rfl rfl rfl z_arr127 e32 rfl (by decide) (by decide) ?_
   exact st_addNil (hk _ _ (Sto.Le.refl _) rfl)
  ·intro ρ' τ pool rs hl hd hout hk
   obtain ⟨_, e30, rfl⟩ := hd 30 rfl
   obtain ⟨_, e33, rfl⟩ := hd 33 rfl
   refine o_indexA rfl rfl rfl z_arr126 e33 e30 hf48 hf49 ?_
   exact st_addNil (hk _ _ (Sto.Le.refl _) rfl)
  ·intro ρ' τ pool rs hl hd hout hk
   obtain ⟨_, e34, rfl⟩ := hd 34 rfl
   refine o_loadI (v := .int .u32 (a0.getD ((ishr .u32 (ixor .u32 s18.1 (ior .u32 (ior .u32 (ior .u32 (IntKind.u32.wrap q21) (ishl .u32 (IntKind.u32.wrap q26) 8)) (ishl .u32 (IntKind.u32.wrap q31) 16)) (ishl .u32 (IntKind.u32.wrap q36) 24))) 24).toNat) 0)) rfl rfl rfl z_sc57 e34 (cel_big (q := (ishr .u32 (ixor .u32 s18.1 (ior .u32 (ior .u32 (ior .u32 (IntKind.u32.wrap q21) (ishl .u32 (IntKind.u32.wrap q26) 8)) (ishl .u32 (IntKind.u32.wrap q31) 16)) (ishl .u32 (IntKind.u32.wrap q36) 24))) 24).toNat) (hc2.up ((hl18.trans hl41).trans hl)) (by omega) (by omega)) ?_
   exact st_addNil (hk _ _ (Sto.Le.refl _) rfl)
  intro ρ' τ50 vals hl50 hv hout
  refine st_ord [] _ rfl ?_
  refine st_env (ρ' := [(74, .int .u32 (ixor .u32 (ixor .u32 (ixor .u32 (a0.getD (768 + (iand .u32 (ixor .u32 s18.1 (ior .u32 (ior .u32 (ior .u32 (IntKind.u32.wrap q21) (ishl .u32 (IntKind.u32.wrap q26) 8)) (ishl .u32 (IntKind.u32.wrap q31) 16)) (ishl .u32 (IntKind.u32.wrap q36) 24))) 255).toNat) 0) (a0.getD (512 + (iand .u32 (ishr .u32 (ixor .u32 s18.1 (ior .u32 (ior .u32 (ior .u32 (IntKind.u32.wrap q21) (ishl .u32 (IntKind.u32.wrap q26) 8)) (ishl .u32 (IntKind.u32.wrap q31) 16)) (ishl .u32 (IntKind.u32.wrap q36) 24))) 8) 255).toNat) 0)) (a0.getD (256 + (iand .u32 (ishr .u32 (ixor .u32 s18.1 (ior .u32 (ior .u32 (ior .u32 (IntKind.u32.wrap q21) (ishl .u32 (IntKind.u32.wrap q26) 8)) (ishl .u32 (IntKind.u32.wrap q31) 16)) (ishl .u32 (IntKind.u32.wrap q36) 24))) 16) 255).toNat) 0)) (a0.getD ((ishr .u32 (ixor .u32 s18.1 (ior .u32 (ior .u32 (ior .u32 (IntKind.u32.wrap q21) (ishl .u32 (IntKind.u32.wrap q26) 8)) (ishl .u32 (IntKind.u32.wrap q31) 16)) (ishl .u32 (IntKind.u32.wrap q36) 24))) 24).toNat) 0))), (0, .pointer (some ⟨bi1, 0, none⟩)), (2, v19), (6, .int .u32 0)]) ⟨(lv1 hv 36 rfl rfl), (hout 0 rfl).trans rfl, (hout 2 rfl).trans rfl, (hout 6 rfl).trans rfl, trivial⟩ ?_
  refine Z 4 rfl ?_
  obtain ⟨hf51, hf52, h⟩ := h
  refine o_slice (L := 4) (H := (s18.2.length : Int)) rfl rfl rfl z_slT23 rfl rfl (hs20.up (hl41.trans hl50)) ⟨_, rfl⟩ rfl (by decide) hf51 hf52 trivial (by simp) (fun v53 hs54 => ?_)
  refine Z 3 rfl ?_
  exact hn18 _ _ _ _ h ⟨((hl18.trans hl41).trans hl50), _, rfl, rfl, hs54⟩
theorem crc_Table_End_ok {a0 : List Int} {a1 : Int} {bi1 : Nat} {r : Int} (h : crc_Table_End a0 a1 r) (σ : Sto) (hc2 : CelN σ ⟨bi1, 0, none⟩ (cellsN (Value.int .u32) 0 1024 a0)) :
    Does Tryz.prog 127 [.pointer (some ⟨bi1, 0, none⟩), .int .u32 a1] σ [] (fun v τ gs => gs = [] ∧ .int .u32 r = v) := by
 refine call_of Tryz.func127 Tryz.ntmps127 rfl rfl (fun cs fs => ?_)
 refine Z 18 rfl ?_
 obtain rfl := Eq.symm h
 exact st_ret (gs' := []) Tryz.func127 rfl (List.Sublist.refl _) (Sto.Le.refl _) ⟨rfl, rfl⟩
theorem crc_Table_Sum_ok {a0 : List Int} {a1 : List (List Int)} {bi1 : Nat} {v3 : Value} {r : Int} (h : crc_Table_Sum a0 a1 r) (σ : Sto) (hc2 : CelN σ ⟨bi1, 0, none⟩ (cellsN (Value.int .u32) 0 1024 a0)) (hs4 : Sl (kSl (kI .u8)) σ v3 a1) :
    Does Tryz.prog 99 [.pointer (some ⟨bi1, 0, none⟩), v3] σ [] (fun v τ gs => gs = [] ∧ .int .u32 r = v) := by
 refine call_of Tryz.func99 Tryz.ntmps99 rfl rfl (fun cs fs => ?_)
 refine Z 7 rfl ?_
 obtain ⟨r5, hr6, h⟩ := h
 refine st_call (foot := []) rfl rfl rfl rfl rfl rfl (callV_fn z_en125 (crc_Table_Begin_ok hr6 σ hc2)) ?_
 rintro vτ7 τ7 gsτ7 hl8 ⟨rfl, rfl⟩
 refine Z 3 rfl ?_
 refine st_cut (fun ρ τ9 gs => ∃ (s9 : Int), crc_Table_Sum_j1 a0 s9 r ∧ τ7.Le τ9 ∧ ESub ρ [(0, .pointer (some ⟨bi1, 0, none⟩)), (4, .int .u32 0), (5, .int .u32 s9)] ∧ gs = []) ?_ (fun hk9 => ?_)
 ·rintro ρ9 τ9 gs9 ⟨s9, h, hl9, hρ, rfl⟩
  refine st_es hρ ?_
  refine Z 4 rfl ?_
  obtain ⟨r10, hr11, h⟩ := h
  refine st_call (foot := []) rfl rfl rfl rfl rfl rfl (callV_fn z_en127 (crc_Table_End_ok hr11 τ9 (hc2.up (hl8.trans hl9)))) ?_
  rintro vτ12 τ12 gsτ12 hl13 ⟨rfl, rfl⟩
  refine Z 2 rfl ?_
  obtain rfl := Eq.symm h
  exact st_ret (gs' := []) Tryz.func99 rfl (List.Sublist.refl _) ((hl8.trans hl9).trans hl13) ⟨rfl, rfl⟩
 refine Z 3 rfl ?_
 refine o_lenI rfl rfl rfl z_slT22 rfl (hs4.up hl8) ?_
 refine Z 2 rfl ?_
 obtain ⟨e14, hL14, hA14⟩ := h
 refine st_loop hL14 (fun (s14 : Int × Int) ρ τ14 gs => τ7.Le τ14 ∧ ESub ρ [(0, .pointer (some ⟨bi1, 0, none⟩)), (4, .int .u32 0), (5, .int .u32 s14.1), (10, v3), (11, .int .i64 (a1.length : Int)), (12, .int .i64 s14.2)] ∧ gs = []) ⟨Sto.Le.refl _, rfl, rfl⟩ ?_
 rintro s14 o14 h he14 ρ14 τ14 gs14 ⟨hl14, hρ, rfl⟩ hn14
 refine st_es hρ ?_
 refine Z 5 rfl ?_
 refine st_if rfl h (fun h => ?_) (fun h => ?_)
 ·refine Z 5 rfl ?_
  obtain ⟨q15, hf16, h⟩ := h
  refine o_index rfl rfl rfl z_slT22 rfl rfl (hs4.up (hl8.trans hl14)) rfl hf16 (fun b17 of18 vs hc20 hrep => ?_)
  obtain ⟨v19, rfl, hs21⟩ := hrep
  refine o_loadI (v := v19) rfl rfl rfl z_sc23 rfl (hc20 0 _ rfl) ?_
  refine Z 6 rfl ?_
  obtain ⟨r22, hr23, h⟩ := h
  refine st_call (foot := []) rfl rfl rfl rfl rfl rfl (callV_fn z_en126 (crc_Table_Add_ok hr23 τ14 (hc2.up (hl8.trans hl14)) hs21)) ?_
  rintro vτ24 τ24 gsτ24 hl25 ⟨rfl, rfl⟩
  refine Z 7 rfl ?_
  exact hn14 _ _ _ _ h ⟨(hl14.trans hl25), rfl, rfl⟩
 ·refine st_exit rfl ?_
  obtain rfl := he14 _ h
  replace h := hA14
  exact hk9 _ _ _ ⟨s14.1, h, hl14, rfl, rfl⟩
theorem crc_bytes_ok {a0 : Int} {r : List Int} (h : crc_bytes a0 r) (σ : Sto)  :
    Does Tryz.prog 98 [.int .u32 a0] σ [] (fun v τ gs => gs = [] ∧ .agg [.int .u8 (r.getD 0 0), .int .u8 (r.getD 1 0), .int .u8 (r.getD 2 0), .int .u8 (r.getD 3 0)].toArray = v) := by
 refine call_of Tryz.func98 Tryz.ntmps98 rfl rfl (fun cs fs => ?_)
 refine Z 2 rfl ?_
 refine o_alloc rfl rfl rfl z_zero184 (fun b1 => ?_)
 refine Z 14 rfl ?_
 refine o_buildA (ps := [(0, [.int .u8 (IntKind.u8.wrap a0)]), (1, [.int .u8 (IntKind.u8.wrap (ishr .u32 a0 8))]), (2, [.int .u8 (IntKind.u8.wrap (ishr .u32 a0 16))]), (3, [.int .u8 (IntKind.u8.wrap (ishr .u32 a0 24))])]) (cs := [.int .u8 (IntKind.u8.wrap a0), .int .u8 (IntKind.u8.wrap (ishr .u32 a0 8)), .int .u8 (IntKind.u8.wrap (ishr .u32 a0 16)), .int .u8 (IntKind.u8.wrap (ishr .u32 a0 24))]) rfl rfl rfl z_arrz184 ⟨rfl, ⟨_, rfl, rfl⟩, ⟨rfl, ⟨_, rfl, rfl⟩, ⟨rfl, ⟨_, rfl, rfl⟩, ⟨rfl, ⟨_, rfl, rfl⟩, trivial⟩⟩⟩⟩ (fill_all [.int .u8 (IntKind.u8.wrap a0), .int .u8 (IntKind.u8.wrap (ishr .u32 a0 8)), .int .u8 (IntKind.u8.wrap (ishr .u32 a0 16)), .int .u8 (IntKind.u8.wrap (ishr .u32 a0 24))] _ rfl) ?_
 refine ZZ 2 [0] rfl rfl ?_
 obtain rfl := Eq.symm h
 exact st_retC (gs' := []) [.agg #[.int .u8 (IntKind.u8.wrap a0), .int .u8 (IntKind.u8.wrap (ishr .u32 a0 8)), .int .u8 (IntKind.u8.wrap (ishr .u32 a0 16)), .int .u8 (IntKind.u8.wrap (ishr .u32 a0 24))]] Tryz.func98 ⟨⟨_, _, _, _, rfl, mem_flat 0 rfl, fun w hw => cellOfN (vs := [.int .u8 (IntKind.u8.wrap a0), .int .u8 (IntKind.u8.wrap (ishr .u32 a0 8)), .int .u8 (IntKind.u8.wrap (ishr .u32 a0 16)), .int .u8 (IntKind.u8.wrap (ishr .u32 a0 24))]) z_agg184 rfl w hw⟩, trivial⟩ (by simp) (Sto.Le.refl _) ⟨rfl, rfl⟩
theorem crc_Open_ok {a0 : List Int} {a1 : List Int} {bi1 : Nat} {v3 : Value} {r : List Int × Int} (h : crc_Open a0 a1 r) (σ : Sto) (hc2 : CelN σ ⟨bi1, 0, none⟩ (cellsN (Value.int .u32) 0 1024 a0)) (hs4 : Sl (kI .u8) σ v3 a1) :
    Does Tryz.prog 62 [.pointer (some ⟨bi1, 0, none⟩), v3] σ [] (fun v τ gs => ∃ (v49 : Value), gs = [] ∧ .tuple [v49, .int .i64 r.2].toArray = v ∧ Sl (kI .u8) τ v49 r.1) := by
 refine call_of Tryz.func62 Tryz.ntmps62 rfl rfl (fun cs fs => ?_)
 refine Z 8 rfl ?_
 refine o_lenI rfl rfl rfl z_slT23 rfl hs4 ?_
 refine Z 18 rfl ?_
 refine st_if rfl h (fun h => ?_) (fun h => ?_)
 ·refine Z 5 rfl ?_
  obtain rfl := Eq.symm h
  exact st_ret (gs' := []) Tryz.func62 rfl (List.Sublist.refl _) (Sto.Le.refl _) ⟨_, rfl, rfl, Sl.nil⟩
 ·refine Z 7 rfl ?_
  obtain ⟨hf5, hf6, hf7, hf8, h⟩ := h
  refine o_slice (L := 0) (H := (IntKind.i64.wrap ((a1.length : Int) - 4))) rfl rfl rfl z_slT23 rfl rfl hs4 rfl ⟨_, rfl⟩ (by decide) hf5 hf6 ⟨_, _, rfl, hf7, hf8⟩ (by simp) (fun v9 hs10 => ?_)
  refine Z 4 rfl ?_
  obtain ⟨r18, hr19, r22, hr23, hf26, hf27, hf28, hf31, h⟩ := h
  refine st_draw 11 (dl [.v (.pointer (some ⟨bi1, 0, none⟩)), .v (v9), .t fun τ v => ∃ (v11 : Value), (v11 : Value) = v ∧ Sl (kSl (kI .u8)) τ v11 [((a1.drop (0 : Int).toNat).take (((IntKind.i64.wrap ((a1.length : Int) - 4)) : Int) - 0).toNat)], .v (.int .u32 r18), .v (.agg #[.int .u8 (r22.getD 0 0), .int .u8 (r22.getD 1 0), .int .u8 (r22.getD 2 0), .int .u8 (r22.getD 3 0)]), .v (v3), .v (.int .i64 (IntKind.i64.wrap ((a1.length : Int) - 4))), .t fun τ v => ∃ (v29 : Value), (v29 : Value) = v ∧ Sl (kI .u8) τ v29 ((a1.drop (IntKind.i64.wrap ((a1.length : Int) - 4)).toNat).take (((a1.length : Int) : Int) - (IntKind.i64.wrap ((a1.length : Int) - 4))).toNat), .t fun τ v => ∃ (b32 : Nat) (of33 : Nat) (vsb32 : List Value), (.pointer (some ⟨b32, of33, none⟩) : Value) = v ∧ CelN τ ⟨b32, of33, none⟩ vsb32 ∧ (kA .u8 4).rep τ vsb32 ((a1.drop (IntKind.i64.wrap ((a1.length : Int) - 4)).toNat).take (((a1.length : Int) : Int) - (IntKind.i64.wrap ((a1.length : Int) - 4))).toNat), .v (.agg #[.int .u8 (((a1.drop (IntKind.i64.wrap ((a1.length : Int) - 4)).toNat).take (((a1.length : Int) : Int) - (IntKind.i64.wrap ((a1.length : Int) - 4))).toNat).getD 0 0), .int .u8 (((a1.drop (IntKind.i64.wrap ((a1.length : Int) - 4)).toNat).take (((a1.length : Int) : Int) - (IntKind.i64.wrap ((a1.length : Int) - 4))).toNat).getD 1 0), .int .u8 (((a1.drop (IntKind.i64.wrap ((a1.length : Int) - 4)).toNat).take (((a1.length : Int) : Int) - (IntKind.i64.wrap ((a1.length : Int) - 4))).toNat).getD 2 0), .int .u8 (((a1.drop (IntKind.i64.wrap ((a1.length : Int) - 4)).toNat).take (((a1.length : Int) : Int) - (IntKind.i64.wrap ((a1.length : Int) - 4))).toNat).getD 3 0)]), .v (.bool (!(eqN 4 0 r22 ((a1.drop (IntKind.i64.wrap ((a1.length : Int) - 4)).toNat).take (((a1.length : Int) : Int) - (IntKind.i64.wrap ((a1.length : Int) - 4))).toNat))))]) (fun _ _ => []) z_mix rfl (dl_mono ⟨fun _ _ _ hl ⟨v11, hv, hs17⟩ => ⟨v11, hv, hs17.up hl⟩, ⟨fun _ _ _ hl ⟨v29, hv, hs30⟩ => ⟨v29, hv, hs30.up hl⟩, ⟨fun _ _ _ hl ⟨b32, of33, vsb32, hv, hc34, hrepb32⟩ => ⟨b32, of33, vsb32, hv, hc34.up hl, Kd.mono _ hl hrepb32⟩, trivial⟩⟩⟩) (allB_cons (allB_cons (allB_cons (allB_cons (allB_cons (allB_cons (allB_cons (allB_cons (allB_cons (allB_cons (allB_cons allB_nil (p1 dA)) (p1 dA)) ?_) ?_) ?_) (p1 dA)) (p1 dA)) ?_) ?_) ?_) ?_) ?_
  ·intro ρ' τ pool rs hl hd hout hk
   obtain ⟨_, e1, rfl⟩ := hd 1 rfl
   refine o_lit (dk := (kSl (kI .u8))) (xs := [((a1.drop (0 : Int).toNat).take (((IntKind.i64.wrap ((a1.length : Int) - 4)) : Int) - 0).toNat)]) (ps := [(0, [v9])]) (cs := [v9]) rfl rfl rfl z_slT22 z_zero23 ⟨rfl, ⟨_, e1, (oneL_sl (hs10.up hl))⟩, trivial⟩ rfl rfl rfl rfl (Kd.Many.cons (d := (kSl (kI .u8))) (x := ((a1.drop (0 : Int).toNat).take (((IntKind.i64.wrap ((a1.length : Int) - 4)) : Int) - 0).toNat)) (a := [v9]) ⟨_, rfl, (hs10.up hl)⟩ Kd.Many.nil) (fun v11 g12 ho13 => ?_)
   refine st_freeze (fun τ14 hl15 hg16 => ?_)
   have hs17 := ho13.freeze hl15 hg16
   exact st_addNil (hk _ _ hl15 ⟨v11, rfl, hs17⟩)
  ·intro ρ' τ pool rs hl hd hout hk
   obtain ⟨_, e0, rfl⟩ := hd 0 rfl
   obtain ⟨_, e2, v11, rfl, hs17⟩ := hd 2 rfl
   refine st_call (foot := []) rfl rfl rfl rfl (evs_cons e0 (evs_cons e2 rfl)) rfl (callV_fn z_en99 (crc_Table_Sum_ok hr19 τ (hc2.up hl) hs17)) ?_
   rintro vτ20 τ20 gsτ20 hl21 ⟨rfl, rfl⟩
   exact st_addNil (hk _ _ hl21 rfl)
  ·intro ρ' τ pool rs hl hd hout hk
   obtain ⟨_, e3, rfl⟩ := hd 3 rfl
   refine st_call (foot := []) rfl rfl rfl rfl (evs_cons e3 rfl) rfl (callV_fn z_en98 (crc_bytes_ok hr23 τ)) ?_
   rintro vτ24 τ24 gsτ24 hl25 ⟨rfl, rfl⟩
   exact st_addNil (hk _ _ hl25 rfl)
  ·intro ρ' τ pool rs hl hd hout hk
   obtain ⟨_, e5, rfl⟩ := hd 5 rfl
   obtain ⟨_, e6, rfl⟩ := hd 6 rfl
   refine o_slice (L := (IntKind.i64.wrap ((a1.length : Int) - 4))) (H := (a1.length : Int)) rfl rfl rfl z_slT23 rfl e5 (hs4.up hl) ⟨_, e6⟩ rfl hf26 hf27 hf28 trivial (by simp) (fun v29 hs30 => ?_)
   exact st_addNil (hk _ _ (Sto.Le.refl _) ⟨v29, rfl, hs30⟩)
  ·intro ρ' τ pool rs hl hd hout hk
   obtain ⟨_, e7, v29, rfl, hs30⟩ := hd 7 rfl
   refine o_toArr (dk := (kI .u8)) rfl rfl rfl z_arr184 e7 hs30 rfl hf31 (fun b32 of33 csb32 hcsb32 hmb32 => ?_)
   obtain ⟨vsb32, hc34, hrepb32⟩ : ∃ vs, CelN τ ⟨b32, of33, none⟩ vs ∧ Kd.rep (kA .u8 4) τ vs ((a1.drop (IntKind.i64.wrap ((a1.length : Int) - 4)).toNat).take (((a1.length : Int) : Int) - (IntKind.i64.wrap ((a1.length : Int) - 4))).toNat) := ⟨_, celn_arr hcsb32 hmb32 hf31, rfl⟩
   exact st_addNil (hk _ _ (Sto.Le.refl _) ⟨b32, of33, _, rfl, hc34, hrepb32⟩)
  ·intro ρ' τ pool rs hl hd hout hk
   obtain ⟨_, e8, b32, of33, vsb32, rfl, hc34, hrepb32⟩ := hd 8 rfl
   have hrepb32 := hrepb32
   obtain rfl := hrepb32
   refine o_loadIN (vs := [.int .u8 (((a1.drop (IntKind.i64.wrap ((a1.length : Int) - 4)).toNat).take (((a1.length : Int) : Int) - (IntKind.i64.wrap ((a1.length : Int) - 4))).toNat).getD 0 0), .int .u8 (((a1.drop (IntKind.i64.wrap ((a1.length : Int) - 4)).toNat).take (((a1.length : Int) : Int) - (IntKind.i64.wrap ((a1.length : Int) - 4))).toNat).getD 1 0), .int .u8 (((a1.drop (IntKind.i64.wrap ((a1.length : Int) - 4)).toNat).take (((a1.length : Int) : Int) - (IntKind.i64.wrap ((a1.length : Int) - 4))).toNat).getD 2 0), .int .u8 (((a1.drop (IntKind.i64.wrap ((a1.length : Int) - 4)).toNat).take (((a1.length : Int) : Int) - (IntKind.i64.wrap ((a1.length : Int) - 4))).toNat).getD 3 0)]) rfl rfl rfl z_agg184 e8 rfl (celn_part 0 rfl hc34) ?_
   exact st_addNil (hk _ _ (Sto.Le.refl _) rfl)
  ·intro ρ' τ pool rs hl hd hout hk
   obtain ⟨_, e4, rfl⟩ := hd 4 rfl
   obtain ⟨_, e9, rfl⟩ := hd 9 rfl
   refine o_aggEq (b := (eqN 4 0 r22 ((a1.drop (IntKind.i64.wrap ((a1.length : Int) - 4)).toNat).take (((a1.length : Int) : Int) - (IntKind.i64.wrap ((a1.length : Int) - 4))).toNat))) (e := (!(eqN 4 0 r22 ((a1.drop (IntKind.i64.wrap ((a1.length : Int) - 4)).toNat).take (((a1.length : Int) : Int) - (IntKind.i64.wrap ((a1.length : Int) - 4))).toNat)))) rfl rfl rfl z_eqg184 e4 e9 (fun w => by exact eq_arr (xs := r22) (ys := ((a1.drop (IntKind.i64.wrap ((a1.length : Int) - 4)).toNat).take (((a1.length : Int) : Int) - (IntKind.i64.wrap ((a1.length : Int) - 4))).toNat)) Tryz.underlying184 Tryz.underlying5 z_info5 z_cell5) rfl ?_
   exact st_addNil (hk _ _ (Sto.Le.refl _) rfl)
  intro ρ' τ35 vals hl35 hv hout
  refine st_ord [] _ rfl ?_
  refine st_env (ρ' := [(31, .bool (!(eqN 4 0 r22 ((a1.drop (IntKind.i64.wrap ((a1.length : Int) - 4)).toNat).take (((a1.length : Int) : Int) - (IntKind.i64.wrap ((a1.length : Int) - 4))).toNat)))), (4, .slice none 0 0), (5, .int .i64 0), (7, v9)]) ⟨(lv1 hv 10 rfl rfl), (hout 4 rfl).trans rfl, (hout 5 rfl).trans rfl, (hout 7 rfl).trans rfl, trivial⟩ ?_
  refine st_end ?_
  refine st_if rfl h (fun h => ?_) (fun h => ?_)
  ·refine Z 5 rfl ?_
   obtain rfl := Eq.symm h
   exact st_ret (gs' := []) Tryz.func62 rfl (List.Sublist.refl _) hl35 ⟨_, rfl, rfl, Sl.nil⟩
  ·refine Z 3 rfl ?_
   refine o_lit (dk := (kI .u8)) (xs := ([] : List Int)) (ps := []) (cs := []) rfl rfl rfl z_slT23 z_zero5 trivial rfl rfl rfl rfl Kd.Many.nil (fun v36 g37 ho38 => ?_)
   refine o_move rfl rfl rfl rfl ?_
   obtain ⟨hf42, hf43, h⟩ := h
   refine o_append (dk := (kI .u8)) (xs := ([] : List Int)) (ys := ((a1.drop (0 : Int).toNat).take (((IntKind.i64.wrap ((a1.length : Int) - 4)) : Int) - 0).toNat)) rfl rfl rfl rfl z_slT23 rfl ho38 rfl (Sl.src (hs10.up hl35)) hf42 hf43 (fun v39 g40 ho41 => ?_)
   refine Z 3 rfl ?_
   refine st_freeze (fun τ44 hl45 hg46 => ?_)
   have hs47 := ho41.freeze hl45 hg46
   obtain rfl := Eq.symm h
   exact st_ret (gs' := []) Tryz.func62 rfl (List.Sublist.refl _) (hl35.trans hl45) ⟨_, rfl, rfl, hs47⟩
theorem lens_New_ok {a0 : List Int} {v1 : Value} {r : (List Int × Int × Int)} (h : lens_New a0 r) (σ : Sto) (hs2 : Sl (kI .u8) σ v1 a0) :
    Does Tryz.prog 100 [v1] σ [] (fun v τ gs => ∃ (b15 : Nat) (v16 : Value), gs = [[(b15, .cells [v16, .int .i64 r.2.1, .int .i64 r.2.2].toArray 225 (0, 0))]] ∧ .pointer (some ⟨b15, 0, none⟩) = v ∧ Sl (kI .u8) τ v16 r.1) := by
 refine call_of Tryz.func100 Tryz.ntmps100 rfl rfl (fun cs fs => ?_)
 refine Z 7 rfl ?_
 obtain ⟨hf6, hf7, h⟩ := h
 refine st_addNil ?_
 refine o_append (dk := (kI .u8)) (xs := ([] : List Int)) (ys := a0) rfl rfl rfl rfl z_slT23 rfl Ow.nil rfl (Sl.src hs2) hf6 hf7 (fun v3 g4 ho5 => ?_)
 refine o_build (ps := [(0, [v3])]) (cs := [v3, .int .i64 0, .int .i64 0]) rfl rfl rfl z_struct225 ⟨rfl, ⟨_, rfl, (oneL_ow ho5)⟩, trivial⟩ rfl ?_
 refine o_box (cs := [v3, .int .i64 0, .int .i64 0]) rfl rfl rfl rfl rfl (fun b8 => ?_)
 refine Z 2 rfl ?_
 refine st_ord [1, 0] _ rfl ?_
 refine st_freeze (fun τ9 hl10 hg11 => ?_)
 have hs12 := ho5.freeze hl10 hg11
 obtain rfl := Eq.symm h
 exact st_ret (gs' := [[(b8, .cells #[v3, .int .i64 0, .int .i64 0] 225 (0, 0))]]) Tryz.func100 rfl (List.Sublist.refl _) hl10 ⟨_, _, rfl, rfl, hs12⟩
theorem lens_Lens_left_ok {a0 : List Int × Int × Int} {ba0 : Nat} {v1 : Value} {r : List Int} (h : lens_Lens_left a0 r) (σ : Sto) (hs2 : Sl (kI .u8) σ v1 a0.1) :
    Does Tryz.prog 155 [.pointer (some ⟨ba0, 0, none⟩)] σ [[(ba0, .cells [v1, .int .i64 a0.2.1, .int .i64 a0.2.2].toArray 225 (0, 0))]] (fun v τ gs => ∃ (v11 : Value), gs = [[(ba0, .cells [v1, .int .i64 a0.2.1, .int .i64 a0.2.2].toArray 225 (0, 0))]] ∧ v11 = v ∧ Sl (kI .u8) τ v11 r) := by
 refine call_of Tryz.func155 Tryz.ntmps155 rfl rfl (fun cs fs => ?_)
 refine Z 5 rfl ?_
 obtain ⟨hf3, hf4, hf5, hf6, hf7, h⟩ := h
 refine st_draw 19 (dl [.v (.pointer (some ⟨ba0, 0, none⟩)), .v (.pointer (some ⟨ba0, 0, none⟩)), .v (.pointer (some ⟨ba0, 0, none⟩)), .v (v1), .v (.pointer (some ⟨ba0, 0, none⟩)), .v (.pointer (some ⟨ba0, 0, none⟩)), .v (.pointer (some ⟨ba0, 1, none⟩)), .v (.int .i64 a0.2.1), .v (.pointer (some ⟨ba0, 0, none⟩)), .v (.pointer (some ⟨ba0, 0, none⟩)), .v (.pointer (some ⟨ba0, 0, none⟩)), .v (v1), .v (.int .i64 (a0.1.length : Int)), .v (.pointer (some ⟨ba0, 0, none⟩)), .v (.pointer (some ⟨ba0, 0, none⟩)), .v (.pointer (some ⟨ba0, 0, none⟩)), .v (v1), .v (.int .i64 (a0.1.length : Int)), .t fun τ v => ∃ (v8 : Value), (v8 : Value) = v ∧ Sl (kI .u8) τ v8 ((a0.1.drop a0.2.1.toNat).take (((a0.1.length : Int) : Int) - a0.2.1).toNat)]) (fun _ _ => []) z_mix rfl (dl_mono ⟨fun _ _ _ hl ⟨v8, hv, hs9⟩ => ⟨v8, hv, hs9.up hl⟩, trivial⟩) (allB_cons (allB_cons (allB_cons (allB_cons (allB_cons (allB_cons (allB_cons (allB_cons (allB_cons (allB_cons (allB_cons (allB_cons (allB_cons (allB_cons (allB_cons (allB_cons (allB_cons (allB_cons (allB_cons allB_nil (p1 dA)) (p1 dA)) (p1 dA)) ?_) (p1 dA)) (p1 dA)) (p1 dA)) ?_) (p1 dA)) (p1 dA)) (p1 dA)) ?_) ?_) (p1 dA)) (p1 dA)) (p1 dA)) ?_) ?_) ?_) ?_
 ·intro ρ' τ pool rs hl hd hout hk
  obtain ⟨_, e2, rfl⟩ := hd 2 rfl
  refine o_load (j := 0) (v := v1) rfl rfl rfl z_sc23 e2 rfl rfl ?_
  exact st_addNil (hk _ _ (Sto.Le.refl _) rfl)
 ·intro ρ' τ pool rs hl hd hout hk
  obtain ⟨_, e6, rfl⟩ := hd 6 rfl
  refine o_load (j := 0) (v := .int .i64 a0.2.1) rfl rfl rfl z_sc3 e6 rfl rfl ?_
  exact st_addNil (hk _ _ (Sto.Le.refl _) rfl)
 ·intro ρ' τ pool rs hl hd hout hk
  obtain ⟨_, e10, rfl⟩ := hd 10 rfl
  refine o_load (j := 0) (v := v1) rfl rfl rfl z_sc23 e10 rfl rfl ?_
  exact st_addNil (hk _ _ (Sto.Le.refl _) rfl)
 ·intro ρ' τ pool rs hl hd hout hk
  obtain ⟨_, e11, rfl⟩ := hd 11 rfl
  refine o_lenI rfl rfl rfl z_slT23 e11 (hs2.up hl) ?_
  exact st_addNil (hk _ _ (Sto.Le.refl _) rfl)
 ·intro ρ' τ pool rs hl hd hout hk
  obtain ⟨_, e15, rfl⟩ := hd 15 rfl
  refine o_load (j := 0) (v := v1) rfl rfl rfl z_sc23 e15 rfl rfl ?_
  exact st_addNil (hk _ _ (Sto.Le.refl _) rfl)
 ·intro ρ' τ pool rs hl hd hout hk
  obtain ⟨_, e16, rfl⟩ := hd 16 rfl
  refine o_lenI rfl rfl rfl z_slT23 e16 (hs2.up hl) ?_
  exact st_addNil (hk _ _ (Sto.Le.refl _) rfl)
 ·intro ρ' τ pool rs hl hd hout hk
  obtain ⟨_, e3, rfl⟩ := hd 3 rfl
  obtain ⟨_, e7, rfl⟩ := hd 7 rfl
  obtain ⟨_, e12, rfl⟩ := hd 12 rfl
  obtain ⟨_, e17, rfl⟩ := hd 17 rfl
  refine o_slice (L := a0.2.1) (H := (a0.1.length : Int)) rfl rfl rfl z_slT23 rfl e3 (hs2.up hl) ⟨_, e7⟩ ⟨_, e12⟩ hf3 hf4 hf5 ⟨_, _, e17, hf6, hf7⟩ (by simp) (fun v8 hs9 => ?_)
  exact st_addNil (hk _ _ (Sto.Le.refl _) ⟨v8, rfl, hs9⟩)
 intro ρ' τ10 vals hl10 hv hout
 obtain ⟨l18, v8, t18, hs9⟩ := hv 18 (by decide)
 replace l18 : Eng.look ρ' 21 = some (v8) := l18.trans (congrArg some (Eq.symm t18))
 refine st_ord [0] _ rfl ?_
 refine st_env (ρ' := [(21, v8), (2, .slice none 0 0)]) ⟨l18, (hout 2 rfl).trans rfl, trivial⟩ ?_
 refine Z 2 rfl ?_
 obtain rfl := Eq.symm h
 exact st_ret (gs' := [[(ba0, .cells #[v1, .int .i64 a0.2.1, .int .i64 a0.2.2] 225 (0, 0))]]) Tryz.func155 rfl (List.Sublist.refl _) hl10 ⟨_, rfl, rfl, hs9⟩
theorem slices_Backward_byte_byte_1_ok {c0 : List Int} {bc0 : Nat} {v1 : Value} {σ0 : Sto} (hc0_0 : Cel σ0 ⟨bc0, 0, none⟩ (v1)) (hs2 : Sl (kI .u8) σ0 v1 c0) :
    IterV Tryz.prog (fun _ x vx => vx = [.int .i64 x.1, .int .u8 x.2]) (.func (.func 172) #[] [.pointer (some ⟨bc0, 0, none⟩)].toArray) σ0 [] (fun (_ : Unit) _ f => f = []) (slices_Backward_byte_byte_1 c0) := by
 intro S Y I y hyc hyo hIm hY s s' o hR σ g hle hIg
 obtain ⟨r, hr0⟩ : ∃ r, r = (s', o) := ⟨_, rfl⟩
 rw [← hr0] at hR
 have h := hR
 refine callV_of (caps := [.pointer (some ⟨bc0, 0, none⟩)]) z_en172 ?_
 refine call_of Tryz.func172 Tryz.ntmps172 rfl rfl (fun cs fs => ?_)
 refine st_ord [0] _ rfl ?_
 refine Z 2 rfl ?_
 refine o_loadI (v := v1) rfl rfl rfl z_sc23 rfl (Cel.up hc0_0 hle) ?_
 refine o_lenI rfl rfl rfl z_slT23 rfl (hs2.up hle) ?_
 refine Z 3 rfl ?_
 obtain ⟨e3, hL3, hA3⟩ := h
 refine st_loop hL3 (fun (s3 : S × Int) ρ τ3 gs => σ.Le τ3 ∧ ∃ (g4 : Grp), ESub ρ [(0, y), (1, .pointer (some ⟨bc0, 0, none⟩)), (3, .int .i64 s3.2)] ∧ gs = [g4] ∧ I s3.1 τ3 g4) ⟨Sto.Le.refl _, g, rfl, rfl, hIg⟩ ?_
 rintro s3 o3 h he3 ρ3 τ3 gs3 ⟨hl3, g4, hρ, rfl, hI5⟩ hn3
 refine st_es hρ ?_
 refine Z 6 rfl ?_
 refine st_if rfl h (fun h => ?_) (fun h => ?_)
 ·refine Z 7 rfl ?_
  refine o_loadI (v := v1) rfl rfl rfl z_sc23 rfl (Cel.up hc0_0 (hle.trans hl3)) ?_
  refine o_move rfl rfl rfl rfl ?_
  obtain ⟨q6, hf7, h⟩ := h
  refine o_index rfl rfl rfl z_slT23 rfl rfl (hs2.up (hle.trans hl3)) rfl hf7 (fun b8 of9 vs hc10 hrep => ?_)
  obtain rfl := hrep
  refine o_loadI (v := .int .u8 q6) rfl rfl rfl z_sc5 rfl (hc10 0 _ rfl) ?_
  obtain ⟨y11, u12, hy13, h⟩ := h
  refine st_call (foot := [g4]) rfl rfl rfl rfl rfl rfl (hY (s3.2, q6) s3.1 _ _ _ _ _ (hle.trans hl3) hy13 rfl hI5) ?_
  rintro vτ14 τ14 gsτ14 hl15 ⟨rfl, g16, rfl, hI17⟩
  refine Z 2 rfl ?_
  refine st_if rfl h (fun h => ?_) (fun h => ?_)
  ·obtain rfl := he3 _ h
   replace h := hA3
   obtain rfl := Eq.symm h
   cases hr0
   exact st_ret (gs' := [g16, []]) Tryz.func172 rfl (by simp) (hl3.trans hl15) ⟨g16, _, rfl, hI17, rfl⟩
  ·refine Z 7 rfl ?_
   exact hn3 _ _ _ _ h ⟨(hl3.trans hl15), g16, rfl, rfl, hI17⟩
 ·refine st_exit rfl ?_
  obtain rfl := he3 _ h
  replace h := hA3
  obtain rfl := Eq.symm h
  cases hr0
  exact st_fin (gs' := [g4, []]) Tryz.func172 rfl (by simp) hl3 ⟨g4, _, rfl, hI5, rfl⟩
theorem slices_Backward_byte_byte_ok {a0 : List Int} {v1 : Value} {r : (((S : Type) → ((Int × Int) → S → Bool × S → Prop) → S → S × Unit → Prop))} (h : slices_Backward_byte_byte a0 r) (σ : Sto) (hs2 : Sl (kI .u8) σ v1 a0) :
    Does Tryz.prog 154 [v1] σ [] (fun v τ gs => ∃ (f7 : Nat) (q8 : Array Value), gs = [] ∧ .func (.func f7) #[] q8 = v ∧ IterV Tryz.prog (fun _ x vx => vx = [.int .i64 x.1, .int .u8 x.2]) (.func (.func f7) #[] q8) τ [] (fun (_ : Unit) _ f => f = []) r) := by
 refine call_of Tryz.func154 Tryz.ntmps154 rfl rfl (fun cs fs => ?_)
 refine Z 2 rfl ?_
 refine o_box (cs := [v1]) rfl rfl rfl rfl (oneL_sl hs2) (fun b3 => ?_)
 refine Z 4 rfl ?_
 refine st_freeze (fun τ4 hl5 hg6 => ?_)
 refine Z 3 rfl ?_
 obtain rfl := Eq.symm h
 exact st_ret (gs' := []) Tryz.func154 rfl (List.Sublist.refl _) hl5 ⟨_, _, rfl, rfl, (slices_Backward_byte_byte_1_ok (cel_of hg6 rfl) (hs2.up hl5))⟩
theorem lens_Lens_word_1_ok {a0 : List Int} {c0 : Int} {c1 : Int} {v1 : Value} {bc0 : Nat} {bc1 : Nat} {r : Int × Int × Int} (h : lens_Lens_word_1 a0 c0 c1 r) (σ : Sto) (hs2 : Sl (kI .u8) σ v1 a0) :
    Does Tryz.prog 153 [v1, .pointer (some ⟨bc0, 0, none⟩), .pointer (some ⟨bc1, 0, none⟩)] σ [[(bc0, .cells [.int .i64 c0].toArray 3 (0, 0))], [(bc1, .cells [.int .u32 c1].toArray 57 (0, 0))]] (fun v τ gs => gs = [[(bc0, .cells [.int .i64 c0].toArray 3 (0, 0))], [(bc1, .cells [.int .u32 r.2.2].toArray 57 (0, 0))]] ∧ .tuple [.int .i64 r.1, .int .i64 r.2.1].toArray = v) := by
 refine call_of Tryz.func153 Tryz.ntmps153 rfl rfl (fun cs fs => ?_)
 refine Z 9 rfl ?_
 refine o_lenI rfl rfl rfl z_slT23 rfl hs2 ?_
 refine ZZ 3 [0] rfl rfl ?_
 refine st_if rfl h (fun h => ?_) (fun h => ?_)
 ·refine Z 5 rfl ?_
  obtain rfl := Eq.symm h
  exact st_ret (gs' := [[(bc0, .cells #[.int .i64 c0] 3 (0, 0))], [(bc1, .cells #[.int .u32 c1] 57 (0, 0))]]) Tryz.func153 rfl (List.Sublist.refl _) (Sto.Le.refl _) ⟨rfl, rfl⟩
 ·refine ZZ 6 [0] rfl rfl ?_
  obtain ⟨hf3, hf4, h⟩ := h
  refine o_slice (L := 0) (H := c0) rfl rfl rfl z_slT23 rfl rfl hs2 rfl ⟨_, rfl⟩ (by decide) hf3 hf4 trivial (by simp) (fun v5 hs6 => ?_)
  obtain ⟨r7, hr8, h⟩ := h
  refine st_call (foot := []) rfl rfl rfl rfl rfl rfl (callV_fn z_en154 (slices_Backward_byte_byte_ok hr8 σ hs6)) ?_
  rintro vτ9 τ9 gsτ9 hl10 ⟨f11, q12, rfl, rfl, hit13⟩
  refine Z 2 rfl ?_
  obtain ⟨t14, w14, hR14, hA14⟩ := h
  refine st_env (ρ' := [(1, .pointer (some ⟨bc0, 0, none⟩)), (2, .pointer (some ⟨bc1, 0, none⟩)), (4, .int .i64 0), (5, .int .i64 0), (15, .func (.func f11) #[] q12)]) ⟨rfl, rfl, rfl, rfl, rfl, trivial⟩ ?_
  refine st_addNil ?_
  refine st_range (B := lens_Lens_word_1_l1) (s0 := c1) ranges_fctx rfl hit13 (Sto.Le.refl _) hR14 rfl (fun _ _ _ h => by cases h; rfl) (fun (s14 : Int) τ14 gs => τ9.Le τ14 ∧ gs = [[(bc0, .cells #[.int .i64 c0] 3 (0, 0))], [(bc1, .cells #[.int .u32 s14] 57 (0, 0))]]) (fun _ _ _ _ => False) (fun _ _ _ _ hl ⟨hb, hg⟩ => ⟨hb.trans hl, hg⟩) (fun _ _ _ _ _ _ h => h.elim) ⟨Sto.Le.refl _, rfl⟩ ?_ ?_ ?_
  ·rintro x14 s14 o14 τ14 gs14 vx14 hl14 h rfl ⟨hb14, rfl⟩ l14 rc14 caller14 cs14 fs14
   refine Z 3 rfl ?_
   refine st_begin ?_
   refine ZZ 10 [1, 1] rfl rfl ?_
   exact st_rend (List.Sublist.refl _) (Sto.Le.refl _) ⟨_, h, hl14, rfl⟩
  ·rintro p15 τ16 gs14 f14 ht hl17 ⟨hb, rfl⟩ rfl
   subst ht
   replace h := hA14
   refine st_ord [1, 1] _ rfl ?_
   refine ZZ 7 [0] rfl rfl ?_
   obtain rfl := Eq.symm h
   exact st_ret (gs' := [[(bc0, .cells #[.int .i64 c0] 3 (0, 0))], [(bc1, .cells #[.int .u32 p15] 57 (0, 0))]]) Tryz.func153 rfl (List.Sublist.refl _) (hl10.trans hl17) ⟨rfl, rfl⟩
  ·exact fun _ _ _ _ _ _ _ h => h.elim
theorem lens_Lens_read__lens_Lens_word_1_ok {a0 : List Int × Int × Int} {a1_0 : Int} {a1_1 : Int} {ba0 : Nat} {v1 : Value} {ba1_0 : Nat} {ba1_1 : Nat} {r : Bool × (List Int × Int × Int) × Int} (h : lens_Lens_read__lens_Lens_word_1 a0 a1_0 a1_1 r) (σ : Sto) (hs2 : Sl (kI .u8) σ v1 a0.1) :
    Does Tryz.prog 152 [.pointer (some ⟨ba0, 0, none⟩), .func (.func 153) #[] [.pointer (some ⟨ba1_0, 0, none⟩), .pointer (some ⟨ba1_1, 0, none⟩)].toArray] σ [[(ba0, .cells [v1, .int .i64 a0.2.1, .int .i64 a0.2.2].toArray 225 (0, 0))], [(ba1_0, .cells [.int .i64 a1_0].toArray 3 (0, 0))], [(ba1_1, .cells [.int .u32 a1_1].toArray 57 (0, 0))]] (fun v τ gs => ∃ (v13 : Value), gs = [[(ba0, .cells [v13, .int .i64 r.2.1.2.1, .int .i64 r.2.1.2.2].toArray 225 (0, 0))], [(ba1_0, .cells [.int .i64 a1_0].toArray 3 (0, 0))], [(ba1_1, .cells [.int .u32 r.2.2].toArray 57 (0, 0))]] ∧ .bool r.1 = v ∧ Sl (kI .u8) τ v13 r.2.1.1) := by
 refine call_of Tryz.func152 Tryz.ntmps152 rfl rfl (fun cs fs => ?_)
 refine ZZ 17 [0] rfl rfl ?_
 refine st_if rfl h (fun h => ?_) (fun h => ?_)
 ·refine Z 4 rfl ?_
  obtain rfl := Eq.symm h
  exact st_ret (gs' := [[(ba0, .cells #[v1, .int .i64 a0.2.1, .int .i64 a0.2.2] 225 (0, 0))], [(ba1_0, .cells #[.int .i64 a1_0] 3 (0, 0))], [(ba1_1, .cells #[.int .u32 a1_1] 57 (0, 0))]]) Tryz.func152 rfl (List.Sublist.refl _) (Sto.Le.refl _) ⟨_, rfl, rfl, hs2⟩
 ·refine Z 5 rfl ?_
  obtain ⟨r3, hr4, h⟩ := h
  refine st_call (foot := [[(ba0, .cells #[v1, .int .i64 a0.2.1, .int .i64 a0.2.2] 225 (0, 0))]]) rfl rfl rfl rfl rfl rfl (callV_fn z_en155 (lens_Lens_left_ok hr4 σ hs2)) ?_
  rintro vτ5 τ5 gsτ5 hl6 ⟨v7, rfl, rfl, hs8⟩
  obtain ⟨r9, hr10, h⟩ := h
  refine st_ord [1, 1, 0] _ rfl ?_
  refine st_call (foot := [[(ba1_0, .cells #[.int .i64 a1_0] 3 (0, 0))], [(ba1_1, .cells #[.int .u32 a1_1] 57 (0, 0))]]) rfl rfl rfl rfl rfl rfl (callV_of2 (caps := [.pointer (some ⟨ba1_0, 0, none⟩), .pointer (some ⟨ba1_1, 0, none⟩)]) z_en153 (lens_Lens_word_1_ok hr10 τ5 hs8) rfl) ?_
  rintro vτ11 τ11 gsτ11 hl12 ⟨rfl, rfl⟩
  refine Z 12 rfl ?_
  refine st_if rfl h (fun h => ?_) (fun h => ?_)
  ·refine ZZ 12 [2] rfl rfl ?_
   refine st_ord [2, 0, 0] _ rfl ?_
   obtain rfl := Eq.symm h
   exact st_ret (gs' := [[(ba0, .cells #[v1, .int .i64 a0.2.1, .int .i64 r9.2.1] 225 (0, 0))], [(ba1_0, .cells #[.int .i64 a1_0] 3 (0, 0))], [(ba1_1, .cells #[.int .u32 r9.2.2] 57 (0, 0))]]) Tryz.func152 rfl (List.Sublist.refl _) (hl6.trans hl12) ⟨_, rfl, rfl, (hs2.up (hl6.trans hl12))⟩
  ·refine ZZ 17 [2, 2] rfl rfl ?_
   refine st_ord [2, 0, 0] _ rfl ?_
   obtain rfl := Eq.symm h
   exact st_ret (gs' := [[(ba0, .cells #[v1, .int .i64 (IntKind.i64.wrap (a0.2.1 + r9.1)), .int .i64 a0.2.2] 225 (0, 0))], [(ba1_0, .cells #[.int .i64 a1_0] 3 (0, 0))], [(ba1_1, .cells #[.int .u32 r9.2.2] 57 (0, 0))]]) Tryz.func152 rfl (List.Sublist.refl _) (hl6.trans hl12) ⟨_, rfl, rfl, (hs2.up (hl6.trans hl12))⟩
theorem lens_Lens_word_ok {a0 : List Int × Int × Int} {a1 : Int} {ba0 : Nat} {v1 : Value} {r : Int × (List Int × Int × Int)} (h : lens_Lens_word a0 a1 r) (σ : Sto) (hs2 : Sl (kI .u8) σ v1 a0.1) :
    Does Tryz.prog 128 [.pointer (some ⟨ba0, 0, none⟩), .int .i64 a1] σ [[(ba0, .cells [v1, .int .i64 a0.2.1, .int .i64 a0.2.2].toArray 225 (0, 0))]] (fun v τ gs => ∃ (v11 : Value), gs = [[(ba0, .cells [v11, .int .i64 r.2.2.1, .int .i64 r.2.2.2].toArray 225 (0, 0))]] ∧ .int .u32 r.1 = v ∧ Sl (kI .u8) τ v11 r.2.1) := by
 refine call_of Tryz.func128 Tryz.ntmps128 rfl rfl (fun cs fs => ?_)
 refine Z 2 rfl ?_
 refine o_boxC rfl rfl rfl rfl rfl rfl (fun b3 => ?_)
 refine Z 4 rfl ?_
 refine o_alloc rfl rfl rfl z_zero57 (fun b4 => ?_)
 refine ZZ 6 [0] rfl rfl ?_
 obtain ⟨r5, hr6, h⟩ := h
 refine st_ord [2, 1, 0] _ rfl ?_
 refine st_call (foot := [[(ba0, .cells #[v1, .int .i64 a0.2.1, .int .i64 a0.2.2] 225 (0, 0))], [(b3, .cells #[.int .i64 a1] 3 (0, 0))], [(b4, .cells #[.int .u32 0] 57 (0, 0))]]) rfl rfl rfl rfl rfl rfl (callV_fn z_en152 (lens_Lens_read__lens_Lens_word_1_ok hr6 σ hs2)) ?_
 rintro vτ7 τ7 gsτ7 hl8 ⟨v9, rfl, rfl, hs10⟩
 refine ZZ 6 [2] rfl rfl ?_
 refine st_ord [0] _ rfl ?_
 obtain rfl := Eq.symm h
 exact st_ret (gs' := [[(ba0, .cells #[v9, .int .i64 r5.2.1.2.1, .int .i64 r5.2.1.2.2] 225 (0, 0))]]) Tryz.func128 rfl (List.Sublist.refl _) hl8 ⟨_, rfl, rfl, hs10⟩
theorem lens_Lens_U8_ok {a0 : List Int × Int × Int} {ba0 : Nat} {v1 : Value} {r : Int × (List Int × Int × Int)} (h : lens_Lens_U8 a0 r) (σ : Sto) (hs2 : Sl (kI .u8) σ v1 a0.1) :
    Does Tryz.prog 101 [.pointer (some ⟨ba0, 0, none⟩)] σ [[(ba0, .cells [v1, .int .i64 a0.2.1, .int .i64 a0.2.2].toArray 225 (0, 0))]] (fun v τ gs => ∃ (v9 : Value), gs = [[(ba0, .cells [v9, .int .i64 r.2.2.1, .int .i64 r.2.2.2].toArray 225 (0, 0))]] ∧ .int .u8 r.1 = v ∧ Sl (kI .u8) τ v9 r.2.1) := by
 refine call_of Tryz.func101 Tryz.ntmps101 rfl rfl (fun cs fs => ?_)
 refine Z 7 rfl ?_
 obtain ⟨r3, hr4, h⟩ := h
 refine st_call (foot := [[(ba0, .cells #[v1, .int .i64 a0.2.1, .int .i64 a0.2.2] 225 (0, 0))]]) rfl rfl rfl rfl rfl rfl (callV_fn z_en128 (lens_Lens_word_ok hr4 σ hs2)) ?_
 rintro vτ5 τ5 gsτ5 hl6 ⟨v7, rfl, rfl, hs8⟩
 refine Z 3 rfl ?_
 obtain rfl := Eq.symm h
 exact st_ret (gs' := [[(ba0, .cells #[v7, .int .i64 r3.2.2.1, .int .i64 r3.2.2.2] 225 (0, 0))]]) Tryz.func101 rfl (List.Sublist.refl _) hl6 ⟨_, rfl, rfl, hs8⟩
theorem lens_Lens_U32_ok {a0 : List Int × Int × Int} {ba0 : Nat} {v1 : Value} {r : Int × (List Int × Int × Int)} (h : lens_Lens_U32 a0 r) (σ : Sto) (hs2 : Sl (kI .u8) σ v1 a0.1) :
    Does Tryz.prog 102 [.pointer (some ⟨ba0, 0, none⟩)] σ [[(ba0, .cells [v1, .int .i64 a0.2.1, .int .i64 a0.2.2].toArray 225 (0, 0))]] (fun v τ gs => ∃ (v9 : Value), gs = [[(ba0, .cells [v9, .int .i64 r.2.2.1, .int .i64 r.2.2.2].toArray 225 (0, 0))]] ∧ .int .u32 r.1 = v ∧ Sl (kI .u8) τ v9 r.2.1) := by
 refine call_of Tryz.func102 Tryz.ntmps102 rfl rfl (fun cs fs => ?_)
 refine Z 7 rfl ?_
 obtain ⟨r3, hr4, h⟩ := h
 refine st_call (foot := [[(ba0, .cells #[v1, .int .i64 a0.2.1, .int .i64 a0.2.2] 225 (0, 0))]]) rfl rfl rfl rfl rfl rfl (callV_fn z_en128 (lens_Lens_word_ok hr4 σ hs2)) ?_
 rintro vτ5 τ5 gsτ5 hl6 ⟨v7, rfl, rfl, hs8⟩
 refine Z 2 rfl ?_
 obtain rfl := Eq.symm h
 exact st_ret (gs' := [[(ba0, .cells #[v7, .int .i64 r3.2.2.1, .int .i64 r3.2.2.2] 225 (0, 0))]]) Tryz.func102 rfl (List.Sublist.refl _) hl6 ⟨_, rfl, rfl, hs8⟩
theorem lens_Lens_Err_ok {a0 : List Int × Int × Int} {ba0 : Nat} {v1 : Value} {r : Int} (h : lens_Lens_Err a0 r) (σ : Sto) (hs2 : Sl (kI .u8) σ v1 a0.1) :
    Does Tryz.prog 129 [.pointer (some ⟨ba0, 0, none⟩)] σ [[(ba0, .cells [v1, .int .i64 a0.2.1, .int .i64 a0.2.2].toArray 225 (0, 0))]] (fun v τ gs => gs = [[(ba0, .cells [v1, .int .i64 a0.2.1, .int .i64 a0.2.2].toArray 225 (0, 0))]] ∧ .int .i64 r = v) := by
 refine call_of Tryz.func129 Tryz.ntmps129 rfl rfl (fun cs fs => ?_)
 refine ZZ 20 [0] rfl rfl ?_
 obtain rfl := Eq.symm h
 exact st_ret (gs' := [[(ba0, .cells #[v1, .int .i64 a0.2.1, .int .i64 a0.2.2] 225 (0, 0))]]) Tryz.func129 rfl (List.Sublist.refl _) (Sto.Le.refl _) ⟨rfl, rfl⟩
theorem lens_Lens_Left_ok {a0 : List Int × Int × Int} {ba0 : Nat} {v1 : Value} {r : Int} (h : lens_Lens_Left a0 r) (σ : Sto) (hs2 : Sl (kI .u8) σ v1 a0.1) :
    Does Tryz.prog 130 [.pointer (some ⟨ba0, 0, none⟩)] σ [[(ba0, .cells [v1, .int .i64 a0.2.1, .int .i64 a0.2.2].toArray 225 (0, 0))]] (fun v τ gs => gs = [[(ba0, .cells [v1, .int .i64 a0.2.1, .int .i64 a0.2.2].toArray 225 (0, 0))]] ∧ .int .i64 r = v) := by
 refine call_of Tryz.func130 Tryz.ntmps130 rfl rfl (fun cs fs => ?_)
 refine Z 15 rfl ?_
 obtain ⟨r3, hr4, h⟩ := h
 refine st_call (foot := [[(ba0, .cells #[v1, .int .i64 a0.2.1, .int .i64 a0.2.2] 225 (0, 0))]]) rfl rfl rfl rfl rfl rfl (callV_fn z_en155 (lens_Lens_left_ok hr4 σ hs2)) ?_
 rintro vτ5 τ5 gsτ5 hl6 ⟨v7, rfl, rfl, hs8⟩
 refine o_lenI rfl rfl rfl z_slT23 rfl hs8 ?_
 refine Z 2 rfl ?_
 obtain rfl := Eq.symm h
 exact st_ret (gs' := [[(ba0, .cells #[v1, .int .i64 a0.2.1, .int .i64 a0.2.2] 225 (0, 0))]]) Tryz.func130 rfl (List.Sublist.refl _) hl6 ⟨rfl, rfl⟩
theorem lens_Lens_End_ok {a0 : List Int × Int × Int} {ba0 : Nat} {v1 : Value} {r : Int} (h : lens_Lens_End a0 r) (σ : Sto) (hs2 : Sl (kI .u8) σ v1 a0.1) :
    Does Tryz.prog 103 [.pointer (some ⟨ba0, 0, none⟩)] σ [[(ba0, .cells [v1, .int .i64 a0.2.1, .int .i64 a0.2.2].toArray 225 (0, 0))]] (fun v τ gs => gs = [[(ba0, .cells [v1, .int .i64 a0.2.1, .int .i64 a0.2.2].toArray 225 (0, 0))]] ∧ .int .i64 r = v) := by
 refine call_of Tryz.func103 Tryz.ntmps103 rfl rfl (fun cs fs => ?_)
 refine Z 8 rfl ?_
 obtain ⟨r3, hr4, h⟩ := h
 refine st_call (foot := [[(ba0, .cells #[v1, .int .i64 a0.2.1, .int .i64 a0.2.2] 225 (0, 0))]]) rfl rfl rfl rfl rfl rfl (callV_fn z_en129 (lens_Lens_Err_ok hr4 σ hs2)) ?_
 rintro vτ5 τ5 gsτ5 hl6 ⟨rfl, rfl⟩
 refine Z 3 rfl ?_
 refine st_cut (fun ρ τ7 gs => ∃ (s7 : Bool), lens_Lens_End_j1 r3 s7 r ∧ τ5.Le τ7 ∧ ESub ρ [(2, .int .i64 0), (3, .int .i64 r3), (12, .bool s7)] ∧ gs = [[(ba0, .cells #[v1, .int .i64 a0.2.1, .int .i64 a0.2.2] 225 (0, 0))]]) ?_ (fun hk7 => ?_)
 ·rintro ρ7 τ7 gs7 ⟨s7, h, hl7, hρ, rfl⟩
  refine st_es hρ ?_
  refine st_if rfl h (fun h => ?_) (fun h => ?_)
  ·refine Z 5 rfl ?_
   obtain rfl := Eq.symm h
   exact st_ret (gs' := [[(ba0, .cells #[v1, .int .i64 a0.2.1, .int .i64 a0.2.2] 225 (0, 0))]]) Tryz.func103 rfl (List.Sublist.refl _) (hl6.trans hl7) ⟨rfl, rfl⟩
  ·refine Z 5 rfl ?_
   obtain rfl := Eq.symm h
   exact st_ret (gs' := [[(ba0, .cells #[v1, .int .i64 a0.2.1, .int .i64 a0.2.2] 225 (0, 0))]]) Tryz.func103 rfl (List.Sublist.refl _) (hl6.trans hl7) ⟨rfl, rfl⟩
 refine Z 3 rfl ?_
 refine o_mif rfl rfl rfl rfl h (fun h => ?_) (fun h => ?_)
 ·refine Z 5 rfl ?_
  exact hk7 _ _ _ ⟨true, h, (Sto.Le.refl _), rfl, rfl⟩
 ·refine o_move rfl rfl rfl rfl ?_
  obtain ⟨r8, hr9, h⟩ := h
  refine st_call (foot := [[(ba0, .cells #[v1, .int .i64 a0.2.1, .int .i64 a0.2.2] 225 (0, 0))]]) rfl rfl rfl rfl rfl rfl (callV_fn z_en130 (lens_Lens_Left_ok hr9 τ5 (hs2.up hl6))) ?_
  rintro vτ10 τ10 gsτ10 hl11 ⟨rfl, rfl⟩
  refine Z 3 rfl ?_
  exact hk7 _ _ _ ⟨(decide (r8 = 0)), h, hl11, rfl, rfl⟩
theorem head_wrong_1_ok {c0 : Int × Int × Int × Int × Int} {bc0 : Nat} {σ0 : Sto} (hc0_0 : Cel σ0 ⟨bc0, 0, none⟩ (.int .i64 c0.1)) (hc0_1 : Cel σ0 ⟨bc0, 1, none⟩ (.int .i64 c0.2.1)) (hc0_2 : Cel σ0 ⟨bc0, 2, none⟩ (.int .u32 c0.2.2.1)) (hc0_3 : Cel σ0 ⟨bc0, 3, none⟩ (.int .i64 c0.2.2.2.1)) (hc0_4 : Cel σ0 ⟨bc0, 4, none⟩ (.int .i64 c0.2.2.2.2)) :
    IterV Tryz.prog (fun _ x vx => vx = [.int .i64 x.1, .bool x.2]) (.func (.func 156) #[] [.pointer (some ⟨bc0, 0, none⟩)].toArray) σ0 [] (fun (_ : Unit) _ f => f = []) (head_wrong_1 c0) := by
 intro S Y I y hyc hyo hIm hY s s' o hR σ g hle hIg
 obtain ⟨r, hr0⟩ : ∃ r, r = (s', o) := ⟨_, rfl⟩
 rw [← hr0] at hR
 have h := hR
 refine callV_of (caps := [.pointer (some ⟨bc0, 0, none⟩)]) z_en156 ?_
 refine call_of Tryz.func156 Tryz.ntmps156 rfl rfl (fun cs fs => ?_)
 refine st_ord [0] _ rfl ?_
 refine Z 3 rfl ?_
 refine o_loadI (v := .int .i64 c0.1) rfl rfl rfl z_sc3 rfl (Cel.up hc0_0 hle) ?_
 refine o_ibin (v := .bool (decide (c0.1 < 1))) rfl rfl rfl rfl rfl rfl ?_
 refine o_mif rfl rfl rfl rfl h (fun h => ?_) (fun h => ?_)
 ·refine Z 4 rfl ?_
  obtain ⟨y1, u2, hy3, h⟩ := h
  refine st_call (foot := [g]) rfl rfl rfl rfl rfl rfl (hY (10, true) s _ _ _ _ _ (hle.trans (Sto.Le.refl _)) hy3 rfl hIg) ?_
  rintro vτ4 τ4 gsτ4 hl5 ⟨rfl, g6, rfl, hI7⟩
  refine o_mif rfl rfl rfl rfl h (fun h => ?_) (fun h => ?_)
  ·refine Z 2 rfl ?_
   refine o_loadI (v := .int .i64 c0.2.1) rfl rfl rfl z_sc3 rfl (Cel.up hc0_1 (hle.trans hl5)) ?_
   refine o_ibin (v := .bool (decide (c0.2.1 < 1))) rfl rfl rfl rfl rfl rfl ?_
   refine o_mif rfl rfl rfl rfl h (fun h => ?_) (fun h => ?_)
   ·refine Z 4 rfl ?_
    obtain ⟨y8, u9, hy10, h⟩ := h
    refine st_call (foot := [g6]) rfl rfl rfl rfl rfl rfl (hY (9, true) u2 _ _ _ _ _ (hle.trans hl5) hy10 rfl hI7) ?_
    rintro vτ11 τ11 gsτ11 hl12 ⟨rfl, g13, rfl, hI14⟩
    refine o_pick rfl rfl rfl rfl rfl ?_
    refine o_mif rfl rfl rfl rfl h (fun h => ?_) (fun h => ?_)
    ·refine Z 2 rfl ?_
     refine o_loadI (v := .int .i64 c0.2.2.2.2) rfl rfl rfl z_sc3 rfl (Cel.up hc0_4 ((hle.trans hl5).trans hl12)) ?_
     refine o_ibin (v := .bool (decide (c0.2.2.2.2 < 1))) rfl rfl rfl rfl rfl rfl ?_
     refine o_mif rfl rfl rfl rfl h (fun h => ?_) (fun h => ?_)
     ·refine Z 16 rfl ?_
      obtain ⟨y15, u16, hy17, h⟩ := h
      refine st_call (foot := [g13]) rfl rfl rfl rfl rfl rfl (hY (3, true) u9 _ _ _ _ _ (hle.trans (hl5.trans hl12)) hy17 rfl hI14) ?_
      rintro vτ18 τ18 gsτ18 hl19 ⟨rfl, g20, rfl, hI21⟩
      refine Z 2 rfl ?_
      obtain rfl := Eq.symm h
      cases hr0
      exact st_fin (gs' := [g20, []]) Tryz.func156 rfl (by simp) ((hl5.trans hl12).trans hl19) ⟨g20, _, rfl, hI21, rfl⟩
     ·refine o_fieldAddr rfl rfl rfl z_field59_4 rfl ?_
      refine o_loadI (v := .int .i64 c0.2.2.2.2) rfl rfl rfl z_sc3 rfl (Cel.up hc0_4 ((hle.trans hl5).trans hl12)) ?_
      refine Z 2 rfl ?_
      refine o_mif rfl rfl rfl rfl h (fun h => ?_) (fun h => ?_)
      ·refine Z 11 rfl ?_
       obtain ⟨y22, u23, hy24, h⟩ := h
       refine st_call (foot := [g13]) rfl rfl rfl rfl rfl rfl (hY (3, true) u9 _ _ _ _ _ (hle.trans (hl5.trans hl12)) hy24 rfl hI14) ?_
       rintro vτ25 τ25 gsτ25 hl26 ⟨rfl, g27, rfl, hI28⟩
       refine Z 2 rfl ?_
       obtain rfl := Eq.symm h
       cases hr0
       exact st_fin (gs' := [g27, []]) Tryz.func156 rfl (by simp) ((hl5.trans hl12).trans hl26) ⟨g27, _, rfl, hI28, rfl⟩
      ·refine o_fieldAddr rfl rfl rfl z_field59_3 rfl ?_
       refine o_loadI (v := .int .i64 c0.2.2.2.1) rfl rfl rfl z_sc3 rfl (Cel.up hc0_3 ((hle.trans hl5).trans hl12)) ?_
       refine Z 2 rfl ?_
       refine o_mif rfl rfl rfl rfl h (fun h => ?_) (fun h => ?_)
       ·refine Z 6 rfl ?_
        obtain ⟨y29, u30, hy31, h⟩ := h
        refine st_call (foot := [g13]) rfl rfl rfl rfl rfl rfl (hY (3, true) u9 _ _ _ _ _ (hle.trans (hl5.trans hl12)) hy31 rfl hI14) ?_
        rintro vτ32 τ32 gsτ32 hl33 ⟨rfl, g34, rfl, hI35⟩
        refine Z 2 rfl ?_
        obtain rfl := Eq.symm h
        cases hr0
        exact st_fin (gs' := [g34, []]) Tryz.func156 rfl (by simp) ((hl5.trans hl12).trans hl33) ⟨g34, _, rfl, hI35, rfl⟩
       ·refine o_fieldAddr rfl rfl rfl z_field59_3 rfl ?_
        refine o_loadI (v := .int .i64 c0.2.2.2.1) rfl rfl rfl z_sc3 rfl (Cel.up hc0_3 ((hle.trans hl5).trans hl12)) ?_
        refine o_fieldAddr rfl rfl rfl z_field59_4 rfl ?_
        refine o_loadI (v := .int .i64 c0.2.2.2.2) rfl rfl rfl z_sc3 rfl (Cel.up hc0_4 ((hle.trans hl5).trans hl12)) ?_
        refine Z 2 rfl ?_
        obtain ⟨y36, u37, hy38, h⟩ := h
        refine st_call (foot := [g13]) rfl rfl rfl rfl rfl rfl (hY (3, (decide (c0.2.2.2.2 ≤ c0.2.2.2.1))) u9 _ _ _ _ _ (hle.trans (hl5.trans hl12)) hy38 rfl hI14) ?_
        rintro vτ39 τ39 gsτ39 hl40 ⟨rfl, g41, rfl, hI42⟩
        refine Z 2 rfl ?_
        obtain rfl := Eq.symm h
        cases hr0
        exact st_fin (gs' := [g41, []]) Tryz.func156 rfl (by simp) ((hl5.trans hl12).trans hl40) ⟨g41, _, rfl, hI42, rfl⟩
    ·refine Z 24 rfl ?_
     obtain rfl := Eq.symm h
     cases hr0
     exact st_fin (gs' := [g13, []]) Tryz.func156 rfl (by simp) (hl5.trans hl12) ⟨g13, _, rfl, hI14, rfl⟩
   ·refine o_fieldAddr rfl rfl rfl z_field59_1 rfl ?_
    refine o_loadI (v := .int .i64 c0.2.1) rfl rfl rfl z_sc3 rfl (Cel.up hc0_1 (hle.trans hl5)) ?_
    refine Z 2 rfl ?_
    obtain ⟨y43, u44, hy45, h⟩ := h
    refine st_call (foot := [g6]) rfl rfl rfl rfl rfl rfl (hY (9, (decide (5 < c0.2.1))) u2 _ _ _ _ _ (hle.trans hl5) hy45 rfl hI7) ?_
    rintro vτ46 τ46 gsτ46 hl47 ⟨rfl, g48, rfl, hI49⟩
    refine o_pick rfl rfl rfl rfl rfl ?_
    refine o_mif rfl rfl rfl rfl h (fun h => ?_) (fun h => ?_)
    ·refine Z 2 rfl ?_
     refine o_loadI (v := .int .i64 c0.2.2.2.2) rfl rfl rfl z_sc3 rfl (Cel.up hc0_4 ((hle.trans hl5).trans hl47)) ?_
     refine o_ibin (v := .bool (decide (c0.2.2.2.2 < 1))) rfl rfl rfl rfl rfl rfl ?_
     refine o_mif rfl rfl rfl rfl h (fun h => ?_) (fun h => ?_)
     ·refine Z 16 rfl ?_
      obtain ⟨y50, u51, hy52, h⟩ := h
      refine st_call (foot := [g48]) rfl rfl rfl rfl rfl rfl (hY (3, true) u44 _ _ _ _ _ (hle.trans (hl5.trans hl47)) hy52 rfl hI49) ?_
      rintro vτ53 τ53 gsτ53 hl54 ⟨rfl, g55, rfl, hI56⟩
      refine Z 2 rfl ?_
      obtain rfl := Eq.symm h
      cases hr0
      exact st_fin (gs' := [g55, []]) Tryz.func156 rfl (by simp) ((hl5.trans hl47).trans hl54) ⟨g55, _, rfl, hI56, rfl⟩
     ·refine o_fieldAddr rfl rfl rfl z_field59_4 rfl ?_
      refine o_loadI (v := .int .i64 c0.2.2.2.2) rfl rfl rfl z_sc3 rfl (Cel.up hc0_4 ((hle.trans hl5).trans hl47)) ?_
      refine Z 2 rfl ?_
      refine o_mif rfl rfl rfl rfl h (fun h => ?_) (fun h => ?_)
      ·refine Z 11 rfl ?_
       obtain ⟨y57, u58, hy59, h⟩ := h
       refine st_call (foot := [g48]) rfl rfl rfl rfl rfl rfl (hY (3, true) u44 _ _ _ _ _ (hle.trans (hl5.trans hl47)) hy59 rfl hI49) ?_
       rintro vτ60 τ60 gsτ60 hl61 ⟨rfl, g62, rfl, hI63⟩
       refine Z 2 rfl ?_
       obtain rfl := Eq.symm h
       cases hr0
       exact st_fin (gs' := [g62, []]) Tryz.func156 rfl (by simp) ((hl5.trans hl47).trans hl61) ⟨g62, _, rfl, hI63, rfl⟩
      ·refine o_fieldAddr rfl rfl rfl z_field59_3 rfl ?_
       refine o_loadI (v := .int .i64 c0.2.2.2.1) rfl rfl rfl z_sc3 rfl (Cel.up hc0_3 ((hle.trans hl5).trans hl47)) ?_
       refine Z 2 rfl ?_
       refine o_mif rfl rfl rfl rfl h (fun h => ?_) (fun h => ?_)
       ·refine Z 6 rfl ?_
        obtain ⟨y64, u65, hy66, h⟩ := h
        refine st_call (foot := [g48]) rfl rfl rfl rfl rfl rfl (hY (3, true) u44 _ _ _ _ _ (hle.trans (hl5.trans hl47)) hy66 rfl hI49) ?_
        rintro vτ67 τ67 gsτ67 hl68 ⟨rfl, g69, rfl, hI70⟩
        refine Z 2 rfl ?_
        obtain rfl := Eq.symm h
        cases hr0
        exact st_fin (gs' := [g69, []]) Tryz.func156 rfl (by simp) ((hl5.trans hl47).trans hl68) ⟨g69, _, rfl, hI70, rfl⟩
       ·refine o_fieldAddr rfl rfl rfl z_field59_3 rfl ?_
        refine o_loadI (v := .int .i64 c0.2.2.2.1) rfl rfl rfl z_sc3 rfl (Cel.up hc0_3 ((hle.trans hl5).trans hl47)) ?_
        refine o_fieldAddr rfl rfl rfl z_field59_4 rfl ?_
        refine o_loadI (v := .int .i64 c0.2.2.2.2) rfl rfl rfl z_sc3 rfl (Cel.up hc0_4 ((hle.trans hl5).trans hl47)) ?_
        refine Z 2 rfl ?_
        obtain ⟨y71, u72, hy73, h⟩ := h
        refine st_call (foot := [g48]) rfl rfl rfl rfl rfl rfl (hY (3, (decide (c0.2.2.2.2 ≤ c0.2.2.2.1))) u44 _ _ _ _ _ (hle.trans (hl5.trans hl47)) hy73 rfl hI49) ?_
        rintro vτ74 τ74 gsτ74 hl75 ⟨rfl, g76, rfl, hI77⟩
        refine Z 2 rfl ?_
        obtain rfl := Eq.symm h
        cases hr0
        exact st_fin (gs' := [g76, []]) Tryz.func156 rfl (by simp) ((hl5.trans hl47).trans hl75) ⟨g76, _, rfl, hI77, rfl⟩
    ·refine Z 24 rfl ?_
     obtain rfl := Eq.symm h
     cases hr0
     exact st_fin (gs' := [g48, []]) Tryz.func156 rfl (by simp) (hl5.trans hl47) ⟨g48, _, rfl, hI49, rfl⟩
  ·refine Z 36 rfl ?_
   obtain rfl := Eq.symm h
   cases hr0
   exact st_fin (gs' := [g6, []]) Tryz.func156 rfl (by simp) hl5 ⟨g6, _, rfl, hI7, rfl⟩
 ·refine o_fieldAddr rfl rfl rfl z_field59_0 rfl ?_
  refine o_loadI (v := .int .i64 c0.1) rfl rfl rfl z_sc3 rfl (Cel.up hc0_0 hle) ?_
  refine Z 2 rfl ?_
  obtain ⟨y78, u79, hy80, h⟩ := h
  refine st_call (foot := [g]) rfl rfl rfl rfl rfl rfl (hY (10, (decide (2 < c0.1))) s _ _ _ _ _ (hle.trans (Sto.Le.refl _)) hy80 rfl hIg) ?_
  rintro vτ81 τ81 gsτ81 hl82 ⟨rfl, g83, rfl, hI84⟩
  refine o_mif rfl rfl rfl rfl h (fun h => ?_) (fun h => ?_)
  ·refine Z 2 rfl ?_
   refine o_loadI (v := .int .i64 c0.2.1) rfl rfl rfl z_sc3 rfl (Cel.up hc0_1 (hle.trans hl82)) ?_
   refine o_ibin (v := .bool (decide (c0.2.1 < 1))) rfl rfl rfl rfl rfl rfl ?_
   refine o_mif rfl rfl rfl rfl h (fun h => ?_) (fun h => ?_)
   ·refine Z 4 rfl ?_
    obtain ⟨y85, u86, hy87, h⟩ := h
    refine st_call (foot := [g83]) rfl rfl rfl rfl rfl rfl (hY (9, true) u79 _ _ _ _ _ (hle.trans hl82) hy87 rfl hI84) ?_
    rintro vτ88 τ88 gsτ88 hl89 ⟨rfl, g90, rfl, hI91⟩
    refine o_pick rfl rfl rfl rfl rfl ?_
    refine o_mif rfl rfl rfl rfl h (fun h => ?_) (fun h => ?_)
    ·refine Z 2 rfl ?_
     refine o_loadI (v := .int .i64 c0.2.2.2.2) rfl rfl rfl z_sc3 rfl (Cel.up hc0_4 ((hle.trans hl82).trans hl89)) ?_
     refine o_ibin (v := .bool (decide (c0.2.2.2.2 < 1))) rfl rfl rfl rfl rfl rfl ?_
     refine o_mif rfl rfl rfl rfl h (fun h => ?_) (fun h => ?_)
     ·refine Z 16 rfl ?_
      obtain ⟨y92, u93, hy94, h⟩ := h
      refine st_call (foot := [g90]) rfl rfl rfl rfl rfl rfl (hY (3, true) u86 _ _ _ _ _ (hle.trans (hl82.trans hl89)) hy94 rfl hI91) ?_
      rintro vτ95 τ95 gsτ95 hl96 ⟨rfl, g97, rfl, hI98⟩
      refine Z 2 rfl ?_
      obtain rfl := Eq.symm h
      cases hr0
      exact st_fin (gs' := [g97, []]) Tryz.func156 rfl (by simp) ((hl82.trans hl89).trans hl96) ⟨g97, _, rfl, hI98, rfl⟩
     ·refine o_fieldAddr rfl rfl rfl z_field59_4 rfl ?_
      refine o_loadI (v := .int .i64 c0.2.2.2.2) rfl rfl rfl z_sc3 rfl (Cel.up hc0_4 ((hle.trans hl82).trans hl89)) ?_
      refine Z 2 rfl ?_
      refine o_mif rfl rfl rfl rfl h (fun h => ?_) (fun h => ?_)
      ·refine Z 11 rfl ?_
       obtain ⟨y99, u100, hy101, h⟩ := h
       refine st_call (foot := [g90]) rfl rfl rfl rfl rfl rfl (hY (3, true) u86 _ _ _ _ _ (hle.trans (hl82.trans hl89)) hy101 rfl hI91) ?_
       rintro vτ102 τ102 gsτ102 hl103 ⟨rfl, g104, rfl, hI105⟩
       refine Z 2 rfl ?_
       obtain rfl := Eq.symm h
       cases hr0
       exact st_fin (gs' := [g104, []]) Tryz.func156 rfl (by simp) ((hl82.trans hl89).trans hl103) ⟨g104, _, rfl, hI105, rfl⟩
      ·refine o_fieldAddr rfl rfl rfl z_field59_3 rfl ?_
       refine o_loadI (v := .int .i64 c0.2.2.2.1) rfl rfl rfl z_sc3 rfl (Cel.up hc0_3 ((hle.trans hl82).trans hl89)) ?_
       refine Z 2 rfl ?_
       refine o_mif rfl rfl rfl rfl h (fun h => ?_) (fun h => ?_)
       ·refine Z 6 rfl ?_
        obtain ⟨y106, u107, hy108, h⟩ := h
        refine st_call (foot := [g90]) rfl rfl rfl rfl rfl rfl (hY (3, true) u86 _ _ _ _ _ (hle.trans (hl82.trans hl89)) hy108 rfl hI91) ?_
        rintro vτ109 τ109 gsτ109 hl110 ⟨rfl, g111, rfl, hI112⟩
        refine Z 2 rfl ?_
        obtain rfl := Eq.symm h
        cases hr0
        exact st_fin (gs' := [g111, []]) Tryz.func156 rfl (by simp) ((hl82.trans hl89).trans hl110) ⟨g111, _, rfl, hI112, rfl⟩
       ·refine o_fieldAddr rfl rfl rfl z_field59_3 rfl ?_
        refine o_loadI (v := .int .i64 c0.2.2.2.1) rfl rfl rfl z_sc3 rfl (Cel.up hc0_3 ((hle.trans hl82).trans hl89)) ?_
        refine o_fieldAddr rfl rfl rfl z_field59_4 rfl ?_
        refine o_loadI (v := .int .i64 c0.2.2.2.2) rfl rfl rfl z_sc3 rfl (Cel.up hc0_4 ((hle.trans hl82).trans hl89)) ?_
        refine Z 2 rfl ?_
        obtain ⟨y113, u114, hy115, h⟩ := h
        refine st_call (foot := [g90]) rfl rfl rfl rfl rfl rfl (hY (3, (decide (c0.2.2.2.2 ≤ c0.2.2.2.1))) u86 _ _ _ _ _ (hle.trans (hl82.trans hl89)) hy115 rfl hI91) ?_
        rintro vτ116 τ116 gsτ116 hl117 ⟨rfl, g118, rfl, hI119⟩
        refine Z 2 rfl ?_
        obtain rfl := Eq.symm h
        cases hr0
        exact st_fin (gs' := [g118, []]) Tryz.func156 rfl (by simp) ((hl82.trans hl89).trans hl117) ⟨g118, _, rfl, hI119, rfl⟩
    ·refine Z 24 rfl ?_
     obtain rfl := Eq.symm h
     cases hr0
     exact st_fin (gs' := [g90, []]) Tryz.func156 rfl (by simp) (hl82.trans hl89) ⟨g90, _, rfl, hI91, rfl⟩
   ·refine o_fieldAddr rfl rfl rfl z_field59_1 rfl ?_
    refine o_loadI (v := .int .i64 c0.2.1) rfl rfl rfl z_sc3 rfl (Cel.up hc0_1 (hle.trans hl82)) ?_
    refine Z 2 rfl ?_
    obtain ⟨y120, u121, hy122, h⟩ := h
    refine st_call (foot := [g83]) rfl rfl rfl rfl rfl rfl (hY (9, (decide (5 < c0.2.1))) u79 _ _ _ _ _ (hle.trans hl82) hy122 rfl hI84) ?_
    rintro vτ123 τ123 gsτ123 hl124 ⟨rfl, g125, rfl, hI126⟩
    refine o_pick rfl rfl rfl rfl rfl ?_
    refine o_mif rfl rfl rfl rfl h (fun h => ?_) (fun h => ?_)
    ·refine Z 2 rfl ?_
     refine o_loadI (v := .int .i64 c0.2.2.2.2) rfl rfl rfl z_sc3 rfl (Cel.up hc0_4 ((hle.trans hl82).trans hl124)) ?_
     refine o_ibin (v := .bool (decide (c0.2.2.2.2 < 1))) rfl rfl rfl rfl rfl rfl ?_
     refine o_mif rfl rfl rfl rfl h (fun h => ?_) (fun h => ?_)
     ·refine Z 16 rfl ?_
      obtain ⟨y127, u128, hy129, h⟩ := h
      refine st_call (foot := [g125]) rfl rfl rfl rfl rfl rfl (hY (3, true) u121 _ _ _ _ _ (hle.trans (hl82.trans hl124)) hy129 rfl hI126) ?_
      rintro vτ130 τ130 gsτ130 hl131 ⟨rfl, g132, rfl, hI133⟩
      refine Z 2 rfl ?_
      obtain rfl := Eq.symm h
      cases hr0
      exact st_fin (gs' := [g132, []]) Tryz.func156 rfl (by simp) ((hl82.trans hl124).trans hl131) ⟨g132, _, rfl, hI133, rfl⟩
     ·refine o_fieldAddr rfl rfl rfl z_field59_4 rfl ?_
      refine o_loadI (v := .int .i64 c0.2.2.2.2) rfl rfl rfl z_sc3 rfl (Cel.up hc0_4 ((hle.trans hl82).trans hl124)) ?_
      refine Z 2 rfl ?_
      refine o_mif rfl rfl rfl rfl h (fun h => ?_) (fun h => ?_)
      ·refine Z 11 rfl ?_
       obtain ⟨y134, u135, hy136, h⟩ := h
       refine st_call (foot := [g125]) rfl rfl rfl rfl rfl rfl (hY (3, true) u121 _ _ _ _ _ (hle.trans (hl82.trans hl124)) hy136 rfl hI126) ?_
       rintro vτ137 τ137 gsτ137 hl138 ⟨rfl, g139, rfl, hI140⟩
       refine Z 2 rfl ?_
       obtain rfl := Eq.symm h
       cases hr0
       exact st_fin (gs' := [g139, []]) Tryz.func156 rfl (by simp) ((hl82.trans hl124).trans hl138) ⟨g139, _, rfl, hI140, rfl⟩
      ·refine o_fieldAddr rfl rfl rfl z_field59_3 rfl ?_
       refine o_loadI (v := .int .i64 c0.2.2.2.1) rfl rfl rfl z_sc3 rfl (Cel.up hc0_3 ((hle.trans hl82).trans hl124)) ?_
       refine Z 2 rfl ?_
       refine o_mif rfl rfl rfl rfl h (fun h => ?_) (fun h => ?_)
       ·refine Z 6 rfl ?_
        obtain ⟨y141, u142, hy143, h⟩ := h
        refine st_call (foot := [g125]) rfl rfl rfl rfl rfl rfl (hY (3, true) u121 _ _ _ _ _ (hle.trans (hl82.trans hl124)) hy143 rfl hI126) ?_
        rintro vτ144 τ144 gsτ144 hl145 ⟨rfl, g146, rfl, hI147⟩
        refine Z 2 rfl ?_
        obtain rfl := Eq.symm h
        cases hr0
        exact st_fin (gs' := [g146, []]) Tryz.func156 rfl (by simp) ((hl82.trans hl124).trans hl145) ⟨g146, _, rfl, hI147, rfl⟩
       ·refine o_fieldAddr rfl rfl rfl z_field59_3 rfl ?_
        refine o_loadI (v := .int .i64 c0.2.2.2.1) rfl rfl rfl z_sc3 rfl (Cel.up hc0_3 ((hle.trans hl82).trans hl124)) ?_
        refine o_fieldAddr rfl rfl rfl z_field59_4 rfl ?_
        refine o_loadI (v := .int .i64 c0.2.2.2.2) rfl rfl rfl z_sc3 rfl (Cel.up hc0_4 ((hle.trans hl82).trans hl124)) ?_
        refine Z 2 rfl ?_
        obtain ⟨y148, u149, hy150, h⟩ := h
        refine st_call (foot := [g125]) rfl rfl rfl rfl rfl rfl (hY (3, (decide (c0.2.2.2.2 ≤ c0.2.2.2.1))) u121 _ _ _ _ _ (hle.trans (hl82.trans hl124)) hy150 rfl hI126) ?_
        rintro vτ151 τ151 gsτ151 hl152 ⟨rfl, g153, rfl, hI154⟩
        refine Z 2 rfl ?_
        obtain rfl := Eq.symm h
        cases hr0
        exact st_fin (gs' := [g153, []]) Tryz.func156 rfl (by simp) ((hl82.trans hl124).trans hl152) ⟨g153, _, rfl, hI154, rfl⟩
    ·refine Z 24 rfl ?_
     obtain rfl := Eq.symm h
     cases hr0
     exact st_fin (gs' := [g125, []]) Tryz.func156 rfl (by simp) (hl82.trans hl124) ⟨g125, _, rfl, hI126, rfl⟩
  ·refine Z 36 rfl ?_
   obtain rfl := Eq.symm h
   cases hr0
   exact st_fin (gs' := [g83, []]) Tryz.func156 rfl (by simp) hl82 ⟨g83, _, rfl, hI84, rfl⟩
theorem head_wrong_ok {a0 : Int × Int × Int × Int × Int} {r : (((S : Type) → ((Int × Bool) → S → Bool × S → Prop) → S → S × Unit → Prop))} (h : head_wrong a0 r) (σ : Sto)  :
    Does Tryz.prog 131 [.agg [.int .i64 a0.1, .int .i64 a0.2.1, .int .u32 a0.2.2.1, .int .i64 a0.2.2.2.1, .int .i64 a0.2.2.2.2].toArray] σ [] (fun v τ gs => ∃ (f5 : Nat) (q6 : Array Value), gs = [] ∧ .func (.func f5) #[] q6 = v ∧ IterV Tryz.prog (fun _ x vx => vx = [.int .i64 x.1, .bool x.2]) (.func (.func f5) #[] q6) τ [] (fun (_ : Unit) _ f => f = []) r) := by
 refine call_of Tryz.func131 Tryz.ntmps131 rfl rfl (fun cs fs => ?_)
 refine Z 2 rfl ?_
 refine o_boxC rfl rfl rfl rfl rfl rfl (fun b1 => ?_)
 refine Z 4 rfl ?_
 refine st_freeze (fun τ2 hl3 hg4 => ?_)
 refine Z 3 rfl ?_
 obtain rfl := Eq.symm h
 exact st_ret (gs' := []) Tryz.func131 rfl (List.Sublist.refl _) hl3 ⟨_, _, rfl, rfl, (head_wrong_1_ok (cel_of hg4 rfl) (cel_of hg4 rfl) (cel_of hg4 rfl) (cel_of hg4 rfl) (cel_of hg4 rfl))⟩
theorem head_Check_ok {a0 : Int × Int × Int × Int × Int} {r : Int} (h : head_Check a0 r) (σ : Sto)  :
    Does Tryz.prog 104 [.agg [.int .i64 a0.1, .int .i64 a0.2.1, .int .u32 a0.2.2.1, .int .i64 a0.2.2.2.1, .int .i64 a0.2.2.2.2].toArray] σ [] (fun v τ gs => gs = [] ∧ .int .i64 r = v) := by
 refine call_of Tryz.func104 Tryz.ntmps104 rfl rfl (fun cs fs => ?_)
 refine Z 2 rfl ?_
 refine o_boxC rfl rfl rfl rfl rfl rfl (fun b1 => ?_)
 refine Z 5 rfl ?_
 refine o_alloc rfl rfl rfl z_zero46 (fun b2 => ?_)
 refine ZZ 5 [0] rfl rfl ?_
 refine st_cut (fun ρ τ3 gs => ∃ (s3 : Int), head_Check_j1 s3 r ∧ σ.Le τ3 ∧ ESub ρ [(2, .int .i64 0), (3, .pointer (some ⟨b2, 0, none⟩))] ∧ gs = [[(b2, .cells #[.int .i64 s3] 46 (0, 0))]]) ?_ (fun hk3 => ?_)
 ·rintro ρ3 τ3 gs3 ⟨s3, h, hl3, hρ, rfl⟩
  refine st_es hρ ?_
  refine ZZ 5 [0] rfl rfl ?_
  refine st_ord [] _ rfl ?_
  obtain rfl := Eq.symm h
  exact st_ret (gs' := []) Tryz.func104 rfl (List.Sublist.refl _) hl3 ⟨rfl, rfl⟩
 refine ZZ 3 [1] rfl rfl ?_
 obtain ⟨r4, hr5, h⟩ := h
 refine st_call (foot := []) rfl rfl rfl rfl rfl rfl (callV_fn z_en131 (head_wrong_ok hr5 σ)) ?_
 rintro vτ6 τ6 gsτ6 hl7 ⟨f8, q9, rfl, rfl, hit10⟩
 refine Z 2 rfl ?_
 obtain ⟨t11, w11, hR11, hA11⟩ := h
 refine st_env (ρ' := [(2, .int .i64 0), (3, .pointer (some ⟨b2, 0, none⟩)), (7, .func (.func f8) #[] q9)]) ⟨rfl, rfl, rfl, trivial⟩ ?_
 refine st_ord [0] _ rfl ?_
 refine st_addNil ?_
 refine st_range (B := head_Check_l2) (s0 := ()) ranges_fctx rfl hit10 (Sto.Le.refl _) hR11 rfl (fun _ _ _ h => by cases h; rfl) (fun (s11 : Unit) τ11 gs => τ6.Le τ11 ∧ gs = [[(b2, .cells #[.int .i64 0] 46 (0, 0))]]) (fun (p12 : Int) cd τ13 gs => cd = .exit 0 ∧ τ6.Le τ13 ∧ gs = [[(b2, .cells #[.int .i64 p12] 46 (0, 0))]]) (fun _ _ _ _ hl ⟨hb, hg⟩ => ⟨hb.trans hl, hg⟩) (fun _ _ _ _ _ hl ⟨hc, hb, hg⟩ => ⟨hc, hb.trans hl, hg⟩) ⟨Sto.Le.refl _, rfl⟩ ?_ ?_ ?_
 ·rintro x11 s11 o11 τ11 gs11 vx11 hl11 h rfl ⟨hb11, rfl⟩ l11 rc11 caller11 cs11 fs11
  refine Z 7 rfl ?_
  refine st_begin ?_
  refine Z 5 rfl ?_
  refine st_if rfl h (fun h => ?_) (fun h => ?_)
  ·refine ZZ 5 [0] rfl rfl ?_
   exact st_rexit rfl (List.Sublist.refl _) (Sto.Le.refl _) ⟨_, h, rfl, hl11, rfl⟩
  ·refine Z 2 rfl ?_
   exact st_rend (List.Sublist.refl _) (Sto.Le.refl _) ⟨_, h, hl11, rfl⟩
 ·rintro p15 τ16 gs11 f11 ht hl17 ⟨hb, rfl⟩ rfl
  subst ht
  replace h := hA11
  refine st_ord [1] _ rfl ?_
  refine st_inBlock ?_
  exact hk3 _ _ _ ⟨0, h, (hl7.trans hl17), rfl, rfl⟩
 ·rintro p12 cd11 τ13 gs11 f11 ht hl14 ⟨rfl, hb, rfl⟩ rfl
  subst ht
  replace h := hA11
  refine st_ord [1] _ rfl ?_
  refine st_exit rfl ?_
  exact hk3 _ _ _ ⟨p12, h, (hl7.trans hl14), rfl, rfl⟩
theorem head_Parse_ok {a0 : List Int} {v1 : Value} {r : (Int × Int × Int × Int × Int) × Int} (h : head_Parse a0 r) (σ : Sto) (hs2 : Sl (kI .u8) σ v1 a0) :
    Does Tryz.prog 63 [v1] σ [] (fun v τ gs => gs = [] ∧ .tuple [.agg [.int .i64 r.1.1, .int .i64 r.1.2.1, .int .u32 r.1.2.2.1, .int .i64 r.1.2.2.2.1, .int .i64 r.1.2.2.2.2].toArray, .int .i64 r.2].toArray = v) := by
 refine call_of Tryz.func63 Tryz.ntmps63 rfl rfl (fun cs fs => ?_)
 refine Z 2 rfl ?_
 refine o_alloc rfl rfl rfl z_zero59 (fun b3 => ?_)
 refine Z 6 rfl ?_
 refine o_lenI rfl rfl rfl z_slT23 rfl hs2 ?_
 refine Z 2 rfl ?_
 refine st_if rfl h (fun h => ?_) (fun h => ?_)
 ·refine ZZ 6 [0] rfl rfl ?_
  obtain rfl := Eq.symm h
  exact st_retC (gs' := []) [.agg #[.int .i64 0, .int .i64 0, .int .u32 0, .int .i64 0, .int .i64 0], .int .i64 13] Tryz.func63 ⟨⟨_, _, _, _, rfl, mem_flat 0 rfl, fun w hw => cellOfN (vs := [.int .i64 0, .int .i64 0, .int .u32 0, .int .i64 0, .int .i64 0]) z_agg59 rfl w hw⟩, rfl, trivial⟩ (by simp) (Sto.Le.refl _) ⟨rfl, rfl⟩
 ·refine Z 4 rfl ?_
  obtain ⟨r4, hr5, h⟩ := h
  refine st_call (foot := []) rfl rfl rfl rfl rfl rfl (callV_fn z_en100 (lens_New_ok hr5 σ hs2)) ?_
  rintro vτ6 τ6 gsτ6 hl7 ⟨b8, v9, rfl, rfl, hs10⟩
  refine Z 5 rfl ?_
  obtain ⟨r11, hr12, h⟩ := h
  refine st_call (foot := [[(b8, .cells #[v9, .int .i64 r4.2.1, .int .i64 r4.2.2] 225 (0, 0))]]) rfl rfl rfl rfl rfl rfl (callV_fn z_en101 (lens_Lens_U8_ok hr12 τ6 hs10)) ?_
  rintro vτ13 τ13 gsτ13 hl14 ⟨v15, rfl, rfl, hs16⟩
  refine Z 2 rfl ?_
  obtain ⟨r17, hr18, h⟩ := h
  refine st_call (foot := [[(b8, .cells #[v15, .int .i64 r11.2.2.1, .int .i64 r11.2.2.2] 225 (0, 0))]]) rfl rfl rfl rfl rfl rfl (callV_fn z_en101 (lens_Lens_U8_ok hr18 τ13 hs16)) ?_
  rintro vτ19 τ19 gsτ19 hl20 ⟨v21, rfl, rfl, hs22⟩
  refine Z 2 rfl ?_
  obtain ⟨r23, hr24, h⟩ := h
  refine st_call (foot := [[(b8, .cells #[v21, .int .i64 r17.2.2.1, .int .i64 r17.2.2.2] 225 (0, 0))]]) rfl rfl rfl rfl rfl rfl (callV_fn z_en102 (lens_Lens_U32_ok hr24 τ19 hs22)) ?_
  rintro vτ25 τ25 gsτ25 hl26 ⟨v27, rfl, rfl, hs28⟩
  refine o_move rfl rfl rfl rfl ?_
  obtain ⟨r29, hr30, h⟩ := h
  refine st_call (foot := [[(b8, .cells #[v27, .int .i64 r23.2.2.1, .int .i64 r23.2.2.2] 225 (0, 0))]]) rfl rfl rfl rfl rfl rfl (callV_fn z_en101 (lens_Lens_U8_ok hr30 τ25 hs28)) ?_
  rintro vτ31 τ31 gsτ31 hl32 ⟨v33, rfl, rfl, hs34⟩
  refine Z 2 rfl ?_
  obtain ⟨r35, hr36, h⟩ := h
  refine st_call (foot := [[(b8, .cells #[v33, .int .i64 r29.2.2.1, .int .i64 r29.2.2.2] 225 (0, 0))]]) rfl rfl rfl rfl rfl rfl (callV_fn z_en101 (lens_Lens_U8_ok hr36 τ31 hs34)) ?_
  rintro vτ37 τ37 gsτ37 hl38 ⟨v39, rfl, rfl, hs40⟩
  refine ZZ 2 [] rfl rfl ?_
  refine o_alloc rfl rfl rfl z_zero59 (fun b41 => ?_)
  refine ZZ 5 [0] rfl rfl ?_
  obtain ⟨r42, hr43, h⟩ := h
  refine st_ord [1, 0, 0] _ rfl ?_
  refine st_call (foot := [[(b8, .cells #[v39, .int .i64 r35.2.2.1, .int .i64 r35.2.2.2] 225 (0, 0))]]) rfl rfl rfl rfl rfl rfl (callV_fn z_en103 (lens_Lens_End_ok hr43 τ37 hs40)) ?_
  rintro vτ44 τ44 gsτ44 hl45 ⟨rfl, rfl⟩
  refine Z 3 rfl ?_
  refine st_cut (fun ρ τ46 gs => ∃ (s46 : Int), head_Parse_j1 r11 r17 r23 r29 r35 s46 r ∧ τ44.Le τ46 ∧ ESub ρ [(2, .pointer (some ⟨b3, 0, none⟩)), (3, .int .i64 0), (5, .pointer (some ⟨b41, 0, none⟩)), (6, .int .i64 s46)] ∧ gs = [[(b3, .cells #[.int .i64 0, .int .i64 0, .int .u32 0, .int .i64 0, .int .i64 0] 59 (0, 0))], [(b41, .cells #[.int .i64 (IntKind.i64.wrap r11.1), .int .i64 (IntKind.i64.wrap r17.1), .int .u32 r23.1, .int .i64 (IntKind.i64.wrap r29.1), .int .i64 (IntKind.i64.wrap r35.1)] 59 (0, 0))]]) ?_ (fun hk46 => ?_)
  ·rintro ρ46 τ46 gs46 ⟨s46, h, hl46, hρ, rfl⟩
   refine st_es hρ ?_
   refine Z 6 rfl ?_
   refine st_if rfl h (fun h => ?_) (fun h => ?_)
   ·refine ZZ 7 [0] rfl rfl ?_
    obtain rfl := Eq.symm h
    exact st_retC (gs' := []) [.agg #[.int .i64 0, .int .i64 0, .int .u32 0, .int .i64 0, .int .i64 0], .int .i64 s46] Tryz.func63 ⟨⟨_, _, _, _, rfl, mem_flat 0 rfl, fun w hw => cellOfN (vs := [.int .i64 0, .int .i64 0, .int .u32 0, .int .i64 0, .int .i64 0]) z_agg59 rfl w hw⟩, rfl, trivial⟩ (by simp) (((((((hl7.trans hl14).trans hl20).trans hl26).trans hl32).trans hl38).trans hl45).trans hl46) ⟨rfl, rfl⟩
   ·refine ZZ 7 [1, 0] rfl rfl ?_
    obtain rfl := Eq.symm h
    exact st_retC (gs' := []) [.agg #[.int .i64 (IntKind.i64.wrap r11.1), .int .i64 (IntKind.i64.wrap r17.1), .int .u32 r23.1, .int .i64 (IntKind.i64.wrap r29.1), .int .i64 (IntKind.i64.wrap r35.1)], .int .i64 0] Tryz.func63 ⟨⟨_, _, _, _, rfl, mem_flat 0 rfl, fun w hw => cellOfN (vs := [.int .i64 (IntKind.i64.wrap r11.1), .int .i64 (IntKind.i64.wrap r17.1), .int .u32 r23.1, .int .i64 (IntKind.i64.wrap r29.1), .int .i64 (IntKind.i64.wrap r35.1)]) z_agg59 rfl w hw⟩, rfl, trivial⟩ (by simp) (((((((hl7.trans hl14).trans hl20).trans hl26).trans hl32).trans hl38).trans hl45).trans hl46) ⟨rfl, rfl⟩
  refine Z 5 rfl ?_
  refine st_if rfl h (fun h => ?_) (fun h => ?_)
  ·refine ZZ 2 [1] rfl rfl ?_
   obtain ⟨r47, hr48, h⟩ := h
   refine st_call (foot := []) rfl rfl rfl rfl rfl rfl (callV_fn z_en104 (head_Check_ok hr48 τ44)) ?_
   rintro vτ49 τ49 gsτ49 hl50 ⟨rfl, rfl⟩
   refine Z 2 rfl ?_
   refine st_ord [2, 1] _ rfl ?_
   exact hk46 _ _ _ ⟨r47, h, hl50, rfl, rfl⟩
  ·refine st_skip ?_
   refine st_ord [2, 1] _ rfl ?_
   exact hk46 _ _ _ ⟨r42, h, (Sto.Le.refl _), rfl, rfl⟩
theorem frame_Codec_Unpack_ok {a0 : List Int} {a1 : List Int} {bi3 : Nat} {bi1 : Nat} {v5 : Value} {r : ((Int × Int × Int × Int × Int) × List Int) × Int} (h : frame_Codec_Unpack a0 a1 r) (σ : Sto) (hc4 : CelN σ ⟨bi3, 0, none⟩ (cellsN (Value.int .u32) 0 1024 a0)) (hc2 : CelN σ ⟨bi1, 0, none⟩ [.pointer (some ⟨bi3, 0, none⟩)]) (hs6 : Sl (kI .u8) σ v5 a1) :
    Does Tryz.prog 31 [.pointer (some ⟨bi1, 0, none⟩), v5] σ [] (fun v τ gs => ∃ (v33 : Value), gs = [] ∧ .tuple [.agg [.int .i64 r.1.1.1, .int .i64 r.1.1.2.1, .int .u32 r.1.1.2.2.1, .int .i64 r.1.1.2.2.2.1, .int .i64 r.1.1.2.2.2.2, v33].toArray, .int .i64 r.2].toArray = v ∧ Sl (kI .u8) τ v33 r.1.2) := by
 refine call_of Tryz.func31 Tryz.ntmps31 rfl rfl (fun cs fs => ?_)
 refine Z 2 rfl ?_
 refine o_alloc rfl rfl rfl z_zero61 (fun b7 => ?_)
 refine Z 14 rfl ?_
 refine o_lenI rfl rfl rfl z_slT23 rfl hs6 ?_
 refine Z 3 rfl ?_
 refine st_if rfl h (fun h => ?_) (fun h => ?_)
 ·refine ZZ 6 [0] rfl rfl ?_
  obtain rfl := Eq.symm h
  exact st_retC (gs' := []) [.agg #[.int .i64 0, .int .i64 0, .int .u32 0, .int .i64 0, .int .i64 0, .slice none 0 0], .int .i64 2] Tryz.func31 ⟨⟨_, _, _, _, rfl, mem_flat 0 rfl, fun w hw => cellOfN (vs := [.int .i64 0, .int .i64 0, .int .u32 0, .int .i64 0, .int .i64 0, .slice none 0 0]) z_agg61 rfl w hw⟩, rfl, trivial⟩ (by simp) (Sto.Le.refl _) ⟨_, rfl, rfl, Sl.nil⟩
 ·refine Z 5 rfl ?_
  obtain ⟨r8, hr9, h⟩ := h
  refine st_call (foot := []) rfl rfl rfl rfl rfl rfl (callV_fn z_en61 (cobs_Decode_ok hr9 σ hs6)) ?_
  rintro vτ10 τ10 gsτ10 hl11 ⟨v12, rfl, rfl, hs13⟩
  refine Z 14 rfl ?_
  refine st_if rfl h (fun h => ?_) (fun h => ?_)
  ·refine ZZ 7 [0] rfl rfl ?_
   obtain rfl := Eq.symm h
   exact st_retC (gs' := []) [.agg #[.int .i64 0, .int .i64 0, .int .u32 0, .int .i64 0, .int .i64 0, .slice none 0 0], .int .i64 r8.2] Tryz.func31 ⟨⟨_, _, _, _, rfl, mem_flat 0 rfl, fun w hw => cellOfN (vs := [.int .i64 0, .int .i64 0, .int .u32 0, .int .i64 0, .int .i64 0, .slice none 0 0]) z_agg61 rfl w hw⟩, rfl, trivial⟩ (by simp) hl11 ⟨_, rfl, rfl, Sl.nil⟩
  ·refine Z 3 rfl ?_
   refine o_lenI rfl rfl rfl z_slT23 rfl hs13 ?_
   refine Z 3 rfl ?_
   refine st_if rfl h (fun h => ?_) (fun h => ?_)
   ·refine ZZ 6 [0] rfl rfl ?_
    obtain rfl := Eq.symm h
    exact st_retC (gs' := []) [.agg #[.int .i64 0, .int .i64 0, .int .u32 0, .int .i64 0, .int .i64 0, .slice none 0 0], .int .i64 13] Tryz.func31 ⟨⟨_, _, _, _, rfl, mem_flat 0 rfl, fun w hw => cellOfN (vs := [.int .i64 0, .int .i64 0, .int .u32 0, .int .i64 0, .int .i64 0, .slice none 0 0]) z_agg61 rfl w hw⟩, rfl, trivial⟩ (by simp) hl11 ⟨_, rfl, rfl, Sl.nil⟩
   ·refine Z 8 rfl ?_
    refine o_loadI (v := .pointer (some ⟨bi3, 0, none⟩)) rfl rfl rfl z_sc70 rfl ((hc2.up hl11) 0 _ rfl) ?_
    refine o_move rfl rfl rfl rfl ?_
    obtain ⟨r14, hr15, h⟩ := h
    refine st_call (foot := []) rfl rfl rfl rfl rfl rfl (callV_fn z_en62 (crc_Open_ok hr15 τ10 (hc4.up hl11) hs13)) ?_
    rintro vτ16 τ16 gsτ16 hl17 ⟨v18, rfl, rfl, hs19⟩
    refine Z 11 rfl ?_
    refine st_if rfl h (fun h => ?_) (fun h => ?_)
    ·refine ZZ 7 [0] rfl rfl ?_
     obtain rfl := Eq.symm h
     exact st_retC (gs' := []) [.agg #[.int .i64 0, .int .i64 0, .int .u32 0, .int .i64 0, .int .i64 0, .slice none 0 0], .int .i64 r14.2] Tryz.func31 ⟨⟨_, _, _, _, rfl, mem_flat 0 rfl, fun w hw => cellOfN (vs := [.int .i64 0, .int .i64 0, .int .u32 0, .int .i64 0, .int .i64 0, .slice none 0 0]) z_agg61 rfl w hw⟩, rfl, trivial⟩ (by simp) (hl11.trans hl17) ⟨_, rfl, rfl, Sl.nil⟩
    ·refine Z 4 rfl ?_
     obtain ⟨hf20, h⟩ := h
     refine o_slice (L := 0) (H := 8) rfl rfl rfl z_slT23 rfl rfl hs19 rfl ⟨_, rfl⟩ (by decide) (by decide) hf20 trivial (by simp) (fun v21 hs22 => ?_)
     obtain ⟨r23, hr24, h⟩ := h
     refine st_call (foot := []) rfl rfl rfl rfl rfl rfl (callV_fn z_en63 (head_Parse_ok hr24 τ16 hs22)) ?_
     rintro vτ25 τ25 gsτ25 hl26 ⟨rfl, rfl⟩
     refine Z 3 rfl ?_
     refine o_alloc rfl rfl rfl z_zero59 (fun b27 => ?_)
     refine ZZ 9 [0] rfl rfl ?_
     refine st_if rfl h (fun h => ?_) (fun h => ?_)
     ·refine ZZ 7 [1] rfl rfl ?_
      obtain rfl := Eq.symm h
      exact st_retC (gs' := []) [.agg #[.int .i64 0, .int .i64 0, .int .u32 0, .int .i64 0, .int .i64 0, .slice none 0 0], .int .i64 r23.2] Tryz.func31 ⟨⟨_, _, _, _, rfl, mem_flat 1 rfl, fun w hw => cellOfN (vs := [.int .i64 0, .int .i64 0, .int .u32 0, .int .i64 0, .int .i64 0, .slice none 0 0]) z_agg61 rfl w hw⟩, rfl, trivial⟩ (by simp) ((hl11.trans hl17).trans hl26) ⟨_, rfl, rfl, Sl.nil⟩
     ·refine Z 2 rfl ?_
      obtain ⟨hf28, hf29, h⟩ := h
      refine st_draw 4 (dl [.v (.agg #[.int .i64 r23.1.1, .int .i64 r23.1.2.1, .int .u32 r23.1.2.2.1, .int .i64 r23.1.2.2.2.1, .int .i64 r23.1.2.2.2.2]), .v (v18), .t fun τ v => ∃ (v30 : Value), (v30 : Value) = v ∧ Sl (kI .u8) τ v30 ((r14.1.drop (8 : Int).toNat).take (((r14.1.length : Int) : Int) - 8).toNat), .t fun τ v => ∃ (v30 : Value), (.agg #[.int .i64 r23.1.1, .int .i64 r23.1.2.1, .int .u32 r23.1.2.2.1, .int .i64 r23.1.2.2.2.1, .int .i64 r23.1.2.2.2.2, v30] : Value) = v ∧ Sl (kI .u8) τ v30 ((r14.1.drop (8 : Int).toNat).take (((r14.1.length : Int) : Int) - 8).toNat)]) (fun _ _ => []) z_mix rfl (dl_mono ⟨fun _ _ _ hl ⟨v30, hv, hs31⟩ => ⟨v30, hv, hs31.up hl⟩, ⟨fun _ _ _ hl ⟨v30, hv, hs31⟩ => ⟨v30, hv, hs31.up hl⟩, trivial⟩⟩) (allB_cons (allB_cons (allB_cons (allB_cons allB_nil ?_) (p1 dA)) ?_) ?_) ?_
      ·intro ρ' τ pool rs hl hd hout hk
       refine o_loadN (j := 0) (vs := [.int .i64 r23.1.1, .int .i64 r23.1.2.1, .int .u32 r23.1.2.2.1, .int .i64 r23.1.2.2.2.1, .int .i64 r23.1.2.2.2.2]) rfl rfl rfl z_agg59 ((hout 8 rfl).trans rfl) rfl rfl ?_
       exact st_addNil (hk _ _ (Sto.Le.refl _) rfl)
      ·intro ρ' τ pool rs hl hd hout hk
       obtain ⟨_, e1, rfl⟩ := hd 1 rfl
       refine o_slice (L := 8) (H := (r14.1.length : Int)) rfl rfl rfl z_slT23 rfl e1 (hs19.up (hl26.trans hl)) ⟨_, rfl⟩ rfl (by decide) hf28 hf29 trivial (by simp) (fun v30 hs31 => ?_)
       exact st_addNil (hk _ _ (Sto.Le.refl _) ⟨v30, rfl, hs31⟩)
      ·intro ρ' τ pool rs hl hd hout hk
       obtain ⟨_, e0, rfl⟩ := hd 0 rfl
       obtain ⟨_, e2, v30, rfl, hs31⟩ := hd 2 rfl
       refine o_build (ps := [(0, [.int .i64 r23.1.1, .int .i64 r23.1.2.1, .int .u32 r23.1.2.2.1, .int .i64 r23.1.2.2.2.1, .int .i64 r23.1.2.2.2.2]), (1, [v30])]) (cs := [.int .i64 r23.1.1, .int .i64 r23.1.2.1, .int .u32 r23.1.2.2.1, .int .i64 r23.1.2.2.2.1, .int .i64 r23.1.2.2.2.2, v30]) rfl rfl rfl z_struct61 ⟨rfl, ⟨_, e0, rfl⟩, ⟨rfl, ⟨_, e2, (oneL_sl hs31)⟩, trivial⟩⟩ rfl ?_
       exact st_addNil (hk _ _ (Sto.Le.refl _) ⟨v30, rfl, hs31⟩)
      intro ρ' τ32 vals hl32 hv hout
      obtain ⟨l3, v30, t3, hs31⟩ := hv 3 (by decide)
      replace l3 : Eng.look ρ' 59 = some (.agg #[.int .i64 r23.1.1, .int .i64 r23.1.2.1, .int .u32 r23.1.2.2.1, .int .i64 r23.1.2.2.2.1, .int .i64 r23.1.2.2.2.2, v30]) := l3.trans (congrArg some (Eq.symm t3))
      refine st_ord [0, 0] _ rfl ?_
      refine st_env (ρ' := [(59, .agg #[.int .i64 r23.1.1, .int .i64 r23.1.2.1, .int .u32 r23.1.2.2.1, .int .i64 r23.1.2.2.2.1, .int .i64 r23.1.2.2.2.2, v30]), (4, .pointer (some ⟨b7, 0, none⟩)), (5, .int .i64 0)]) ⟨l3, (hout 4 rfl).trans rfl, (hout 5 rfl).trans rfl, trivial⟩ ?_
      refine o_store (j := 1) (vs := [.int .i64 r23.1.1, .int .i64 r23.1.2.1, .int .u32 r23.1.2.2.1, .int .i64 r23.1.2.2.2.1, .int .i64 r23.1.2.2.2.2, v30]) (cs' := [.int .i64 r23.1.1, .int .i64 r23.1.2.1, .int .u32 r23.1.2.2.1, .int .i64 r23.1.2.2.2.1, .int .i64 r23.1.2.2.2.2, v30]) rfl rfl rfl z_size61 rfl rfl rfl (ones_cons rfl (ones_cons rfl (ones_cons rfl (ones_cons rfl (ones_cons rfl (ones_cons hs31.one' ones_nil)))))) rfl rfl rfl ?_
      refine st_gs [[(b27, .cells #[.int .i64 r23.1.1, .int .i64 r23.1.2.1, .int .u32 r23.1.2.2.1, .int .i64 r23.1.2.2.2.1, .int .i64 r23.1.2.2.2.2] 59 (0, 0))], [(b7, .cells #[.int .i64 r23.1.1, .int .i64 r23.1.2.1, .int .u32 r23.1.2.2.1, .int .i64 r23.1.2.2.2.1, .int .i64 r23.1.2.2.2.2, v30] 61 (0, 0))]] rfl ?_
      refine Z 2 rfl ?_
      obtain rfl := Eq.symm h
      exact st_retC (gs' := []) [.agg #[.int .i64 r23.1.1, .int .i64 r23.1.2.1, .int .u32 r23.1.2.2.1, .int .i64 r23.1.2.2.2.1, .int .i64 r23.1.2.2.2.2, v30], .int .i64 0] Tryz.func31 ⟨⟨_, _, _, _, rfl, mem_flat 1 rfl, fun w hw => cellOfN (vs := [.int .i64 r23.1.1, .int .i64 r23.1.2.1, .int .u32 r23.1.2.2.1, .int .i64 r23.1.2.2.2.1, .int .i64 r23.1.2.2.2.2, v30]) z_agg61 rfl w hw⟩, rfl, trivial⟩ (by simp) (((hl11.trans hl17).trans hl26).trans hl32) ⟨_, rfl, rfl, hs31⟩
theorem noise_Forged_1_ok {c0 : List Int} {c1 : List (List Int)} {c2 : List Int} {bc0 : Nat} {bi3 : Nat} {bi1 : Nat} {bc1 : Nat} {v5 : Value} {bc2 : Nat} {v7 : Value} {σ0 : Sto} (hc0_0 : Cel σ0 ⟨bc0, 0, none⟩ (.pointer (some ⟨bi1, 0, none⟩))) (hc4 : CelN σ0 ⟨bi3, 0, none⟩ (cellsN (Value.int .u32) 0 1024 c0)) (hc2 : CelN σ0 ⟨bi1, 0, none⟩ [.pointer (some ⟨bi3, 0, none⟩)]) (hc1_0 : Cel σ0 ⟨bc1, 0, none⟩ (v5)) (hs6 : Sl (kSl (kI .u8)) σ0 v5 c1) (hc2_0 : Cel σ0 ⟨bc2, 0, none⟩ (v7)) (hs8 : Sl (kI .u8) σ0 v7 c2) :
    IterV Tryz.prog (fun _ x vx => vx = [.int .i64 x]) (.func (.func 29) #[] [.pointer (some ⟨bc0, 0, none⟩), .pointer (some ⟨bc1, 0, none⟩), .pointer (some ⟨bc2, 0, none⟩)].toArray) σ0 [] (fun (_ : Unit) _ f => f = []) (noise_Forged_1 c0 c1 c2) := by
 intro S Y I y hyc hyo hIm hY s s' o hR σ g hle hIg
 obtain ⟨r, hr0⟩ : ∃ r, r = (s', o) := ⟨_, rfl⟩
 rw [← hr0] at hR
 have h := hR
 refine callV_of (caps := [.pointer (some ⟨bc0, 0, none⟩), .pointer (some ⟨bc1, 0, none⟩), .pointer (some ⟨bc2, 0, none⟩)]) z_en29 ?_
 refine call_of Tryz.func29 Tryz.ntmps29 rfl rfl (fun cs fs => ?_)
 refine st_ord [0] _ rfl ?_
 refine Z 2 rfl ?_
 refine o_box (cs := [y]) rfl rfl rfl rfl hyc (fun b9 => ?_)
 refine Z 5 rfl ?_
 refine o_loadI (v := .pointer (some ⟨bi1, 0, none⟩)) rfl rfl rfl z_sc25 rfl (Cel.up hc0_0 hle) ?_
 refine Z 6 rfl ?_
 refine o_makeMap (fk := Value.string) (fv := Value.bool) rfl rfl rfl (fun v10 g11 ho12 => ?_)
 refine o_alloc rfl rfl rfl z_zero83 (fun b13 => ?_)
 refine o_store (j := 0) (vs := [v10]) (cs' := [v10]) rfl rfl rfl z_size83 rfl rfl (oneL_mp ho12) (ones_cons ho12.one' ones_nil) rfl rfl rfl ?_
 refine st_gs [[(b13, .cells #[v10] 83 (0, 0))], g11, [(b9, .cells #[y] 82 (0, 0))], g] rfl ?_
 refine Z 2 rfl ?_
 refine st_cut (fun ρ τ14 gs => ∃ (s14 : S × (List (ByteArray × Bool))) (g15 : Grp) (v17 : Value) (g18 : Grp), noise_Forged_1_j1 S Y c0 c2 s14 r ∧ σ.Le τ14 ∧ ESub ρ [(1, .pointer (some ⟨bc0, 0, none⟩)), (3, .pointer (some ⟨bc2, 0, none⟩)), (4, .pointer (some ⟨b9, 0, none⟩)), (5, .pointer (some ⟨b13, 0, none⟩))] ∧ gs = [[(b9, .cells #[y] 82 (0, 0))], [(b13, .cells #[v17] 83 (0, 0))], g15, g18] ∧ I s14.1 τ14 g15 ∧ Mp Value.string Value.bool τ14 v17 s14.2 g18) ?_ (fun hk14 => ?_)
 ·rintro ρ14 τ14 gs14 ⟨s14, g15, v17, g18, h, hl14, hρ, rfl, hI16, ho19⟩
  refine st_es hρ ?_
  refine Z 4 rfl ?_
  refine o_loadI (v := v7) rfl rfl rfl z_sc23 rfl (Cel.up hc2_0 (hle.trans hl14)) ?_
  obtain ⟨r20, hr21, h⟩ := h
  refine st_call (foot := []) rfl rfl rfl rfl rfl rfl (callV_fn z_en30 (fence_Segments_ok hr21 τ14 (hs8.up (hle.trans hl14)))) ?_
  rintro vτ22 τ22 gsτ22 hl23 ⟨f24, q25, rfl, rfl, hit26⟩
  refine Z 2 rfl ?_
  obtain ⟨t27, w27, hR27, hA27⟩ := h
  refine st_env (ρ' := [(1, .pointer (some ⟨bc0, 0, none⟩)), (4, .pointer (some ⟨b9, 0, none⟩)), (5, .pointer (some ⟨b13, 0, none⟩)), (32, .func (.func f24) #[] q25)]) ⟨rfl, rfl, rfl, rfl, trivial⟩ ?_
  refine st_ord [0, 0, 1, 0] _ rfl ?_
  refine st_addNil ?_
  refine st_range (B := noise_Forged_1_l2 S Y c0 s14) (s0 := s14.1) ranges_fctx rfl hit26 (Sto.Le.refl _) hR27 rfl (fun _ _ _ h => by obtain ⟨_, rfl, _⟩ := h; rfl) (fun (s27 : S) τ27 gs => τ22.Le τ27 ∧ ∃ (g28 : Grp), gs = [[(b9, .cells #[y] 82 (0, 0))], [(b13, .cells #[v17] 83 (0, 0))], g18, g28] ∧ I s27 τ27 g28) (fun (p49 : S) cd τ50 gs => cd = .exit 4 ∧ τ22.Le τ50 ∧ ∃ (g52 : Grp), gs = [[(b9, .cells #[y] 82 (0, 0))], [(b13, .cells #[v17] 83 (0, 0))], g18, g52] ∧ I p49 τ50 g52) (fun _ _ _ _ hl ⟨hb, g28, hg, hI29⟩ => ⟨hb.trans hl, g28, hg, hIm _ _ _ _ hl hI29⟩) (fun _ _ _ _ _ hl ⟨hc, hb, g52, hg, hI53⟩ => ⟨hc, hb.trans hl, g52, hg, hIm _ _ _ _ hl hI53⟩) ⟨Sto.Le.refl _, g15, rfl, (hIm _ _ _ _ hl23 hI16)⟩ ?_ ?_ ?_
  ·rintro x27 s27 o27 τ27 gs27 vx27 hl27 h ⟨v30, rfl, hs31⟩ ⟨hb27, g28, rfl, hI29⟩ l27 rc27 caller27 cs27 fs27
   refine Z 7 rfl ?_
   refine st_begin ?_
   refine Z 3 rfl ?_
   refine o_loadI (v := .pointer (some ⟨bi1, 0, none⟩)) rfl rfl rfl z_sc25 rfl (Cel.up hc0_0 (((hle.trans hl14).trans hl23).trans hl27)) ?_
   refine o_move rfl rfl rfl rfl ?_
   obtain ⟨r32, hr33, h⟩ := h
   refine st_call (foot := []) rfl rfl rfl rfl rfl rfl (callV_fn z_en31 (frame_Codec_Unpack_ok hr33 τ27 (hc4.up (((hle.trans hl14).trans hl23).trans hl27)) (hc2.up (((hle.trans hl14).trans hl23).trans hl27)) hs31)) ?_
   rintro vτ34 τ34 gsτ34 hl35 ⟨v36, rfl, rfl, hs37⟩
   refine Z 3 rfl ?_
   refine o_alloc rfl rfl rfl z_zero61 (fun b38 => ?_)
   refine o_store (j := 0) (vs := [.int .i64 r32.1.1.1, .int .i64 r32.1.1.2.1, .int .u32 r32.1.1.2.2.1, .int .i64 r32.1.1.2.2.2.1, .int .i64 r32.1.1.2.2.2.2, v36]) (cs' := [.int .i64 r32.1.1.1, .int .i64 r32.1.1.2.1, .int .u32 r32.1.1.2.2.1, .int .i64 r32.1.1.2.2.2.1, .int .i64 r32.1.1.2.2.2.2, v36]) rfl rfl rfl z_size61 rfl rfl rfl (ones_cons rfl (ones_cons rfl (ones_cons rfl (ones_cons rfl (ones_cons rfl (ones_cons hs37.one' ones_nil)))))) rfl rfl rfl ?_
   refine st_gs [[(b38, .cells #[.int .i64 r32.1.1.1, .int .i64 r32.1.1.2.1, .int .u32 r32.1.1.2.2.1, .int .i64 r32.1.1.2.2.2.1, .int .i64 r32.1.1.2.2.2.2, v36] 61 (0, 0))], [(b9, .cells #[y] 82 (0, 0))], [(b13, .cells #[v17] 83 (0, 0))], g18, g28] rfl ?_
   refine Z 4 rfl ?_
   refine st_cut (fun ρ τ39 gs => ∃ (s39 : S × Bool) (g40 : Grp), noise_Forged_1_j3 S Y x27 s39 o27 ∧ τ34.Le τ39 ∧ ESub ρ [(1, .pointer (some ⟨bc0, 0, none⟩)), (4, .pointer (some ⟨b9, 0, none⟩)), (5, .pointer (some ⟨b13, 0, none⟩)), (33, .int .i64 x27.1), (34, v30), (10, .int .i64 x27.1), (11, v30), (48, .bool s39.2)] ∧ gs = [[(b9, .cells #[y] 82 (0, 0))], [(b13, .cells #[v17] 83 (0, 0))], g18, g40] ∧ I s39.1 τ39 g40) ?_ (fun hk39 => ?_)
   ·rintro ρ39 τ39 gs39 ⟨s39, g40, h, hl39, hρ, rfl, hI41⟩
    refine st_es hρ ?_
    refine st_if rfl h (fun h => ?_) (fun h => ?_)
    ·refine st_exit rfl ?_
     exact st_rend (List.Sublist.refl _) (hl35.trans hl39) ⟨_, h, ((hl27.trans hl35).trans hl39), g40, rfl, hI41⟩
    ·refine ZZ 5 [0] rfl rfl ?_
     obtain ⟨y42, u43, hy44, h⟩ := h
     refine st_ord [3, 0, 0, 0] _ rfl ?_
     refine st_call (foot := [g40]) rfl rfl rfl rfl rfl rfl (hY x27.1 s39.1 _ _ _ _ _ (hle.trans ((((hl14.trans hl23).trans hl27).trans hl35).trans hl39)) hy44 rfl hI41) ?_
     rintro vτ45 τ45 gsτ45 hl46 ⟨rfl, g47, rfl, hI48⟩
     refine Z 2 rfl ?_
     refine st_if rfl h (fun h => ?_) (fun h => ?_)
     ·refine st_ord [1, 1, 1, 0] _ rfl ?_
      exact st_rexit rfl (List.Sublist.refl _) ((hl35.trans hl39).trans hl46) ⟨_, h, rfl, (((hl27.trans hl35).trans hl39).trans hl46), g47, rfl, hI48⟩
     ·refine Z 2 rfl ?_
      refine st_ord [1, 1, 1, 0] _ rfl ?_
      exact st_rend (List.Sublist.refl _) ((hl35.trans hl39).trans hl46) ⟨_, h, (((hl27.trans hl35).trans hl39).trans hl46), g47, rfl, hI48⟩
   refine Z 3 rfl ?_
   refine o_mif rfl rfl rfl rfl h (fun h => ?_) (fun h => ?_)
   ·refine Z 6 rfl ?_
    refine st_ord [1, 1, 1, 1] _ rfl ?_
    exact hk39 _ _ _ ⟨(s27, true), g28, h, (Sto.Le.refl _), rfl, rfl, (hIm _ _ _ _ hl35 hI29)⟩
   ·refine ZZ 2 [2] rfl rfl ?_
    refine o_bstr (xs := x27.2) rfl rfl rfl Tryz.underlying23 Tryz.underlying5 Tryz.underlying9 rfl (hs31.up hl35) ?_
    refine o_lookup (fv := Value.bool) (q0 := false) (j := 3) (a := (bstr x27.2)) rfl rfl rfl z_map83 (keyS Tryz.underlying9) z_zeroV4 rfl (ho19.up ((hl23.trans hl27).trans hl35)) rfl rfl ?_
    refine Z 2 rfl ?_
    refine st_ord [1, 1, 1, 1] _ rfl ?_
    exact hk39 _ _ _ ⟨(s27, ((mget s14.2 (bstr x27.2)).getD false)), g28, h, (Sto.Le.refl _), rfl, rfl, (hIm _ _ _ _ hl35 hI29)⟩
  ·rintro p54 τ55 gs27 f27 ht hl56 ⟨hb, g57, rfl, hI58⟩ rfl
   subst ht
   replace h := hA27
   refine st_ord [1, 1, 1, 1] _ rfl ?_
   refine Z 2 rfl ?_
   refine st_ord [3] _ rfl ?_
   obtain rfl := Eq.symm h
   cases hr0
   exact st_fin (gs' := [g57, []]) Tryz.func29 rfl (by simp) ((hl14.trans hl23).trans hl56) ⟨g57, _, rfl, hI58, rfl⟩
  ·rintro p49 cd27 τ50 gs27 f27 ht hl51 ⟨rfl, hb, g52, rfl, hI53⟩ rfl
   subst ht
   replace h := hA27
   refine st_ord [1, 1, 1, 1] _ rfl ?_
   refine Z 2 rfl ?_
   refine st_ord [3] _ rfl ?_
   obtain rfl := Eq.symm h
   cases hr0
   exact st_fin (gs' := [g52, []]) Tryz.func29 rfl (by simp) ((hl14.trans hl23).trans hl51) ⟨g52, _, rfl, hI53, rfl⟩
 refine Z 2 rfl ?_
 refine o_loadI (v := v5) rfl rfl rfl z_sc22 rfl (Cel.up hc1_0 hle) ?_
 refine o_lenI rfl rfl rfl z_slT22 rfl (hs6.up hle) ?_
 refine Z 2 rfl ?_
 obtain ⟨e59, hL59, hA59⟩ := h
 refine st_ord [2, 0, 1, 0] _ rfl ?_
 refine st_loop hL59 (fun (s59 : S × Int × (List (ByteArray × Bool))) ρ τ59 gs => σ.Le τ59 ∧ ∃ (g60 : Grp) (v62 : Value) (g63 : Grp), ESub ρ [(1, .pointer (some ⟨bc0, 0, none⟩)), (3, .pointer (some ⟨bc2, 0, none⟩)), (4, .pointer (some ⟨b9, 0, none⟩)), (5, .pointer (some ⟨b13, 0, none⟩)), (17, v5), (18, .int .i64 (c1.length : Int)), (19, .int .i64 s59.2.1)] ∧ gs = [[(b9, .cells #[y] 82 (0, 0))], [(b13, .cells #[v62] 83 (0, 0))], g60, g63] ∧ I s59.1 τ59 g60 ∧ Mp Value.string Value.bool τ59 v62 s59.2.2 g63) ⟨Sto.Le.refl _, g, _, _, rfl, rfl, hIg, ho12⟩ ?_
 rintro s59 o59 h he59 ρ59 τ59 gs59 ⟨hl59, g60, v62, g63, hρ, rfl, hI61, ho64⟩ hn59
 refine st_es hρ ?_
 refine Z 5 rfl ?_
 refine st_if rfl h (fun h => ?_) (fun h => ?_)
 ·refine Z 5 rfl ?_
  obtain ⟨q65, hf66, h⟩ := h
  refine o_index rfl rfl rfl z_slT22 rfl rfl (hs6.up (hle.trans hl59)) rfl hf66 (fun b67 of68 vs hc70 hrep => ?_)
  obtain ⟨v69, rfl, hs71⟩ := hrep
  refine o_loadI (v := v69) rfl rfl rfl z_sc23 rfl (hc70 0 _ rfl) ?_
  refine Z 5 rfl ?_
  obtain ⟨r72, hr73, h⟩ := h
  refine st_call (foot := []) rfl rfl rfl rfl rfl rfl (callV_fn z_en30 (fence_Segments_ok hr73 τ59 hs71)) ?_
  rintro vτ74 τ74 gsτ74 hl75 ⟨f76, q77, rfl, rfl, hit78⟩
  refine Z 2 rfl ?_
  obtain ⟨t79, w79, hR79, hA79⟩ := h
  refine st_env (ρ' := [(1, .pointer (some ⟨bc0, 0, none⟩)), (3, .pointer (some ⟨bc2, 0, none⟩)), (4, .pointer (some ⟨b9, 0, none⟩)), (5, .pointer (some ⟨b13, 0, none⟩)), (17, v5), (18, .int .i64 (c1.length : Int)), (19, .int .i64 s59.2.1), (24, .func (.func f76) #[] q77)]) ⟨rfl, rfl, rfl, rfl, rfl, rfl, rfl, rfl, trivial⟩ ?_
  refine st_addNil ?_
  refine st_range (B := noise_Forged_1_l5 S Y) (s0 := (s59.1, s59.2.2)) ranges_fctx rfl hit78 (Sto.Le.refl _) hR79 rfl (fun _ _ _ h => by obtain ⟨_, rfl, _⟩ := h; rfl) (fun (s79 : S × (List (ByteArray × Bool))) τ79 gs => τ74.Le τ79 ∧ ∃ (g80 : Grp) (v82 : Value) (g83 : Grp), gs = [[(b9, .cells #[y] 82 (0, 0))], [(b13, .cells #[v82] 83 (0, 0))], g80, g83] ∧ I s79.1 τ79 g80 ∧ Mp Value.string Value.bool τ79 v82 s79.2 g83) (fun _ _ _ _ => False) (fun _ _ _ _ hl ⟨hb, g80, v82, g83, hg, hI81, ho84⟩ => ⟨hb.trans hl, g80, v82, g83, hg, hIm _ _ _ _ hl hI81, ho84.up hl⟩) (fun _ _ _ _ _ _ h => h.elim) ⟨Sto.Le.refl _, g60, _, _, rfl, (hIm _ _ _ _ hl75 hI61), (ho64.up hl75)⟩ ?_ ?_ ?_
  ·rintro x79 s79 o79 τ79 gs79 vx79 hl79 h ⟨v85, rfl, hs86⟩ ⟨hb79, g80, v82, g83, rfl, hI81, ho84⟩ l79 rc79 caller79 cs79 fs79
   refine Z 3 rfl ?_
   refine st_begin ?_
   refine ZZ 4 [1] rfl rfl ?_
   refine o_bstr (xs := x79.2) rfl rfl rfl Tryz.underlying23 Tryz.underlying5 Tryz.underlying9 rfl hs86 ?_
   refine o_mapUpdate (j := 3) (a := (bstr x79.2)) (q := true) rfl rfl rfl z_map83 (keyS Tryz.underlying9) rfl ho84 rfl rfl rfl (fun g87 ho88 => ?_)
   refine st_gs [[(b9, .cells #[y] 82 (0, 0))], [(b13, .cells #[v82] 83 (0, 0))], g80, g87] rfl ?_
   refine Z 2 rfl ?_
   exact st_rend (List.Sublist.refl _) (Sto.Le.refl _) ⟨_, h, hl79, g80, _, _, rfl, hI81, ho88⟩
  ·rintro p89 τ90 gs79 f79 ht hl91 ⟨hb, g92, v94, g95, rfl, hI93, ho96⟩ rfl
   subst ht
   replace h := hA79
   refine st_ord [1, 1, 1, 1] _ rfl ?_
   refine Z 6 rfl ?_
   exact hn59 _ _ _ _ h ⟨((hl59.trans hl75).trans hl91), g92, _, _, rfl, rfl, hI93, ho96⟩
  ·exact fun _ _ _ _ _ _ _ h => h.elim
 ·refine st_exit rfl ?_
  obtain rfl := he59 _ h
  replace h := hA59
  exact hk14 _ _ _ ⟨(s59.1, s59.2.2), g60, _, _, h, hl59, rfl, rfl, hI61, ho64⟩
theorem noise_Forged_ok {a0 : List Int} {a1 : List (List Int)} {a2 : List Int} {bi3 : Nat} {bi1 : Nat} {v5 : Value} {v7 : Value} {r : (((S : Type) → (Int → S → Bool × S → Prop) → S → S × Unit → Prop))} (h : noise_Forged a0 a1 a2 r) (σ : Sto) (hc4 : CelN σ ⟨bi3, 0, none⟩ (cellsN (Value.int .u32) 0 1024 a0)) (hc2 : CelN σ ⟨bi1, 0, none⟩ [.pointer (some ⟨bi3, 0, none⟩)]) (hs6 : Sl (kSl (kI .u8)) σ v5 a1) (hs8 : Sl (kI .u8) σ v7 a2) :
    Does Tryz.prog 10 [.pointer (some ⟨bi1, 0, none⟩), v5, v7] σ [] (fun v τ gs => ∃ (f21 : Nat) (q22 : Array Value), gs = [] ∧ .func (.func f21) #[] q22 = v ∧ IterV Tryz.prog (fun _ x vx => vx = [.int .i64 x]) (.func (.func f21) #[] q22) τ [] (fun (_ : Unit) _ f => f = []) r) := by
 refine call_of Tryz.func10 Tryz.ntmps10 rfl rfl (fun cs fs => ?_)
 refine Z 2 rfl ?_
 refine o_box (cs := [.pointer (some ⟨bi1, 0, none⟩)]) rfl rfl rfl rfl rfl (fun b9 => ?_)
 refine o_box (cs := [v5]) rfl rfl rfl rfl (oneL_sl hs6) (fun b10 => ?_)
 refine o_box (cs := [v7]) rfl rfl rfl rfl (oneL_sl hs8) (fun b11 => ?_)
 refine Z 4 rfl ?_
 refine st_ord [2, 0, 0] _ rfl ?_
 refine st_freeze (fun τ12 hl13 hg14 => ?_)
 refine st_ord [1, 0] _ rfl ?_
 refine st_freeze (fun τ15 hl16 hg17 => ?_)
 refine st_freeze (fun τ18 hl19 hg20 => ?_)
 refine Z 3 rfl ?_
 obtain rfl := Eq.symm h
 exact st_ret (gs' := []) Tryz.func10 rfl (List.Sublist.refl _) ((hl13.trans hl16).trans hl19) ⟨_, _, rfl, rfl, (noise_Forged_1_ok (Cel.up (cel_of hg14 rfl) (hl16.trans hl19)) (hc4.up ((hl13.trans hl16).trans hl19)) (hc2.up ((hl13.trans hl16).trans hl19)) (Cel.up (cel_of hg17 rfl) hl19) (hs6.up ((hl13.trans hl16).trans hl19)) (cel_of hg20 rfl) (hs8.up ((hl13.trans hl16).trans hl19)))⟩
theorem noise_word_ok {a0 : Int} {r : ByteArray × Int} (h : noise_word a0 r) (σ : Sto)  :
    Does Tryz.prog 64 [.int .i64 a0] σ [] (fun v τ gs => gs = [] ∧ .tuple [.string r.1, .int .i64 r.2].toArray = v) := by
 refine call_of Tryz.func64 Tryz.ntmps64 rfl rfl (fun cs fs => ?_)
 refine Z 2 rfl ?_
 refine o_assign rfl rfl rfl (ev_str z_str0) ?_
 refine Z 13 rfl ?_
 refine st_if rfl h (fun h => ?_) (fun h => ?_)
 ·refine Z 2 rfl ?_
  refine o_assign rfl rfl rfl (ev_str z_str1) ?_
  refine Z 2 rfl ?_
  obtain rfl := Eq.symm h
  exact st_ret (gs' := []) Tryz.func64 rfl (List.Sublist.refl _) (Sto.Le.refl _) ⟨rfl, rfl⟩
 ·refine Z 5 rfl ?_
  refine st_if rfl h (fun h => ?_) (fun h => ?_)
  ·refine Z 2 rfl ?_
   refine o_assign rfl rfl rfl (ev_str z_str2) ?_
   refine Z 2 rfl ?_
   obtain rfl := Eq.symm h
   exact st_ret (gs' := []) Tryz.func64 rfl (List.Sublist.refl _) (Sto.Le.refl _) ⟨rfl, rfl⟩
  ·refine Z 5 rfl ?_
   refine st_if rfl h (fun h => ?_) (fun h => ?_)
   ·refine Z 2 rfl ?_
    refine o_assign rfl rfl rfl (ev_str z_str3) ?_
    refine Z 2 rfl ?_
    obtain rfl := Eq.symm h
    exact st_ret (gs' := []) Tryz.func64 rfl (List.Sublist.refl _) (Sto.Le.refl _) ⟨rfl, rfl⟩
   ·refine Z 5 rfl ?_
    refine st_if rfl h (fun h => ?_) (fun h => ?_)
    ·refine Z 2 rfl ?_
     refine o_assign rfl rfl rfl (ev_str z_str4) ?_
     refine Z 2 rfl ?_
     obtain rfl := Eq.symm h
     exact st_ret (gs' := []) Tryz.func64 rfl (List.Sublist.refl _) (Sto.Le.refl _) ⟨rfl, rfl⟩
    ·refine Z 4 rfl ?_
     refine o_assign rfl rfl rfl (ev_str z_str0) ?_
     refine Z 2 rfl ?_
     obtain rfl := Eq.symm h
     exact st_ret (gs' := []) Tryz.func64 rfl (List.Sublist.refl _) (Sto.Le.refl _) ⟨rfl, rfl⟩
theorem noise_Check_ok {a0 : Int × Int × Int × Int × List Int} {a1 : Int} {v1 : Value} {r : Int} (h : noise_Check a0 a1 r) (σ : Sto) (hs2 : Sl (kI .u8) σ v1 a0.2.2.2.2) :
    Does Tryz.prog 119 [.agg [.int .i64 a0.1, .int .i64 a0.2.1, .int .i64 a0.2.2.1, .int .i64 a0.2.2.2.1, v1].toArray, .int .i64 a1] σ [] (fun v τ gs => gs = [] ∧ .int .i64 r = v) := by
 refine call_of Tryz.func119 Tryz.ntmps119 rfl rfl (fun cs fs => ?_)
 refine Z 2 rfl ?_
 refine o_box (cs := [.int .i64 a0.1, .int .i64 a0.2.1, .int .i64 a0.2.2.1, .int .i64 a0.2.2.2.1, v1]) rfl rfl rfl rfl rfl (fun b3 => ?_)
 refine ZZ 6 [0] rfl rfl ?_
 obtain ⟨r4, hr5, h⟩ := h
 refine st_call (foot := []) rfl rfl rfl rfl rfl rfl (callV_fn z_en64 (noise_word_ok hr5 σ)) ?_
 rintro vτ6 τ6 gsτ6 hl7 ⟨rfl, rfl⟩
 refine Z 11 rfl ?_
 refine o_sbin (v := .bool (decide (r4.1 = (bstr [])))) rfl rfl rfl rfl (ev_str z_str0) rfl ?_
 refine Z 2 rfl ?_
 refine st_if rfl h (fun h => ?_) (fun h => ?_)
 ·refine Z 4 rfl ?_
  refine st_ord [] _ rfl ?_
  obtain rfl := Eq.symm h
  exact st_ret (gs' := []) Tryz.func119 rfl (List.Sublist.refl _) hl7 ⟨rfl, rfl⟩
 ·refine st_seq ?_
  refine st_cut (fun ρ τ8 gs => ∃ (s8 : Bool), noise_Check_j1 a0 s8 r ∧ τ6.Le τ8 ∧ ESub ρ [(2, .pointer (some ⟨b3, 0, none⟩)), (4, .int .i64 0), (16, .bool s8)] ∧ gs = [[(b3, .cells #[.int .i64 a0.1, .int .i64 a0.2.1, .int .i64 a0.2.2.1, .int .i64 a0.2.2.2.1, v1] 67 (0, 0))]]) ?_ (fun hk8 => ?_)
  ·rintro ρ8 τ8 gs8 ⟨s8, h, hl8, hρ, rfl⟩
   refine st_es hρ ?_
   refine st_if rfl h (fun h => ?_) (fun h => ?_)
   ·refine Z 4 rfl ?_
    refine st_ord [] _ rfl ?_
    obtain rfl := Eq.symm h
    exact st_ret (gs' := []) Tryz.func119 rfl (List.Sublist.refl _) (hl7.trans hl8) ⟨rfl, rfl⟩
   ·refine st_seq ?_
    refine st_cut (fun ρ τ9 gs => ∃ (s9 : Bool), noise_Check_j2 s9 r ∧ τ8.Le τ9 ∧ ESub ρ [(4, .int .i64 0), (31, .bool s9)] ∧ gs = []) ?_ (fun hk9 => ?_)
    ·rintro ρ9 τ9 gs9 ⟨s9, h, hl9, hρ, rfl⟩
     refine st_es hρ ?_
     refine st_if rfl h (fun h => ?_) (fun h => ?_)
     ·refine Z 4 rfl ?_
      obtain rfl := Eq.symm h
      exact st_ret (gs' := []) Tryz.func119 rfl (List.Sublist.refl _) ((hl7.trans hl8).trans hl9) ⟨rfl, rfl⟩
     ·refine Z 6 rfl ?_
      obtain rfl := Eq.symm h
      exact st_ret (gs' := []) Tryz.func119 rfl (List.Sublist.refl _) ((hl7.trans hl8).trans hl9) ⟨rfl, rfl⟩
    refine ZZ 4 [0] rfl rfl ?_
    refine o_mif rfl rfl rfl rfl h (fun h => ?_) (fun h => ?_)
    ·refine ZZ 8 [0] rfl rfl ?_
     refine o_mif rfl rfl rfl rfl h (fun h => ?_) (fun h => ?_)
     ·refine Z 17 rfl ?_
      refine st_ord [] _ rfl ?_
      exact hk9 _ _ _ ⟨true, h, (Sto.Le.refl _), rfl, rfl⟩
     ·refine ZZ 5 [0] rfl rfl ?_
      refine o_mif rfl rfl rfl rfl h (fun h => ?_) (fun h => ?_)
      ·refine Z 11 rfl ?_
       refine st_ord [] _ rfl ?_
       exact hk9 _ _ _ ⟨true, h, (Sto.Le.refl _), rfl, rfl⟩
      ·refine ZZ 3 [0] rfl rfl ?_
       refine o_mif rfl rfl rfl rfl h (fun h => ?_) (fun h => ?_)
       ·refine ZZ 7 [0] rfl rfl ?_
        refine st_ord [] _ rfl ?_
        exact hk9 _ _ _ ⟨(decide (255 < a0.2.2.2.1)), h, (Sto.Le.refl _), rfl, rfl⟩
       ·refine Z 7 rfl ?_
        refine st_ord [] _ rfl ?_
        exact hk9 _ _ _ ⟨false, h, (Sto.Le.refl _), rfl, rfl⟩
    ·refine ZZ 4 [0] rfl rfl ?_
     refine o_mif rfl rfl rfl rfl h (fun h => ?_) (fun h => ?_)
     ·refine ZZ 3 [0] rfl rfl ?_
      refine o_mif rfl rfl rfl rfl h (fun h => ?_) (fun h => ?_)
      ·refine Z 17 rfl ?_
       refine st_ord [] _ rfl ?_
       exact hk9 _ _ _ ⟨true, h, (Sto.Le.refl _), rfl, rfl⟩
      ·refine ZZ 5 [0] rfl rfl ?_
       refine o_mif rfl rfl rfl rfl h (fun h => ?_) (fun h => ?_)
       ·refine Z 11 rfl ?_
        refine st_ord [] _ rfl ?_
        exact hk9 _ _ _ ⟨true, h, (Sto.Le.refl _), rfl, rfl⟩
       ·refine ZZ 3 [0] rfl rfl ?_
        refine o_mif rfl rfl rfl rfl h (fun h => ?_) (fun h => ?_)
        ·refine ZZ 7 [0] rfl rfl ?_
         refine st_ord [] _ rfl ?_
         exact hk9 _ _ _ ⟨(decide (255 < a0.2.2.2.1)), h, (Sto.Le.refl _), rfl, rfl⟩
        ·refine Z 7 rfl ?_
         refine st_ord [] _ rfl ?_
         exact hk9 _ _ _ ⟨false, h, (Sto.Le.refl _), rfl, rfl⟩
     ·refine ZZ 13 [0] rfl rfl ?_
      refine o_mif rfl rfl rfl rfl h (fun h => ?_) (fun h => ?_)
      ·refine ZZ 7 [0] rfl rfl ?_
       refine st_ord [] _ rfl ?_
       exact hk9 _ _ _ ⟨(decide (255 < a0.2.2.2.1)), h, (Sto.Le.refl _), rfl, rfl⟩
      ·refine Z 7 rfl ?_
       refine st_ord [] _ rfl ?_
       exact hk9 _ _ _ ⟨false, h, (Sto.Le.refl _), rfl, rfl⟩
  refine ZZ 4 [0] rfl rfl ?_
  refine o_mif rfl rfl rfl rfl h (fun h => ?_) (fun h => ?_)
  ·refine ZZ 3 [0] rfl rfl ?_
   refine o_mif rfl rfl rfl rfl h (fun h => ?_) (fun h => ?_)
   ·refine Z 8 rfl ?_
    exact hk8 _ _ _ ⟨true, h, (Sto.Le.refl _), rfl, rfl⟩
   ·refine ZZ 8 [0] rfl rfl ?_
    exact hk8 _ _ _ ⟨(decide (a1 ≤ a0.2.1)), h, (Sto.Le.refl _), rfl, rfl⟩
  ·refine Z 12 rfl ?_
   exact hk8 _ _ _ ⟨false, h, (Sto.Le.refl _), rfl, rfl⟩
theorem noise_Bytes_ok {a0 : List (List Int)} {a1 : Int × Int × Int × Int × List Int} {v1 : Value} {v3 : Value} {r : List Int} (h : noise_Bytes a0 a1 r) (σ : Sto) (hs2 : Sl (kSl (kI .u8)) σ v1 a0) (hs4 : Sl (kI .u8) σ v3 a1.2.2.2.2) :
    Does Tryz.prog 93 [v1, .agg [.int .i64 a1.1, .int .i64 a1.2.1, .int .i64 a1.2.2.1, .int .i64 a1.2.2.2.1, v3].toArray] σ [] (fun v τ gs => ∃ (v87 : Value), gs = [] ∧ v87 = v ∧ Sl (kI .u8) τ v87 r) := by
 refine call_of Tryz.func93 Tryz.ntmps93 rfl rfl (fun cs fs => ?_)
 refine Z 2 rfl ?_
 refine o_box (cs := [.int .i64 a1.1, .int .i64 a1.2.1, .int .i64 a1.2.2.1, .int .i64 a1.2.2.2.1, v3]) rfl rfl rfl rfl rfl (fun b5 => ?_)
 refine ZZ 7 [0] rfl rfl ?_
 refine o_lenI rfl rfl rfl z_slT22 rfl hs2 ?_
 obtain ⟨r6, hr7, h⟩ := h
 refine st_call (foot := []) rfl rfl rfl rfl rfl rfl (callV_fn z_en119 (noise_Check_ok hr7 σ hs4)) ?_
 rintro vτ8 τ8 gsτ8 hl9 ⟨rfl, rfl⟩
 refine Z 2 rfl ?_
 refine st_if rfl h (fun h => ?_) (fun h => ?_)
 ·refine Z 4 rfl ?_
  refine st_ord [] _ rfl ?_
  obtain rfl := Eq.symm h
  exact st_ret (gs' := []) Tryz.func93 rfl (List.Sublist.refl _) hl9 ⟨_, rfl, rfl, Sl.nil⟩
 ·refine ZZ 8 [0] rfl rfl ?_
  refine st_if rfl h (fun h => ?_) (fun h => ?_)
  ·refine Z 2 rfl ?_
   refine o_lit (dk := (kI .u8)) (xs := ([] : List Int)) (ps := []) (cs := []) rfl rfl rfl z_slT23 z_zero5 trivial rfl rfl rfl rfl Kd.Many.nil (fun v10 g11 ho12 => ?_)
   refine ZZ 2 [1] rfl rfl ?_
   obtain ⟨hf16, hf17, h⟩ := h
   refine o_append (dk := (kI .u8)) (xs := ([] : List Int)) (ys := a1.2.2.2.2) rfl rfl rfl rfl z_slT23 rfl ho12 rfl (Sl.src (hs4.up hl9)) hf16 hf17 (fun v13 g14 ho15 => ?_)
   refine Z 2 rfl ?_
   refine st_freeze (fun τ18 hl19 hg20 => ?_)
   have hs21 := ho15.freeze hl19 hg20
   refine st_ord [] _ rfl ?_
   obtain rfl := Eq.symm h
   exact st_ret (gs' := []) Tryz.func93 rfl (List.Sublist.refl _) (hl9.trans hl19) ⟨_, rfl, rfl, hs21⟩
  ·refine Z 3 rfl ?_
   refine o_lit (dk := (kI .u8)) (xs := ([] : List Int)) (ps := []) (cs := []) rfl rfl rfl z_slT23 z_zero5 trivial rfl rfl rfl rfl Kd.Many.nil (fun v23 g24 ho25 => ?_)
   refine ZZ 3 [1] rfl rfl ?_
   obtain ⟨q26, hf27, h⟩ := h
   refine o_index rfl rfl rfl z_slT22 rfl rfl (hs2.up hl9) rfl hf27 (fun b28 of29 vs hc31 hrep => ?_)
   obtain ⟨v30, rfl, hs32⟩ := hrep
   refine o_loadI (v := v30) rfl rfl rfl z_sc23 rfl (hc31 0 _ rfl) ?_
   obtain ⟨hf36, hf37, h⟩ := h
   refine o_append (dk := (kI .u8)) (xs := ([] : List Int)) (ys := q26) rfl rfl rfl rfl z_slT23 rfl ho25 rfl (Sl.src hs32) hf36 hf37 (fun v33 g34 ho35 => ?_)
   refine Z 3 rfl ?_
   refine st_cut (fun ρ τ38 gs => ∃ (s38 : List Int) (v39 : Value), noise_Bytes_j1 s38 r ∧ τ8.Le τ38 ∧ ESub ρ [(4, .slice none 0 0), (5, v39)] ∧ gs = [] ∧ Sl (kI .u8) τ38 v39 s38) ?_ (fun hk38 => ?_)
   ·rintro ρ38 τ38 gs38 ⟨s38, v39, h, hl38, hρ, rfl, hs40⟩
    refine st_es hρ ?_
    refine Z 5 rfl ?_
    obtain rfl := Eq.symm h
    exact st_ret (gs' := []) Tryz.func93 rfl (List.Sublist.refl _) (hl9.trans hl38) ⟨_, rfl, rfl, hs40⟩
   refine ZZ 11 [1] rfl rfl ?_
   refine st_if rfl h (fun h => ?_) (fun h => ?_)
   ·refine ZZ 6 [1] rfl rfl ?_
    refine o_lenO rfl rfl rfl z_slT23 rfl ho35 ?_
    refine o_min2 rfl rfl rfl rfl rfl ?_
    obtain ⟨hf48, hf49, hf50, h⟩ := h
    refine st_freeze (fun τ41 hl42 hg43 => ?_)
    have hs44 := ho35.freeze hl42 hg43
    refine o_slice (L := (min a1.2.2.1 ((([] : List Int) ++ q26).length : Int))) (H := ((([] : List Int) ++ q26).length : Int)) rfl rfl rfl z_slT23 rfl rfl hs44 ⟨_, rfl⟩ rfl hf48 hf49 hf50 trivial (by simp) (fun v51 hs52 => ?_)
    refine ZZ 7 [0] rfl rfl ?_
    refine o_lenI rfl rfl rfl z_slT23 rfl hs52 ?_
    refine o_min2 rfl rfl rfl rfl rfl ?_
    obtain ⟨hf53, hf54, h⟩ := h
    refine o_slice (L := 0) (H := (min a1.2.2.2.1 ((((([] : List Int) ++ q26).drop (min a1.2.2.1 ((([] : List Int) ++ q26).length : Int)).toNat).take ((((([] : List Int) ++ q26).length : Int) : Int) - (min a1.2.2.1 ((([] : List Int) ++ q26).length : Int))).toNat).length : Int))) rfl rfl rfl z_slT23 rfl rfl hs52 rfl ⟨_, rfl⟩ (by decide) hf53 hf54 trivial (by simp) (fun v55 hs56 => ?_)
    refine Z 3 rfl ?_
    refine st_ord [] _ rfl ?_
    exact hk38 _ _ _ ⟨(((((([] : List Int) ++ q26).drop (min a1.2.2.1 ((([] : List Int) ++ q26).length : Int)).toNat).take ((((([] : List Int) ++ q26).length : Int) : Int) - (min a1.2.2.1 ((([] : List Int) ++ q26).length : Int))).toNat).drop (0 : Int).toNat).take (((min a1.2.2.2.1 ((((([] : List Int) ++ q26).drop (min a1.2.2.1 ((([] : List Int) ++ q26).length : Int)).toNat).take ((((([] : List Int) ++ q26).length : Int) : Int) - (min a1.2.2.1 ((([] : List Int) ++ q26).length : Int))).toNat).length : Int)) : Int) - 0).toNat), _, h, hl42, rfl, rfl, hs56⟩
   ·refine Z 5 rfl ?_
    refine st_if rfl h (fun h => ?_) (fun h => ?_)
    ·refine ZZ 5 [1] rfl rfl ?_
     refine o_lenO rfl rfl rfl z_slT23 rfl ho35 ?_
     refine Z 2 rfl ?_
     refine st_if rfl h (fun h => ?_) (fun h => ?_)
     ·obtain ⟨q57, hf58, h⟩ := h
      refine st_draw 9 (dl [.v (v33), .v (.pointer (some ⟨b5, 2, none⟩)), .v (.int .i64 a1.2.2.1), .t fun τ v => ∃ (b59 : Nat), (.pointer (some ⟨b59, a1.2.2.1.toNat * 1, none⟩) : Value) = v ∧ (∃ n cap, v33 = .slice (some ⟨b59, 0, none⟩) n cap), .v (.int .u8 q57), .v (.pointer (some ⟨b5, 3, none⟩)), .v (.int .i64 a1.2.2.2.1), .v (.int .u8 (IntKind.u8.wrap a1.2.2.2.1)), .v (.int .u8 (ixor .u8 q57 (IntKind.u8.wrap a1.2.2.2.1)))]) (fun _ _ => []) z_mix rfl (dl_mono ⟨fun _ _ _ hl ⟨b59, hv, hb60⟩ => ⟨b59, hv, hb60⟩, trivial⟩) (allB_cons (allB_cons (allB_cons (allB_cons (allB_cons (allB_cons (allB_cons (allB_cons (allB_cons allB_nil (p1 dA)) (p1 dA)) ?_) ?_) ?_) (p1 dA)) ?_) (p1 dA)) (p1 dA)) ?_
      ·intro ρ' τ pool rs hl hd hout hk
       obtain ⟨_, e1, rfl⟩ := hd 1 rfl
       refine o_load (j := 1) (v := .int .i64 a1.2.2.1) rfl rfl rfl z_sc3 e1 rfl rfl ?_
       exact st_addNil (hk _ _ (Sto.Le.refl _) rfl)
      ·intro ρ' τ pool rs hl hd hout hk
       obtain ⟨_, e0, rfl⟩ := hd 0 rfl
       obtain ⟨_, e2, rfl⟩ := hd 2 rfl
       refine o_indexOw rfl rfl rfl z_slT23 rfl e0 (ho35.up hl) e2 hf58 (fun b59 hb60 => ?_)
       exact st_addNil (hk _ _ (Sto.Le.refl _) ⟨b59, rfl, hb60⟩)
      ·intro ρ' τ pool rs hl hd hout hk
       obtain ⟨_, e3, b59, rfl, hb60⟩ := hd 3 rfl
       obtain ⟨vs61, hrep62, hat63⟩ := Ow.at (ho35.up hl) hb60 hf58
       obtain rfl := hrep62
       refine o_loadOw (off := 0) (j := 0) (v := .int .u8 q57) rfl rfl rfl z_sc5 e3 hat63 rfl rfl ?_
       exact st_addNil (hk _ _ (Sto.Le.refl _) rfl)
      ·intro ρ' τ pool rs hl hd hout hk
       obtain ⟨_, e5, rfl⟩ := hd 5 rfl
       refine o_load (j := 1) (v := .int .i64 a1.2.2.2.1) rfl rfl rfl z_sc3 e5 rfl rfl ?_
       exact st_addNil (hk _ _ (Sto.Le.refl _) rfl)
      intro ρ' τ64 vals hl64 hv hout
      refine st_ord [0, 0] _ rfl ?_
      refine st_env (ρ' := [(50, v33), (52, .int .i64 a1.2.2.1), (58, .int .u8 (ixor .u8 q57 (IntKind.u8.wrap a1.2.2.2.1))), (4, .slice none 0 0), (5, v33)]) ⟨(lv1 hv 0 rfl rfl), (lv1 hv 2 rfl rfl), (lv1 hv 8 rfl rfl), (hout 4 rfl).trans rfl, (hout 5 rfl).trans rfl, trivial⟩ ?_
      obtain ⟨q65, hf66, h⟩ := h
      refine o_indexOw rfl rfl rfl z_slT23 rfl rfl (ho35.up hl64) rfl hf66 (fun b67 hb68 => ?_)
      refine o_storeOw (dk := (kI .u8)) (off := 0) (j := 0) (q' := (ixor .u8 q57 (IntKind.u8.wrap a1.2.2.2.1))) (us := [.int .u8 (ixor .u8 q57 (IntKind.u8.wrap a1.2.2.2.1))]) rfl rfl rfl z_size5 rfl rfl rfl (ones_cons rfl ones_nil) (ho35.up hl64) hb68 hf66 rfl (fun vs hv => by obtain rfl := hv; exact rfl) (Nat.le_of_ble_eq_true rfl) (fun g69 ho70 => ?_)
      refine st_gs [g69, [(b5, .cells #[.int .i64 a1.1, .int .i64 a1.2.1, .int .i64 a1.2.2.1, .int .i64 a1.2.2.2.1, v3] 67 (0, 0))]] rfl ?_
      refine Z 2 rfl ?_
      refine st_freeze (fun τ71 hl72 hg73 => ?_)
      have hs74 := ho70.freeze hl72 hg73
      refine st_ord [] _ rfl ?_
      exact hk38 _ _ _ ⟨((([] : List Int) ++ q26).set a1.2.2.1.toNat (ixor .u8 q57 (IntKind.u8.wrap a1.2.2.2.1))), _, h, (hl64.trans hl72), rfl, rfl, hs74⟩
     ·refine Z 2 rfl ?_
      refine st_freeze (fun τ76 hl77 hg78 => ?_)
      have hs79 := ho35.freeze hl77 hg78
      refine st_ord [] _ rfl ?_
      exact hk38 _ _ _ ⟨(([] : List Int) ++ q26), _, h, hl77, rfl, rfl, hs79⟩
    ·refine Z 2 rfl ?_
     refine st_freeze (fun τ82 hl83 hg84 => ?_)
     have hs85 := ho35.freeze hl83 hg84
     refine st_ord [] _ rfl ?_
     exact hk38 _ _ _ ⟨(([] : List Int) ++ q26), _, h, hl83, rfl, rfl, hs85⟩
theorem noise_Each_1_ok {c0 : List (Int × Int × Int × Int × List Int)} {c1 : List (List Int)} {bc0 : Nat} {v1 : Value} {bc1 : Nat} {v3 : Value} {σ0 : Sto} (hc0_0 : Cel σ0 ⟨bc0, 0, none⟩ (v1)) (hs2 : Sl (kP (kI .i64) (kP (kI .i64) (kP (kI .i64) (kP (kI .i64) (kSl (kI .u8)))))) σ0 v1 c0) (hc1_0 : Cel σ0 ⟨bc1, 0, none⟩ (v3)) (hs4 : Sl (kSl (kI .u8)) σ0 v3 c1) :
    IterV Tryz.prog (fun τ x vx => ∃ (v45 : Value), vx = [.int .i64 x.1, v45] ∧ Sl (kI .u8) τ v45 x.2) (.func (.func 92) #[] [.pointer (some ⟨bc0, 0, none⟩), .pointer (some ⟨bc1, 0, none⟩)].toArray) σ0 [] (fun (_ : Unit) _ f => f = []) (noise_Each_1 c0 c1) := by
 intro S Y I y hyc hyo hIm hY s s' o hR σ g hle hIg
 obtain ⟨r, hr0⟩ : ∃ r, r = (s', o) := ⟨_, rfl⟩
 rw [← hr0] at hR
 have h := hR
 refine callV_of (caps := [.pointer (some ⟨bc0, 0, none⟩), .pointer (some ⟨bc1, 0, none⟩)]) z_en92 ?_
 refine call_of Tryz.func92 Tryz.ntmps92 rfl rfl (fun cs fs => ?_)
 refine st_ord [0] _ rfl ?_
 refine Z 5 rfl ?_
 refine o_loadI (v := v1) rfl rfl rfl z_sc64 rfl (Cel.up hc0_0 hle) ?_
 refine o_lenI rfl rfl rfl z_slT64 rfl (hs2.up hle) ?_
 refine Z 2 rfl ?_
 obtain ⟨e5, hL5, hA5⟩ := h
 refine st_loop hL5 (fun (s5 : S × Int) ρ τ5 gs => σ.Le τ5 ∧ ∃ (g6 : Grp), ESub ρ [(0, y), (2, .pointer (some ⟨bc1, 0, none⟩)), (6, v1), (7, .int .i64 (c0.length : Int)), (8, .int .i64 s5.2)] ∧ gs = [g6] ∧ I s5.1 τ5 g6) ⟨Sto.Le.refl _, g, rfl, rfl, hIg⟩ ?_
 rintro s5 o5 h he5 ρ5 τ5 gs5 ⟨hl5, g6, hρ, rfl, hI7⟩ hn5
 refine st_es hρ ?_
 refine Z 5 rfl ?_
 refine st_if rfl h (fun h => ?_) (fun h => ?_)
 ·refine Z 6 rfl ?_
  obtain ⟨q8, hf9, h⟩ := h
  refine o_index rfl rfl rfl z_slT64 rfl rfl (hs2.up (hle.trans hl5)) rfl hf9 (fun b10 of11 vs hc13 hrep => ?_)
  obtain ⟨_, _, rfl, rfl, ⟨_, _, rfl, rfl, ⟨_, _, rfl, rfl, ⟨_, _, rfl, rfl, ⟨v12, rfl, hs14⟩⟩⟩⟩⟩ := hrep
  refine o_loadIN (vs := [.int .i64 q8.1, .int .i64 q8.2.1, .int .i64 q8.2.2.1, .int .i64 q8.2.2.2.1, v12]) rfl rfl rfl z_agg67 rfl rfl (celn_part 0 rfl hc13) ?_
  refine o_alloc rfl rfl rfl z_zero67 (fun b15 => ?_)
  refine o_assign rfl rfl rfl rfl ?_
  refine o_store (j := 0) (vs := [.int .i64 q8.1, .int .i64 q8.2.1, .int .i64 q8.2.2.1, .int .i64 q8.2.2.2.1, v12]) (cs' := [.int .i64 q8.1, .int .i64 q8.2.1, .int .i64 q8.2.2.1, .int .i64 q8.2.2.2.1, v12]) rfl rfl rfl z_size67 rfl rfl rfl (ones_cons rfl (ones_cons rfl (ones_cons rfl (ones_cons rfl (ones_cons hs14.one' ones_nil))))) rfl rfl rfl ?_
  refine st_gs [[(b15, .cells #[.int .i64 q8.1, .int .i64 q8.2.1, .int .i64 q8.2.2.1, .int .i64 q8.2.2.2.1, v12] 67 (0, 0))], g6] rfl ?_
  refine Z 5 rfl ?_
  refine o_loadI (v := v3) rfl rfl rfl z_sc22 rfl (Cel.up hc1_0 (hle.trans hl5)) ?_
  refine ZZ 1 [0] rfl rfl ?_
  obtain ⟨r16, hr17, h⟩ := h
  refine st_call (foot := []) rfl rfl rfl rfl rfl rfl (callV_fn z_en93 (noise_Bytes_ok hr17 τ5 (hs4.up (hle.trans hl5)) hs14)) ?_
  rintro vτ18 τ18 gsτ18 hl19 ⟨v20, rfl, rfl, hs21⟩
  obtain ⟨y22, u23, hy24, h⟩ := h
  refine st_ord [1, 0] _ rfl ?_
  refine st_call (foot := [g6]) rfl rfl rfl rfl rfl rfl (hY (s5.2, r16) s5.1 _ _ _ _ _ (hle.trans (hl5.trans hl19)) hy24 ⟨_, rfl, hs21⟩ (hIm _ _ _ _ hl19 hI7)) ?_
  rintro vτ25 τ25 gsτ25 hl26 ⟨rfl, g27, rfl, hI28⟩
  refine Z 2 rfl ?_
  refine st_if rfl h (fun h => ?_) (fun h => ?_)
  ·refine Z 2 rfl ?_
   refine st_ord [0] _ rfl ?_
   obtain rfl := he5 _ h
   replace h := hA5
   obtain rfl := Eq.symm h
   cases hr0
   exact st_fin (gs' := [g27, []]) Tryz.func92 rfl (by simp) ((hl5.trans hl19).trans hl26) ⟨g27, _, rfl, hI28, rfl⟩
  ·refine Z 6 rfl ?_
   refine st_ord [0] _ rfl ?_
   exact hn5 _ _ _ _ h ⟨((hl5.trans hl19).trans hl26), g27, rfl, rfl, hI28⟩
 ·refine Z 2 rfl ?_
  obtain rfl := he5 _ h
  replace h := hA5
  obtain rfl := Eq.symm h
  cases hr0
  exact st_fin (gs' := [g6, []]) Tryz.func92 rfl (by simp) hl5 ⟨g6, _, rfl, hI7, rfl⟩
theorem noise_Each_ok {a0 : List (List Int)} {a1 : List (Int × Int × Int × Int × List Int)} {v1 : Value} {v3 : Value} {r : (((S : Type) → ((Int × List Int) → S → Bool × S → Prop) → S → S × Unit → Prop))} (h : noise_Each a0 a1 r) (σ : Sto) (hs2 : Sl (kSl (kI .u8)) σ v1 a0) (hs4 : Sl (kP (kI .i64) (kP (kI .i64) (kP (kI .i64) (kP (kI .i64) (kSl (kI .u8)))))) σ v3 a1) :
    Does Tryz.prog 55 [v1, v3] σ [] (fun v τ gs => ∃ (f13 : Nat) (q14 : Array Value), gs = [] ∧ .func (.func f13) #[] q14 = v ∧ IterV Tryz.prog (fun τ x vx => ∃ (v47 : Value), vx = [.int .i64 x.1, v47] ∧ Sl (kI .u8) τ v47 x.2) (.func (.func f13) #[] q14) τ [] (fun (_ : Unit) _ f => f = []) r) := by
 refine call_of Tryz.func55 Tryz.ntmps55 rfl rfl (fun cs fs => ?_)
 refine Z 2 rfl ?_
 refine o_box (cs := [v1]) rfl rfl rfl rfl (oneL_sl hs2) (fun b5 => ?_)
 refine o_box (cs := [v3]) rfl rfl rfl rfl (oneL_sl hs4) (fun b6 => ?_)
 refine Z 4 rfl ?_
 refine st_freeze (fun τ7 hl8 hg9 => ?_)
 refine st_freeze (fun τ10 hl11 hg12 => ?_)
 refine Z 3 rfl ?_
 obtain rfl := Eq.symm h
 exact st_ret (gs' := []) Tryz.func55 rfl (List.Sublist.refl _) (hl8.trans hl11) ⟨_, _, rfl, rfl, (noise_Each_1_ok (Cel.up (cel_of hg9 rfl) hl11) (hs4.up (hl8.trans hl11)) (cel_of hg12 rfl) (hs2.up (hl8.trans hl11)))⟩
theorem noise_Run_ok {a0 : List (List Int)} {a1 : List (Int × Int × Int × Int × List Int)} {v1 : Value} {v3 : Value} {r : List Int} (h : noise_Run a0 a1 r) (σ : Sto) (hs2 : Sl (kSl (kI .u8)) σ v1 a0) (hs4 : Sl (kP (kI .i64) (kP (kI .i64) (kP (kI .i64) (kP (kI .i64) (kSl (kI .u8)))))) σ v3 a1) :
    Does Tryz.prog 24 [v1, v3] σ [] (fun v τ gs => ∃ (v36 : Value), gs = [] ∧ v36 = v ∧ Sl (kI .u8) τ v36 r) := by
 refine call_of Tryz.func24 Tryz.ntmps24 rfl rfl (fun cs fs => ?_)
 refine Z 6 rfl ?_
 refine o_alloc rfl rfl rfl z_zero23 (fun b5 => ?_)
 refine Z 6 rfl ?_
 obtain ⟨r6, hr7, h⟩ := h
 refine st_call (foot := []) rfl rfl rfl rfl rfl rfl (callV_fn z_en55 (noise_Each_ok hr7 σ hs2 hs4)) ?_
 rintro vτ8 τ8 gsτ8 hl9 ⟨f10, q11, rfl, rfl, hit12⟩
 refine Z 2 rfl ?_
 obtain ⟨t13, w13, hR13, hA13⟩ := h
 refine st_env (ρ' := [(4, .slice none 0 0), (5, .pointer (some ⟨b5, 0, none⟩)), (10, .func (.func f10) #[] q11)]) ⟨rfl, rfl, rfl, trivial⟩ ?_
 refine st_addNil ?_
 refine st_ord [1, 0] _ rfl ?_
 refine st_addNil ?_
 refine st_range (B := noise_Run_l1) (s0 := []) ranges_fctx rfl hit12 (Sto.Le.refl _) hR13 rfl (fun _ _ _ h => by obtain ⟨_, rfl, _⟩ := h; rfl) (fun (s13 : List Int) τ13 gs => τ8.Le τ13 ∧ ∃ (v14 : Value) (g15 : Grp), gs = [[(b5, .cells #[v14] 23 (0, 0))], g15] ∧ Ow (kI .u8) 5 τ13 v14 s13 g15) (fun _ _ _ _ => False) (fun _ _ _ _ hl ⟨hb, v14, g15, hg, ho16⟩ => ⟨hb.trans hl, v14, g15, hg, ho16.up hl⟩) (fun _ _ _ _ _ _ h => h.elim) ⟨Sto.Le.refl _, _, _, rfl, Ow.nil⟩ ?_ ?_ ?_
 ·rintro x13 s13 o13 τ13 gs13 vx13 hl13 h ⟨v17, rfl, hs18⟩ ⟨hb13, v14, g15, rfl, ho16⟩ l13 rc13 caller13 cs13 fs13
  refine Z 3 rfl ?_
  refine st_begin ?_
  refine ZZ 4 [0] rfl rfl ?_
  obtain ⟨hf22, hf23, h⟩ := h
  refine st_ord [1, 0] _ rfl ?_
  refine o_append (dk := (kI .u8)) (xs := s13) (ys := x13.2) rfl rfl rfl rfl z_slT23 rfl ho16 rfl (Sl.src hs18) hf22 hf23 (fun v19 g20 ho21 => ?_)
  refine o_store (j := 1) (vs := [v19]) (cs' := [v19]) rfl rfl rfl z_size23 rfl rfl (oneL_ow ho21) (ones_cons ho21.one' ones_nil) rfl rfl rfl ?_
  refine st_gs [g20, [(b5, .cells #[v19] 23 (0, 0))]] rfl ?_
  refine Z 2 rfl ?_
  refine st_ord [1, 0] _ rfl ?_
  exact st_rend (List.Sublist.refl _) (Sto.Le.refl _) ⟨_, h, hl13, _, _, rfl, ho21⟩
 ·rintro p24 τ25 gs13 f13 ht hl26 ⟨hb, v27, g28, rfl, ho29⟩ rfl
  subst ht
  replace h := hA13
  refine st_ord [1, 1] _ rfl ?_
  refine ZZ 6 [0] rfl rfl ?_
  refine st_ord [1, 0] _ rfl ?_
  refine st_freeze (fun τ30 hl31 hg32 => ?_)
  have hs33 := ho29.freeze hl31 hg32
  refine st_ord [] _ rfl ?_
  obtain rfl := Eq.symm h
  exact st_ret (gs' := []) Tryz.func24 rfl (List.Sublist.refl _) ((hl9.trans hl26).trans hl31) ⟨_, rfl, rfl, hs33⟩
 ·exact fun _ _ _ _ _ _ _ h => h.elim
theorem unicode_utf8_DecodeRuneInString_ok {a0 : ByteArray} {r : Int × Int} (h : unicode_utf8_DecodeRuneInString a0 r) (σ : Sto) :
    Does Tryz.prog 147 [.string a0] σ [] (fun v τ gs => gs = [] ∧ .tuple [.int .i32 r.1, .int .i64 r.2].toArray = v) := by
 obtain ⟨hf, _⟩ := h
 exact hf.elim
theorem strings_Index_ok {a0 : ByteArray} {a1 : ByteArray} {r : Int} (h : strings_Index a0 a1 r) (σ : Sto) :
    Does Tryz.prog 148 [.string a0, .string a1] σ [] (fun v τ gs => gs = [] ∧ .int .i64 r = v) := by
 obtain ⟨c, hc, rfl⟩ := h
 exact index_does Tryz.strings_Index_one hc
theorem strings_splitSeq_1_ok {c0 : ByteArray} {c2 : Int} {c1 : ByteArray} {bc0 : Nat} {bc1 : Nat} {bc2 : Nat} {σ0 : Sto} (hc0_0 : Cel σ0 ⟨bc0, 0, none⟩ (.string c0)) (hc2_0 : Cel σ0 ⟨bc2, 0, none⟩ (.int .i64 c2)) :
    IterV Tryz.prog (fun _ x vx => vx = [.string x]) (.func (.func 146) #[] [.pointer (some ⟨bc0, 0, none⟩), .pointer (some ⟨bc1, 0, none⟩), .pointer (some ⟨bc2, 0, none⟩)].toArray) σ0 [(bc1, .cells [.string c1].toArray 9 (0, 0))] (fun (oo : ByteArray) υ f => f = [(bc1, .cells [.string oo].toArray 9 (0, 0))]) (strings_splitSeq_1 c0 c2 c1) := by
 intro S Y I y hyc hyo hIm hY s s' o hR σ g hle hIg
 obtain ⟨r, hr0⟩ : ∃ r, r = (s', o) := ⟨_, rfl⟩
 rw [← hr0] at hR
 have h := hR
 refine callV_of (caps := [.pointer (some ⟨bc0, 0, none⟩), .pointer (some ⟨bc1, 0, none⟩), .pointer (some ⟨bc2, 0, none⟩)]) z_en146 ?_
 refine call_of Tryz.func146 Tryz.ntmps146 rfl rfl (fun cs fs => ?_)
 refine st_perm (gs' := [g, [(bc1, .cells #[.string c1] 9 (0, 0))]]) (by simp) ?_
 refine Z 3 rfl ?_
 refine o_loadI (v := .string c0) rfl rfl rfl z_sc9 rfl (Cel.up hc0_0 hle) ?_
 refine Z 3 rfl ?_
 refine st_if rfl h (fun h => ?_) (fun h => ?_)
 ·refine st_seq ?_
  refine st_cut (fun ρ τ1 gs => ∃ (s1 : S × ByteArray) (g2 : Grp), strings_splitSeq_1_j1 S Y s1 r ∧ σ.Le τ1 ∧ ESub ρ [(0, y), (1, .pointer (some ⟨bc0, 0, none⟩)), (2, .pointer (some ⟨bc1, 0, none⟩)), (3, .pointer (some ⟨bc2, 0, none⟩))] ∧ gs = [[(bc1, .cells #[.string s1.2] 9 (0, 0))], g2] ∧ I s1.1 τ1 g2) ?_ (fun hk1 => ?_)
  ·rintro ρ1 τ1 gs1 ⟨s1, g2, h, hl1, hρ, rfl, hI3⟩
   refine st_es hρ ?_
   refine st_ord [1, 0] _ rfl ?_
   obtain rfl := Eq.symm h
   cases hr0
   exact st_ret (gs' := [g2, [(bc1, .cells #[.string s1.2] 9 (0, 0))]]) Tryz.func146 rfl (by simp) hl1 ⟨g2, _, rfl, hI3, rfl⟩
  obtain ⟨e4, hL4, hA4⟩ := h
  refine st_ord [1, 0] _ rfl ?_
  refine st_loop hL4 (fun (s4 : S × ByteArray) ρ τ4 gs => σ.Le τ4 ∧ ∃ (g5 : Grp), ESub ρ [(0, y), (1, .pointer (some ⟨bc0, 0, none⟩)), (2, .pointer (some ⟨bc1, 0, none⟩)), (3, .pointer (some ⟨bc2, 0, none⟩))] ∧ gs = [[(bc1, .cells #[.string s4.2] 9 (0, 0))], g5] ∧ I s4.1 τ4 g5) ⟨Sto.Le.refl _, g, rfl, rfl, hIg⟩ ?_
  rintro s4 o4 h he4 ρ4 τ4 gs4 ⟨hl4, g5, hρ, rfl, hI6⟩ hn4
  refine st_es hρ ?_
  refine ZZ 7 [0] rfl rfl ?_
  refine st_if rfl h (fun h => ?_) (fun h => ?_)
  ·refine ZZ 5 [0] rfl rfl ?_
   obtain ⟨r7, hr8, h⟩ := h
   refine st_call (foot := []) rfl rfl rfl rfl rfl rfl (callV_fn z_en147 (unicode_utf8_DecodeRuneInString_ok hr8 τ4)) ?_
   rintro vτ9 τ9 gsτ9 hl10 ⟨rfl, rfl⟩
   refine ZZ 12 [0] rfl rfl ?_
   obtain ⟨hf11, hf12, h⟩ := h
   refine o_sliceSh rfl rfl rfl Tryz.underlying9 rfl rfl hf11 hf12 ?_
   obtain ⟨y13, u14, hy15, h⟩ := h
   refine st_ord [1, 0] _ rfl ?_
   refine st_call (foot := [g5]) rfl rfl rfl rfl rfl rfl (hY (s4.2.extract 0 r7.2.toNat) s4.1 _ _ _ _ _ (hle.trans (hl4.trans hl10)) hy15 rfl (hIm _ _ _ _ hl10 hI6)) ?_
   rintro vτ16 τ16 gsτ16 hl17 ⟨rfl, g18, rfl, hI19⟩
   refine Z 2 rfl ?_
   refine st_if rfl h (fun h => ?_) (fun h => ?_)
   ·obtain rfl := he4 _ h
    replace h := hA4
    obtain rfl := Eq.symm h
    cases hr0
    exact st_ret (gs' := [g18, [(bc1, .cells #[.string s4.2] 9 (0, 0))]]) Tryz.func146 rfl (by simp) ((hl4.trans hl10).trans hl17) ⟨g18, _, rfl, hI19, rfl⟩
   ·refine ZZ 4 [1] rfl rfl ?_
    obtain ⟨hf20, hf21, h⟩ := h
    refine o_sliceSl rfl rfl rfl Tryz.underlying9 rfl rfl hf20 hf21 ?_
    refine ZZ 3 [1] rfl rfl ?_
    refine st_ord [1, 0] _ rfl ?_
    exact hn4 _ _ _ _ h ⟨((hl4.trans hl10).trans hl17), g18, rfl, rfl, hI19⟩
  ·refine st_exit rfl ?_
   obtain rfl := he4 _ h
   replace h := hA4
   exact hk1 _ _ _ ⟨(s4.1, s4.2), g5, h, hl4, rfl, rfl, hI6⟩
 ·refine Z 2 rfl ?_
  refine st_cut (fun ρ τ24 gs => ∃ (s24 : S × ByteArray) (g25 : Grp), strings_splitSeq_1_j3 S Y s24 r ∧ σ.Le τ24 ∧ ESub ρ [(0, y), (2, .pointer (some ⟨bc1, 0, none⟩))] ∧ gs = [[(bc1, .cells #[.string s24.2] 9 (0, 0))], g25] ∧ I s24.1 τ24 g25) ?_ (fun hk24 => ?_)
  ·rintro ρ24 τ24 gs24 ⟨s24, g25, h, hl24, hρ, rfl, hI26⟩
   refine st_es hρ ?_
   refine ZZ 3 [0] rfl rfl ?_
   obtain ⟨y27, u28, hy29, h⟩ := h
   refine st_ord [1, 0] _ rfl ?_
   refine st_call (foot := [g25]) rfl rfl rfl rfl rfl rfl (hY s24.2 s24.1 _ _ _ _ _ (hle.trans hl24) hy29 rfl hI26) ?_
   rintro vτ30 τ30 gsτ30 hl31 ⟨rfl, g32, rfl, hI33⟩
   refine st_end ?_
   obtain rfl := Eq.symm h
   cases hr0
   exact st_fin (gs' := [g32, [(bc1, .cells #[.string s24.2] 9 (0, 0))]]) Tryz.func146 rfl (by simp) (hl24.trans hl31) ⟨g32, _, rfl, hI33, rfl⟩
  obtain ⟨e34, hL34, hA34⟩ := h
  refine st_ord [1, 0] _ rfl ?_
  refine st_loop hL34 (fun (s34 : S × ByteArray) ρ τ34 gs => σ.Le τ34 ∧ ∃ (g35 : Grp), ESub ρ [(0, y), (1, .pointer (some ⟨bc0, 0, none⟩)), (2, .pointer (some ⟨bc1, 0, none⟩)), (3, .pointer (some ⟨bc2, 0, none⟩))] ∧ gs = [[(bc1, .cells #[.string s34.2] 9 (0, 0))], g35] ∧ I s34.1 τ34 g35) ⟨Sto.Le.refl _, g, rfl, rfl, hIg⟩ ?_
  rintro s34 o34 h he34 ρ34 τ34 gs34 ⟨hl34, g35, hρ, rfl, hI36⟩ hn34
  refine st_es hρ ?_
  refine ZZ 4 [0] rfl rfl ?_
  refine o_loadI (v := .string c0) rfl rfl rfl z_sc9 rfl (Cel.up hc0_0 (hle.trans hl34)) ?_
  obtain ⟨r37, hr38, h⟩ := h
  refine st_call (foot := []) rfl rfl rfl rfl rfl rfl (callV_fn z_en148 (strings_Index_ok hr38 τ34)) ?_
  rintro vτ39 τ39 gsτ39 hl40 ⟨rfl, rfl⟩
  refine Z 8 rfl ?_
  refine st_if rfl h (fun h => ?_) (fun h => ?_)
  ·refine st_exit rfl ?_
   obtain rfl := he34 _ h
   replace h := hA34
   exact hk24 _ _ _ ⟨(s34.1, s34.2), g35, h, (hl34.trans hl40), rfl, rfl, (hIm _ _ _ _ hl40 hI36)⟩
  ·refine ZZ 5 [0] rfl rfl ?_
   refine o_loadI (v := .int .i64 c2) rfl rfl rfl z_sc3 rfl (Cel.up hc2_0 ((hle.trans hl34).trans hl40)) ?_
   refine o_ibin (v := .int .i64 (IntKind.i64.wrap (r37 + c2))) rfl rfl rfl rfl rfl rfl ?_
   obtain ⟨hf41, hf42, h⟩ := h
   refine o_sliceSh rfl rfl rfl Tryz.underlying9 rfl rfl hf41 hf42 ?_
   refine Z 7 rfl ?_
   obtain ⟨y43, u44, hy45, h⟩ := h
   refine st_ord [1, 0] _ rfl ?_
   refine st_call (foot := [g35]) rfl rfl rfl rfl rfl rfl (hY (s34.2.extract 0 (IntKind.i64.wrap (r37 + c2)).toNat) s34.1 _ _ _ _ _ (hle.trans (hl34.trans hl40)) hy45 rfl (hIm _ _ _ _ hl40 hI36)) ?_
   rintro vτ46 τ46 gsτ46 hl47 ⟨rfl, g48, rfl, hI49⟩
   refine Z 2 rfl ?_
   refine st_if rfl h (fun h => ?_) (fun h => ?_)
   ·obtain rfl := he34 _ h
    replace h := hA34
    obtain rfl := Eq.symm h
    cases hr0
    exact st_ret (gs' := [g48, [(bc1, .cells #[.string s34.2] 9 (0, 0))]]) Tryz.func146 rfl (by simp) ((hl34.trans hl40).trans hl47) ⟨g48, _, rfl, hI49, rfl⟩
   ·refine ZZ 4 [1] rfl rfl ?_
    refine o_loadI (v := .string c0) rfl rfl rfl z_sc9 rfl (Cel.up hc0_0 (((hle.trans hl34).trans hl40).trans hl47)) ?_
    refine Z 2 rfl ?_
    obtain ⟨hf50, hf51, h⟩ := h
    refine o_sliceSl rfl rfl rfl Tryz.underlying9 rfl rfl hf50 hf51 ?_
    refine ZZ 3 [1] rfl rfl ?_
    refine st_ord [1, 0] _ rfl ?_
    exact hn34 _ _ _ _ h ⟨((hl34.trans hl40).trans hl47), g48, rfl, rfl, hI49⟩
theorem strings_splitSeq_ok {a0 : ByteArray} {a1 : ByteArray} {a2 : Int} {r : ((ByteArray → (S : Type) → (ByteArray → S → Bool × S → Prop) → S → S × ByteArray → Prop)) × ByteArray} (h : strings_splitSeq a0 a1 a2 r) (σ : Sto)  :
    Does Tryz.prog 113 [.string a0, .string a1, .int .i64 a2] σ [] (fun v τ gs => ∃ (f11 : Nat) (q12 : Array Value) (b14 : Nat), gs = [[(b14, .cells [.string r.2].toArray 9 (0, 0))]] ∧ .func (.func f11) #[] q12 = v ∧ ∀ (x16 : ByteArray) (σ15 : Sto), τ.Le σ15 → IterV Tryz.prog (fun _ x vx => vx = [.string x]) (.func (.func f11) #[] q12) σ15 [(b14, .cells [.string x16].toArray 9 (0, 0))] (fun (o17 : ByteArray) υ f => f = [(b14, .cells [.string o17].toArray 9 (0, 0))]) (r.1 x16)) := by
 refine call_of Tryz.func113 Tryz.ntmps113 rfl rfl (fun cs fs => ?_)
 refine Z 2 rfl ?_
 refine o_boxC rfl rfl rfl rfl rfl rfl (fun b1 => ?_)
 refine o_boxC rfl rfl rfl rfl rfl rfl (fun b2 => ?_)
 refine o_boxC rfl rfl rfl rfl rfl rfl (fun b3 => ?_)
 refine Z 4 rfl ?_
 refine st_ord [1, 0, 0] _ rfl ?_
 refine st_freeze (fun τ4 hl5 hg6 => ?_)
 refine st_freeze (fun τ7 hl8 hg9 => ?_)
 refine Z 3 rfl ?_
 obtain rfl := Eq.symm h
 exact st_ret (gs' := [[(b1, .cells #[.string a0] 9 (0, 0))]]) Tryz.func113 rfl (List.Sublist.refl _) (hl5.trans hl8) ⟨_, _, _, rfl, rfl, (fun _ _ hl  => strings_splitSeq_1_ok ((Cel.up (cel_of hg6 rfl) hl8).up hl) ((cel_of hg9 rfl).up hl))⟩
theorem strings_SplitSeq_ok {a0 : ByteArray} {a1 : ByteArray} {r : ((ByteArray → (S : Type) → (ByteArray → S → Bool × S → Prop) → S → S × ByteArray → Prop)) × ByteArray} (h : strings_SplitSeq a0 a1 r) (σ : Sto)  :
    Does Tryz.prog 76 [.string a0, .string a1] σ [] (fun v τ gs => ∃ (f13 : Nat) (q14 : Array Value) (b16 : Nat), gs = [[(b16, .cells [.string r.2].toArray 9 (0, 0))]] ∧ .func (.func f13) #[] q14 = v ∧ ∀ (x18 : ByteArray) (σ17 : Sto), τ.Le σ17 → IterV Tryz.prog (fun _ x vx => vx = [.string x]) (.func (.func f13) #[] q14) σ17 [(b16, .cells [.string x18].toArray 9 (0, 0))] (fun (o19 : ByteArray) υ f => f = [(b16, .cells [.string o19].toArray 9 (0, 0))]) (r.1 x18)) := by
 refine call_of Tryz.func76 Tryz.ntmps76 rfl rfl (fun cs fs => ?_)
 refine Z 8 rfl ?_
 obtain ⟨r1, hr2, h⟩ := h
 refine st_call (foot := []) rfl rfl rfl rfl rfl rfl (callV_fn z_en113 (strings_splitSeq_ok hr2 σ)) ?_
 rintro vτ3 τ3 gsτ3 hl4 ⟨f5, q6, b8, rfl, rfl, hit7⟩
 refine Z 2 rfl ?_
 obtain rfl := Eq.symm h
 exact st_ret (gs' := [[(b8, .cells #[.string r1.2] 9 (0, 0))]]) Tryz.func76 rfl (List.Sublist.refl _) hl4 ⟨_, _, _, rfl, rfl, (fun x0_ σ9 hl9 => hit7 x0_ σ9 ((Sto.Le.refl _).trans hl9))⟩
theorem say_Words_1_ok {c0 : ByteArray} {bc0 : Nat} {σ0 : Sto} (hc0_0 : Cel σ0 ⟨bc0, 0, none⟩ (.string c0)) :
    IterV Tryz.prog (fun _ x vx => vx = [.int .i64 x.1, .string x.2]) (.func (.func 75) #[] [.pointer (some ⟨bc0, 0, none⟩)].toArray) σ0 [] (fun (_ : Unit) _ f => f = []) (say_Words_1 c0) := by
 intro S Y I y hyc hyo hIm hY s s' o hR σ g hle hIg
 obtain ⟨r, hr0⟩ : ∃ r, r = (s', o) := ⟨_, rfl⟩
 rw [← hr0] at hR
 have h := hR
 refine callV_of (caps := [.pointer (some ⟨bc0, 0, none⟩)]) z_en75 ?_
 refine call_of Tryz.func75 Tryz.ntmps75 rfl rfl (fun cs fs => ?_)
 refine st_ord [0] _ rfl ?_
 refine Z 2 rfl ?_
 refine o_box (cs := [y]) rfl rfl rfl rfl hyc (fun b1 => ?_)
 refine Z 3 rfl ?_
 refine o_alloc rfl rfl rfl z_zero3 (fun b2 => ?_)
 refine ZZ 4 [0] rfl rfl ?_
 refine o_loadI (v := .string c0) rfl rfl rfl z_sc9 rfl (Cel.up hc0_0 hle) ?_
 obtain ⟨r3, hr4, h⟩ := h
 refine st_call (foot := []) rfl rfl rfl rfl (evs_cons rfl (evs_cons (ev_str z_str6) rfl)) rfl (callV_fn z_en76 (strings_SplitSeq_ok hr4 σ)) ?_
 rintro vτ5 τ5 gsτ5 hl6 ⟨f7, q8, b10, rfl, rfl, hit9⟩
 refine Z 2 rfl ?_
 obtain ⟨t14, w14, hR14, hA14⟩ := h
 refine st_env (ρ' := [(2, .pointer (some ⟨b1, 0, none⟩)), (3, .pointer (some ⟨b2, 0, none⟩)), (6, .func (.func f7) #[] q8)]) ⟨rfl, rfl, rfl, trivial⟩ ?_
 refine st_ord [0, 1, 0, 0] _ rfl ?_
 refine st_range (B := say_Words_1_l1 S Y) (s0 := (s, 0)) ranges_fctx rfl (hit9 r3.2 τ5 (Sto.Le.refl _)) (Sto.Le.refl _) hR14 rfl (fun _ _ _ h => by cases h; rfl) (fun (s14 : S × Int) τ14 gs => τ5.Le τ14 ∧ ∃ (g15 : Grp), gs = [[(b1, .cells #[y] 155 (0, 0))], [(b2, .cells #[.int .i64 s14.2] 3 (0, 0))], g15] ∧ I s14.1 τ14 g15) (fun (p24 : S × Int) cd τ25 gs => cd = .ret ∧ τ5.Le τ25 ∧ ∃ (g27 : Grp), gs = [[(b1, .cells #[y] 155 (0, 0))], [(b2, .cells #[.int .i64 p24.2] 3 (0, 0))], g27] ∧ I p24.1 τ25 g27) (fun _ _ _ _ hl ⟨hb, g15, hg, hI16⟩ => ⟨hb.trans hl, g15, hg, hIm _ _ _ _ hl hI16⟩) (fun _ _ _ _ _ hl ⟨hc, hb, g27, hg, hI28⟩ => ⟨hc, hb.trans hl, g27, hg, hIm _ _ _ _ hl hI28⟩) ⟨Sto.Le.refl _, g, rfl, (hIm _ _ _ _ hl6 hIg)⟩ ?_ ?_ ?_
 ·rintro x14 s14 o14 τ14 gs14 vx14 hl14 h rfl ⟨hb14, g15, rfl, hI16⟩ l14 rc14 caller14 cs14 fs14
  refine Z 3 rfl ?_
  refine st_begin ?_
  refine ZZ 7 [0, 1] rfl rfl ?_
  obtain ⟨y17, u18, hy19, h⟩ := h
  refine st_ord [2, 0, 0] _ rfl ?_
  refine st_call (foot := [g15]) rfl rfl rfl rfl rfl rfl (hY (s14.2, x14) s14.1 _ _ _ _ _ (hle.trans (hl6.trans hl14)) hy19 rfl hI16) ?_
  rintro vτ20 τ20 gsτ20 hl21 ⟨rfl, g22, rfl, hI23⟩
  refine Z 2 rfl ?_
  refine st_if rfl h (fun h => ?_) (fun h => ?_)
  ·refine st_ord [1, 1, 0] _ rfl ?_
   exact st_rret (List.Sublist.refl _) hl21 ⟨_, h, rfl, (hl14.trans hl21), g22, rfl, hI23⟩
  ·refine ZZ 10 [2, 2] rfl rfl ?_
   refine st_ord [1, 1, 0] _ rfl ?_
   exact st_rend (List.Sublist.refl _) hl21 ⟨_, h, (hl14.trans hl21), g22, rfl, hI23⟩
 ·rintro p30 τ31 gs14 f14 ht hl32 ⟨hb, g33, rfl, hI34⟩ rfl
  subst ht
  replace h := hA14
  refine st_gs [[(b10, .cells #[.string w14] 9 (0, 0))], [(b1, .cells #[y] 155 (0, 0))], [(b2, .cells #[.int .i64 p30.2] 3 (0, 0))], g33] rfl ?_
  refine st_inBlock ?_
  refine st_ord [3] _ rfl ?_
  obtain rfl := Eq.symm h
  cases hr0
  exact st_fin (gs' := [g33, []]) Tryz.func75 rfl (by simp) (hl6.trans hl32) ⟨g33, _, rfl, hI34, rfl⟩
 ·rintro p24 cd14 τ25 gs14 f14 ht hl26 ⟨rfl, hb, g27, rfl, hI28⟩ rfl
  subst ht
  replace h := hA14
  refine st_gs [[(b10, .cells #[.string w14] 9 (0, 0))], [(b1, .cells #[y] 155 (0, 0))], [(b2, .cells #[.int .i64 p24.2] 3 (0, 0))], g27] rfl ?_
  refine st_ord [3] _ rfl ?_
  obtain rfl := Eq.symm h
  cases hr0
  exact st_ret (gs' := [g27, []]) Tryz.func75 rfl (by simp) (hl6.trans hl26) ⟨g27, _, rfl, hI28, rfl⟩
theorem say_Words_ok {a0 : ByteArray} {r : (((S : Type) → ((Int × ByteArray) → S → Bool × S → Prop) → S → S × Unit → Prop))} (h : say_Words a0 r) (σ : Sto)  :
    Does Tryz.prog 41 [.string a0] σ [] (fun v τ gs => ∃ (f5 : Nat) (q6 : Array Value), gs = [] ∧ .func (.func f5) #[] q6 = v ∧ IterV Tryz.prog (fun _ x vx => vx = [.int .i64 x.1, .string x.2]) (.func (.func f5) #[] q6) τ [] (fun (_ : Unit) _ f => f = []) r) := by
 refine call_of Tryz.func41 Tryz.ntmps41 rfl rfl (fun cs fs => ?_)
 refine Z 2 rfl ?_
 refine o_boxC rfl rfl rfl rfl rfl rfl (fun b1 => ?_)
 refine Z 4 rfl ?_
 refine st_freeze (fun τ2 hl3 hg4 => ?_)
 refine Z 3 rfl ?_
 obtain rfl := Eq.symm h
 exact st_ret (gs' := []) Tryz.func41 rfl (List.Sublist.refl _) hl3 ⟨_, _, rfl, rfl, (say_Words_1_ok (cel_of hg4 rfl))⟩
theorem strings_IndexByte_ok {a0 : ByteArray} {a1 : Int} {r : Int} (h : strings_IndexByte a0 a1 r) (σ : Sto) :
    Does Tryz.prog 105 [.string a0, .int .u8 a1] σ [] (fun v τ gs => gs = [] ∧ .int .i64 r = v) := by
 obtain ⟨hc, rfl⟩ := h
 exact indexByte_does Tryz.strings_IndexByte hc
theorem noise_unhex_ok {a0 : ByteArray} {r : List Int × Int} (h : noise_unhex a0 r) (σ : Sto)  :
    Does Tryz.prog 65 [.string a0] σ [] (fun v τ gs => ∃ (v40 : Value), gs = [] ∧ .tuple [v40, .int .i64 r.2].toArray = v ∧ Sl (kI .u8) τ v40 r.1) := by
 refine call_of Tryz.func65 Tryz.ntmps65 rfl rfl (fun cs fs => ?_)
 refine Z 13 rfl ?_
 refine o_sbin (v := .bool (decide (a0 = (bstr [45])))) rfl rfl rfl rfl (ev_str z_str7) rfl ?_
 refine st_end ?_
 refine st_if rfl h (fun h => ?_) (fun h => ?_)
 ·refine Z 5 rfl ?_
  obtain rfl := Eq.symm h
  exact st_ret (gs' := []) Tryz.func65 rfl (List.Sublist.refl _) (Sto.Le.refl _) ⟨_, rfl, rfl, Sl.nil⟩
 ·refine Z 3 rfl ?_
  refine st_cut (fun ρ τ1 gs => ∃ (s1 : Bool), noise_unhex_j1 a0 s1 r ∧ σ.Le τ1 ∧ ESub ρ [(0, .string a0), (2, .slice none 0 0), (3, .int .i64 0), (4, .slice none 0 0), (17, .bool s1)] ∧ gs = []) ?_ (fun hk1 => ?_)
  ·rintro ρ1 τ1 gs1 ⟨s1, h, hl1, hρ, rfl⟩
   refine st_es hρ ?_
   refine st_if rfl h (fun h => ?_) (fun h => ?_)
   ·refine Z 5 rfl ?_
    obtain rfl := Eq.symm h
    exact st_ret (gs' := []) Tryz.func65 rfl (List.Sublist.refl _) hl1 ⟨_, rfl, rfl, Sl.nil⟩
   ·refine Z 2 rfl ?_
    refine st_cut (fun ρ τ2 gs => ∃ (s2 : List Int) (v3 : Value) (g4 : Grp), noise_unhex_j2 s2 r ∧ τ1.Le τ2 ∧ ESub ρ [(2, .slice none 0 0), (3, .int .i64 0), (4, v3)] ∧ gs = [g4] ∧ Ow (kI .u8) 5 τ2 v3 s2 g4) ?_ (fun hk2 => ?_)
    ·rintro ρ2 τ2 gs2 ⟨s2, v3, g4, h, hl2, hρ, rfl, ho5⟩
     refine st_es hρ ?_
     refine Z 6 rfl ?_
     refine st_freeze (fun τ6 hl7 hg8 => ?_)
     have hs9 := ho5.freeze hl7 hg8
     obtain rfl := Eq.symm h
     exact st_ret (gs' := []) Tryz.func65 rfl (List.Sublist.refl _) ((hl1.trans hl2).trans hl7) ⟨_, rfl, rfl, hs9⟩
    refine Z 4 rfl ?_
    obtain ⟨e12, hL12, hA12⟩ := h
    refine st_addNil ?_
    refine st_loop hL12 (fun (s12 : List Int × Int) ρ τ12 gs => τ1.Le τ12 ∧ ∃ (v13 : Value) (g14 : Grp), ESub ρ [(0, .string a0), (2, .slice none 0 0), (3, .int .i64 0), (4, v13), (5, .int .i64 s12.2)] ∧ gs = [g14] ∧ Ow (kI .u8) 5 τ12 v13 s12.1 g14) ⟨Sto.Le.refl _, _, _, rfl, rfl, Ow.nil⟩ ?_
    rintro s12 o12 h he12 ρ12 τ12 gs12 ⟨hl12, v13, g14, hρ, rfl, ho15⟩ hn12
    refine st_es hρ ?_
    refine Z 8 rfl ?_
    refine st_if rfl h (fun h => ?_) (fun h => ?_)
    ·refine Z 4 rfl ?_
     obtain ⟨q16, hf17, r18, hr19, q22, hf23, r24, hr25, h⟩ := h
     refine st_draw 10 (dl [.v (.string a0), .v (.int .i64 s12.2), .v (.int .u8 q16), .v (.int .i64 r18), .v (.string a0), .v (.int .i64 s12.2), .v (.int .i64 (IntKind.i64.wrap (s12.2 + 1))), .v (.int .u8 q22), .v (.int .i64 r24), .v (.int .i64 r18)]) (fun _ _ => []) z_mix rfl (dl_mono trivial) (allB_cons (allB_cons (allB_cons (allB_cons (allB_cons (allB_cons (allB_cons (allB_cons (allB_cons (allB_cons allB_nil (p1 dA)) (p1 dA)) ?_) ?_) (p1 dA)) (p1 dA)) (p1 dA)) ?_) ?_) (p1 dA)) ?_
     ·intro ρ' τ pool rs hl hd hout hk
      obtain ⟨_, e0, rfl⟩ := hd 0 rfl
      obtain ⟨_, e1, rfl⟩ := hd 1 rfl
      refine o_indexS rfl rfl rfl Tryz.underlying9 e0 e1 hf17 ?_
      exact st_addNil (hk _ _ (Sto.Le.refl _) rfl)
     ·intro ρ' τ pool rs hl hd hout hk
      obtain ⟨_, e2, rfl⟩ := hd 2 rfl
      refine st_call (foot := []) rfl rfl rfl rfl (evs_cons (ev_str z_str8) (evs_cons e2 rfl)) rfl (callV_fn z_en105 (strings_IndexByte_ok hr19 τ)) ?_
      rintro vτ20 τ20 gsτ20 hl21 ⟨rfl, rfl⟩
      exact st_addNil (hk _ _ hl21 rfl)
     ·intro ρ' τ pool rs hl hd hout hk
      obtain ⟨_, e4, rfl⟩ := hd 4 rfl
      obtain ⟨_, e6, rfl⟩ := hd 6 rfl
      refine o_indexS rfl rfl rfl Tryz.underlying9 e4 e6 hf23 ?_
      exact st_addNil (hk _ _ (Sto.Le.refl _) rfl)
     ·intro ρ' τ pool rs hl hd hout hk
      obtain ⟨_, e7, rfl⟩ := hd 7 rfl
      refine st_call (foot := []) rfl rfl rfl rfl (evs_cons (ev_str z_str8) (evs_cons e7 rfl)) rfl (callV_fn z_en105 (strings_IndexByte_ok hr25 τ)) ?_
      rintro vτ26 τ26 gsτ26 hl27 ⟨rfl, rfl⟩
      exact st_addNil (hk _ _ hl27 rfl)
     intro ρ' τ28 vals hl28 hv hout
     refine st_ord [0] _ rfl ?_
     refine st_env (ρ' := [(32, .int .i64 r24), (6, .int .i64 r18), (0, .string a0), (2, .slice none 0 0), (3, .int .i64 0), (4, v13), (5, .int .i64 s12.2)]) ⟨(lv1 hv 8 rfl rfl), (lv1 hv 9 rfl rfl), (hout 0 rfl).trans rfl, (hout 2 rfl).trans rfl, (hout 3 rfl).trans rfl, (hout 4 rfl).trans rfl, (hout 5 rfl).trans rfl, trivial⟩ ?_
     refine Z 4 rfl ?_
     refine st_cut (fun ρ τ29 gs => ∃ (s29 : Bool), noise_unhex_j4 s12 r18 r24 s29 o12 ∧ τ28.Le τ29 ∧ ESub ρ [(6, .int .i64 r18), (0, .string a0), (2, .slice none 0 0), (3, .int .i64 0), (4, v13), (5, .int .i64 s12.2), (7, .int .i64 r24), (38, .bool s29)] ∧ gs = [g14]) ?_ (fun hk29 => ?_)
     ·rintro ρ29 τ29 gs29 ⟨s29, h, hl29, hρ, rfl⟩
      refine st_es hρ ?_
      refine st_if rfl h (fun h => ?_) (fun h => ?_)
      ·refine Z 5 rfl ?_
       refine st_ord [] _ rfl ?_
       obtain rfl := he12 _ h
       replace h := hA12
       obtain rfl := Eq.symm h
       exact st_ret (gs' := []) Tryz.func65 rfl (List.Sublist.refl _) (((hl1.trans hl12).trans hl28).trans hl29) ⟨_, rfl, rfl, Sl.nil⟩
      ·refine Z 8 rfl ?_
       refine o_litE (eI .u8) [(IntKind.u8.wrap (ior .i64 (ishl .i64 r18 4) r24))] rfl rfl rfl z_slT23 z_zero5 ⟨rfl, ⟨_, rfl, rfl⟩, trivial⟩ rfl rfl rfl rfl (fun v30 g31 ho32 => ?_)
       obtain ⟨hf36, hf37, h⟩ := h
       refine st_ord [1, 0] _ rfl ?_
       refine o_append (dk := (kI .u8)) (xs := s12.1) (ys := [(IntKind.u8.wrap (ior .i64 (ishl .i64 r18 4) r24))]) rfl rfl rfl rfl z_slT23 rfl (ho15.up (hl28.trans hl29)) rfl (Ow.src (j := 1) ho32 rfl) hf36 hf37 (fun v33 g34 ho35 => ?_)
       refine Z 8 rfl ?_
       refine st_ord [0] _ rfl ?_
       exact hn12 _ _ _ _ h ⟨((hl12.trans hl28).trans hl29), _, _, rfl, rfl, ho35⟩
     refine Z 3 rfl ?_
     refine o_mif rfl rfl rfl rfl h (fun h => ?_) (fun h => ?_)
     ·refine Z 4 rfl ?_
      exact hk29 _ _ _ ⟨true, h, (Sto.Le.refl _), rfl, rfl⟩
     ·refine Z 4 rfl ?_
      exact hk29 _ _ _ ⟨(decide (r24 < 0)), h, (Sto.Le.refl _), rfl, rfl⟩
    ·refine st_exit rfl ?_
     obtain rfl := he12 _ h
     replace h := hA12
     exact hk2 _ _ _ ⟨s12.1, _, _, h, hl12, rfl, rfl, ho15⟩
  refine Z 2 rfl ?_
  refine o_sbin (v := .bool (decide (a0 = (bstr [])))) rfl rfl rfl rfl (ev_str z_str0) rfl ?_
  refine o_mif rfl rfl rfl rfl h (fun h => ?_) (fun h => ?_)
  ·refine Z 6 rfl ?_
   exact hk1 _ _ _ ⟨true, h, (Sto.Le.refl _), rfl, rfl⟩
  ·refine Z 6 rfl ?_
   exact hk1 _ _ _ ⟨(!(decide (((a0.size : Int).tmod 2) = 0))), h, (Sto.Le.refl _), rfl, rfl⟩
theorem strconv_ParseInt_ok {a0 : ByteArray} {a1 : Int} {a2 : Int} {r : Int × Bool} (h : strconv_ParseInt a0 a1 a2 r) (σ : Sto) (hE : Errs Tryz.prog σ) :
    Does Tryz.prog 106 [.string a0, .int .i64 a1, .int .i64 a2] σ [] (fun v τ gs => ∃ (v1 : Value), gs = [] ∧ .tuple [.int .i64 r.1, v1].toArray = v ∧ IfB v1 r.2) := by
 obtain ⟨rfl, rfl, hs, rfl⟩ := h
 exact parse_does Tryz.strconv_ParseInt_10_at64_ok Tryz.strconv_ParseInt_10_at64_syntax_var Tryz.strconv_ParseInt_10_at64_range_var hE hs
theorem internal_stringslite_HasPrefix_ok {a0 : ByteArray} {a1 : ByteArray} {r : Bool} (h : internal_stringslite_HasPrefix a0 a1 r) (σ : Sto)  :
    Does Tryz.prog 163 [.string a0, .string a1] σ [] (fun v τ gs => gs = [] ∧ .bool r = v) := by
 refine call_of Tryz.func163 Tryz.ntmps163 rfl rfl (fun cs fs => ?_)
 refine Z 5 rfl ?_
 refine st_cut (fun ρ τ1 gs => ∃ (s1 : Bool), internal_stringslite_HasPrefix_j1 s1 r ∧ σ.Le τ1 ∧ ESub ρ [(4, .bool s1)] ∧ gs = []) ?_ (fun hk1 => ?_)
 ·rintro ρ1 τ1 gs1 ⟨s1, h, hl1, hρ, rfl⟩
  refine st_es hρ ?_
  obtain rfl := Eq.symm h
  exact st_ret (gs' := []) Tryz.func163 rfl (List.Sublist.refl _) hl1 ⟨rfl, rfl⟩
 refine Z 6 rfl ?_
 refine o_mif rfl rfl rfl rfl h (fun h => ?_) (fun h => ?_)
 ·refine Z 3 rfl ?_
  obtain ⟨hf2, hf3, h⟩ := h
  refine o_sliceSh rfl rfl rfl Tryz.underlying9 rfl rfl hf2 hf3 ?_
  refine Z 5 rfl ?_
  exact hk1 _ _ _ ⟨(decide ((a0.extract 0 (a1.size : Int).toNat) = a1)), h, (Sto.Le.refl _), rfl, rfl⟩
 ·refine Z 9 rfl ?_
  exact hk1 _ _ _ ⟨false, h, (Sto.Le.refl _), rfl, rfl⟩
theorem internal_stringslite_TrimPrefix_ok {a0 : ByteArray} {a1 : ByteArray} {r : ByteArray} (h : internal_stringslite_TrimPrefix a0 a1 r) (σ : Sto)  :
    Does Tryz.prog 135 [.string a0, .string a1] σ [] (fun v τ gs => gs = [] ∧ .string r = v) := by
 refine call_of Tryz.func135 Tryz.ntmps135 rfl rfl (fun cs fs => ?_)
 refine Z 2 rfl ?_
 refine o_assign rfl rfl rfl (ev_str z_str0) ?_
 refine Z 6 rfl ?_
 obtain ⟨r1, hr2, h⟩ := h
 refine st_call (foot := []) rfl rfl rfl rfl rfl rfl (callV_fn z_en163 (internal_stringslite_HasPrefix_ok hr2 σ)) ?_
 rintro vτ3 τ3 gsτ3 hl4 ⟨rfl, rfl⟩
 refine st_end ?_
 refine st_if rfl h (fun h => ?_) (fun h => ?_)
 ·refine Z 5 rfl ?_
  obtain ⟨hf5, hf6, h⟩ := h
  refine o_sliceSl rfl rfl rfl Tryz.underlying9 rfl rfl hf5 hf6 ?_
  refine Z 2 rfl ?_
  obtain rfl := Eq.symm h
  exact st_ret (gs' := []) Tryz.func135 rfl (List.Sublist.refl _) hl4 ⟨rfl, rfl⟩
 ·refine Z 6 rfl ?_
  obtain rfl := Eq.symm h
  exact st_ret (gs' := []) Tryz.func135 rfl (List.Sublist.refl _) hl4 ⟨rfl, rfl⟩
theorem strings_TrimPrefix_ok {a0 : ByteArray} {a1 : ByteArray} {r : ByteArray} (h : strings_TrimPrefix a0 a1 r) (σ : Sto)  :
    Does Tryz.prog 107 [.string a0, .string a1] σ [] (fun v τ gs => gs = [] ∧ .string r = v) := by
 refine call_of Tryz.func107 Tryz.ntmps107 rfl rfl (fun cs fs => ?_)
 refine Z 2 rfl ?_
 refine o_assign rfl rfl rfl (ev_str z_str0) ?_
 refine Z 5 rfl ?_
 obtain ⟨r1, hr2, h⟩ := h
 refine st_call (foot := []) rfl rfl rfl rfl rfl rfl (callV_fn z_en135 (internal_stringslite_TrimPrefix_ok hr2 σ)) ?_
 rintro vτ3 τ3 gsτ3 hl4 ⟨rfl, rfl⟩
 refine Z 2 rfl ?_
 obtain rfl := Eq.symm h
 exact st_ret (gs' := []) Tryz.func107 rfl (List.Sublist.refl _) hl4 ⟨rfl, rfl⟩
theorem strings_trimRightByte_ok {a0 : ByteArray} {a1 : Int} {r : ByteArray} (h : strings_trimRightByte a0 a1 r) (σ : Sto)  :
    Does Tryz.prog 137 [.string a0, .int .u8 a1] σ [] (fun v τ gs => gs = [] ∧ .string r = v) := by
 refine call_of Tryz.func137 Tryz.ntmps137 rfl rfl (fun cs fs => ?_)
 refine Z 2 rfl ?_
 refine o_assign rfl rfl rfl (ev_str z_str0) ?_
 refine Z 2 rfl ?_
 refine st_cut (fun ρ τ1 gs => ∃ (s1 : ByteArray), strings_trimRightByte_j1 s1 r ∧ σ.Le τ1 ∧ ESub ρ [(0, .string s1), (4, .string (bstr []))] ∧ gs = []) ?_ (fun hk1 => ?_)
 ·rintro ρ1 τ1 gs1 ⟨s1, h, hl1, hρ, rfl⟩
  refine st_es hρ ?_
  refine Z 5 rfl ?_
  obtain rfl := Eq.symm h
  exact st_ret (gs' := []) Tryz.func137 rfl (List.Sublist.refl _) hl1 ⟨rfl, rfl⟩
 obtain ⟨e2, hL2, hA2⟩ := h
 refine st_loop hL2 (fun (s2 : ByteArray) ρ τ2 gs => σ.Le τ2 ∧ ESub ρ [(0, .string s2), (1, .int .u8 a1), (4, .string (bstr []))] ∧ gs = []) ⟨Sto.Le.refl _, rfl, rfl⟩ ?_
 rintro s2 o2 h he2 ρ2 τ2 gs2 ⟨hl2, hρ, rfl⟩ hn2
 refine st_es hρ ?_
 refine Z 2 rfl ?_
 refine st_cut (fun ρ τ3 gs => ∃ (s3 : Bool), strings_trimRightByte_j3 s2 s3 o2 ∧ τ2.Le τ3 ∧ ESub ρ [(0, .string s2), (1, .int .u8 a1), (4, .string (bstr [])), (16, .bool s3)] ∧ gs = []) ?_ (fun hk3 => ?_)
 ·rintro ρ3 τ3 gs3 ⟨s3, h, hl3, hρ, rfl⟩
  refine st_es hρ ?_
  refine st_if rfl h (fun h => ?_) (fun h => ?_)
  ·refine Z 7 rfl ?_
   obtain ⟨hf4, hf5, h⟩ := h
   refine o_sliceSh rfl rfl rfl Tryz.underlying9 rfl rfl hf4 hf5 ?_
   refine Z 3 rfl ?_
   exact hn2 _ _ _ _ h ⟨(hl2.trans hl3), rfl, rfl⟩
  ·refine st_exit rfl ?_
   obtain rfl := he2 _ h
   replace h := hA2
   exact hk1 _ _ _ ⟨s2, h, (hl2.trans hl3), rfl, rfl⟩
 refine Z 4 rfl ?_
 refine o_mif rfl rfl rfl rfl h (fun h => ?_) (fun h => ?_)
 ·refine Z 4 rfl ?_
  obtain ⟨q6, hf7, h⟩ := h
  refine o_indexS rfl rfl rfl Tryz.underlying9 rfl rfl hf7 ?_
  refine Z 4 rfl ?_
  exact hk3 _ _ _ ⟨(decide (q6 = a1)), h, (Sto.Le.refl _), rfl, rfl⟩
 ·refine Z 9 rfl ?_
  exact hk3 _ _ _ ⟨false, h, (Sto.Le.refl _), rfl, rfl⟩
theorem strings_trimLeftByte_ok {a0 : ByteArray} {a1 : Int} {r : ByteArray} (h : strings_trimLeftByte a0 a1 r) (σ : Sto)  :
    Does Tryz.prog 136 [.string a0, .int .u8 a1] σ [] (fun v τ gs => gs = [] ∧ .string r = v) := by
 refine call_of Tryz.func136 Tryz.ntmps136 rfl rfl (fun cs fs => ?_)
 refine Z 2 rfl ?_
 refine o_assign rfl rfl rfl (ev_str z_str0) ?_
 refine Z 2 rfl ?_
 refine st_cut (fun ρ τ1 gs => ∃ (s1 : ByteArray), strings_trimLeftByte_j1 s1 r ∧ σ.Le τ1 ∧ ESub ρ [(0, .string s1), (4, .string (bstr []))] ∧ gs = []) ?_ (fun hk1 => ?_)
 ·rintro ρ1 τ1 gs1 ⟨s1, h, hl1, hρ, rfl⟩
  refine st_es hρ ?_
  refine Z 5 rfl ?_
  obtain rfl := Eq.symm h
  exact st_ret (gs' := []) Tryz.func136 rfl (List.Sublist.refl _) hl1 ⟨rfl, rfl⟩
 obtain ⟨e2, hL2, hA2⟩ := h
 refine st_loop hL2 (fun (s2 : ByteArray) ρ τ2 gs => σ.Le τ2 ∧ ESub ρ [(0, .string s2), (1, .int .u8 a1), (4, .string (bstr []))] ∧ gs = []) ⟨Sto.Le.refl _, rfl, rfl⟩ ?_
 rintro s2 o2 h he2 ρ2 τ2 gs2 ⟨hl2, hρ, rfl⟩ hn2
 refine st_es hρ ?_
 refine Z 2 rfl ?_
 refine st_cut (fun ρ τ3 gs => ∃ (s3 : Bool), strings_trimLeftByte_j3 s2 s3 o2 ∧ τ2.Le τ3 ∧ ESub ρ [(0, .string s2), (1, .int .u8 a1), (4, .string (bstr [])), (13, .bool s3)] ∧ gs = []) ?_ (fun hk3 => ?_)
 ·rintro ρ3 τ3 gs3 ⟨s3, h, hl3, hρ, rfl⟩
  refine st_es hρ ?_
  refine st_if rfl h (fun h => ?_) (fun h => ?_)
  ·refine Z 4 rfl ?_
   obtain ⟨hf4, h⟩ := h
   refine o_sliceSl rfl rfl rfl Tryz.underlying9 rfl rfl (by decide) hf4 ?_
   refine Z 3 rfl ?_
   exact hn2 _ _ _ _ h ⟨(hl2.trans hl3), rfl, rfl⟩
  ·refine st_exit rfl ?_
   obtain rfl := he2 _ h
   replace h := hA2
   exact hk1 _ _ _ ⟨s2, h, (hl2.trans hl3), rfl, rfl⟩
 refine Z 4 rfl ?_
 refine o_mif rfl rfl rfl rfl h (fun h => ?_) (fun h => ?_)
 ·refine o_move rfl rfl rfl rfl ?_
  obtain ⟨q5, hf6, h⟩ := h
  refine o_indexS rfl rfl rfl Tryz.underlying9 rfl rfl hf6 ?_
  refine Z 4 rfl ?_
  exact hk3 _ _ _ ⟨(decide (q5 = a1)), h, (Sto.Le.refl _), rfl, rfl⟩
 ·refine Z 6 rfl ?_
  exact hk3 _ _ _ ⟨false, h, (Sto.Le.refl _), rfl, rfl⟩
theorem strings_makeASCIISet_ok {a0 : ByteArray} {r : List Bool × Bool} (h : strings_makeASCIISet a0 r) (σ : Sto)  :
    Does Tryz.prog 138 [.string a0] σ [] (fun v τ gs => gs = [] ∧ .tuple [.agg (cellsN Value.bool false 256 r.1).toArray, .bool r.2].toArray = v) := by
 refine call_of Tryz.func138 Tryz.ntmps138 rfl rfl (fun cs fs => ?_)
 refine Z 2 rfl ?_
 refine o_alloc rfl rfl rfl z_zero234 (fun b1 => ?_)
 refine Z 3 rfl ?_
 refine st_cut (fun ρ τ2 gs => ∃ (s2 : List Bool), strings_makeASCIISet_j1 s2 r ∧ σ.Le τ2 ∧ ESub ρ [(2, .pointer (some ⟨b1, 0, none⟩)), (3, .bool false)] ∧ gs = [[(b1, .cells (cellsN Value.bool false 256 s2).toArray 234 (0, 0))]]) ?_ (fun hk2 => ?_)
 ·rintro ρ2 τ2 gs2 ⟨s2, h, hl2, hρ, rfl⟩
  refine st_es hρ ?_
  refine Z 2 rfl ?_
  refine o_loadN (j := 0) (vs := (cellsN Value.bool false 256 s2)) rfl rfl rfl z_agg234 rfl rfl rfl ?_
  refine o_store (j := 0) (vs := (cellsN Value.bool false 256 s2)) (cs' := (cellsN Value.bool false 256 s2)) rfl rfl rfl z_size234 rfl rfl rfl ones_cellsNB rfl rfl rfl ?_
  refine st_gs [[(b1, .cells (cellsN Value.bool false 256 s2).toArray 234 (0, 0))]] rfl ?_
  refine Z 2 rfl ?_
  obtain rfl := Eq.symm h
  exact st_retC (gs' := []) [.agg (cellsN Value.bool false 256 s2).toArray, .bool true] Tryz.func138 ⟨⟨_, _, _, _, rfl, mem_flat 0 rfl, fun w hw => cellOfN (vs := (cellsN Value.bool false 256 s2)) z_agg234 rfl w hw⟩, rfl, trivial⟩ (by simp) hl2 ⟨rfl, rfl⟩
 refine Z 4 rfl ?_
 obtain ⟨e3, hL3, hA3⟩ := h
 refine st_loop hL3 (fun (s3 : Int × List Bool) ρ τ3 gs => σ.Le τ3 ∧ ESub ρ [(0, .string a0), (2, .pointer (some ⟨b1, 0, none⟩)), (3, .bool false), (4, .int .i64 s3.1)] ∧ gs = [[(b1, .cells (cellsN Value.bool false 256 s3.2).toArray 234 (0, 0))]]) ⟨Sto.Le.refl _, rfl, rfl⟩ ?_
 rintro s3 o3 h he3 ρ3 τ3 gs3 ⟨hl3, hρ, rfl⟩ hn3
 refine st_es hρ ?_
 refine Z 8 rfl ?_
 refine st_if rfl h (fun h => ?_) (fun h => ?_)
 ·refine Z 7 rfl ?_
  obtain ⟨q4, hf5, h⟩ := h
  refine o_indexS rfl rfl rfl Tryz.underlying9 rfl rfl hf5 ?_
  refine Z 8 rfl ?_
  refine st_if rfl h (fun h => ?_) (fun h => ?_)
  ·refine Z 2 rfl ?_
   refine o_loadN (j := 0) (vs := (cellsN Value.bool false 256 s3.2)) rfl rfl rfl z_agg234 rfl rfl rfl ?_
   refine o_store (j := 0) (vs := (cellsN Value.bool false 256 s3.2)) (cs' := (cellsN Value.bool false 256 s3.2)) rfl rfl rfl z_size234 rfl rfl rfl ones_cellsNB rfl rfl rfl ?_
   refine st_gs [[(b1, .cells (cellsN Value.bool false 256 s3.2).toArray 234 (0, 0))]] rfl ?_
   refine Z 2 rfl ?_
   obtain rfl := he3 _ h
   replace h := hA3
   obtain rfl := Eq.symm h
   exact st_retC (gs' := []) [.agg (cellsN Value.bool false 256 s3.2).toArray, .bool false] Tryz.func138 ⟨⟨_, _, _, _, rfl, mem_flat 0 rfl, fun w hw => cellOfN (vs := (cellsN Value.bool false 256 s3.2)) z_agg234 rfl w hw⟩, rfl, trivial⟩ (by simp) hl3 ⟨rfl, rfl⟩
  ·refine Z 3 rfl ?_
   obtain ⟨hf6, hf7, h⟩ := h
   refine o_indexA rfl rfl rfl z_arr234 rfl rfl hf6 hf7 ?_
   refine o_storeB (j := 0) (q := q4.toNat) (f := Value.bool) (zz := false) (a := true) (l := 256) (xs := s3.2) rfl rfl rfl z_size4 rfl rfl rfl rfl rfl (by omega) (by omega) ?_
   refine st_gs [[(b1, .cells (cellsN Value.bool false 256 (putN 256 false s3.2 q4.toNat true)).toArray 234 (0, 0))]] rfl ?_
   refine Z 7 rfl ?_
   exact hn3 _ _ _ _ h ⟨hl3, rfl, rfl⟩
 ·refine st_exit rfl ?_
  obtain rfl := he3 _ h
  replace h := hA3
  exact hk2 _ _ _ ⟨s3.2, h, hl3, rfl, rfl⟩
theorem strings_asciiSet_contains_ok {a0 : List Bool} {a1 : Int} {ba0 : Nat} {r : Bool} (h : strings_asciiSet_contains a0 a1 r) (σ : Sto)  :
    Does Tryz.prog 164 [.pointer (some ⟨ba0, 0, none⟩), .int .u8 a1] σ [[(ba0, .cells (cellsN Value.bool false 256 a0).toArray 234 (0, 0))]] (fun v τ gs => gs = [[(ba0, .cells (cellsN Value.bool false 256 a0).toArray 234 (0, 0))]] ∧ .bool r = v) := by
 refine call_of Tryz.func164 Tryz.ntmps164 rfl rfl (fun cs fs => ?_)
 refine Z 9 rfl ?_
 obtain ⟨hf1, hf2, h⟩ := h
 refine o_indexA rfl rfl rfl z_arr234 rfl rfl hf1 hf2 ?_
 refine o_loadB (j := 0) (q := a1.toNat) (f := Value.bool) (zz := false) (l := 256) (xs := a0) rfl rfl rfl z_sc4 rfl rfl (by omega) (by omega) ?_
 refine Z 2 rfl ?_
 obtain rfl := Eq.symm h
 exact st_ret (gs' := [[(ba0, .cells (cellsN Value.bool false 256 a0).toArray 234 (0, 0))]]) Tryz.func164 rfl (List.Sublist.refl _) (Sto.Le.refl _) ⟨rfl, rfl⟩
theorem strings_trimRightASCII_ok {a0 : ByteArray} {a1 : List Bool} {ba1 : Nat} {r : ByteArray} (h : strings_trimRightASCII a0 a1 r) (σ : Sto)  :
    Does Tryz.prog 140 [.string a0, .pointer (some ⟨ba1, 0, none⟩)] σ [[(ba1, .cells (cellsN Value.bool false 256 a1).toArray 234 (0, 0))]] (fun v τ gs => gs = [[(ba1, .cells (cellsN Value.bool false 256 a1).toArray 234 (0, 0))]] ∧ .string r = v) := by
 refine call_of Tryz.func140 Tryz.ntmps140 rfl rfl (fun cs fs => ?_)
 refine Z 2 rfl ?_
 refine o_assign rfl rfl rfl (ev_str z_str0) ?_
 refine Z 2 rfl ?_
 refine st_cut (fun ρ τ1 gs => ∃ (s1 : ByteArray), strings_trimRightASCII_j1 s1 r ∧ σ.Le τ1 ∧ ESub ρ [(0, .string s1), (4, .string (bstr []))] ∧ gs = [[(ba1, .cells (cellsN Value.bool false 256 a1).toArray 234 (0, 0))]]) ?_ (fun hk1 => ?_)
 ·rintro ρ1 τ1 gs1 ⟨s1, h, hl1, hρ, rfl⟩
  refine st_es hρ ?_
  refine Z 5 rfl ?_
  obtain rfl := Eq.symm h
  exact st_ret (gs' := [[(ba1, .cells (cellsN Value.bool false 256 a1).toArray 234 (0, 0))]]) Tryz.func140 rfl (List.Sublist.refl _) hl1 ⟨rfl, rfl⟩
 obtain ⟨e2, hL2, hA2⟩ := h
 refine st_loop hL2 (fun (s2 : ByteArray) ρ τ2 gs => σ.Le τ2 ∧ ESub ρ [(0, .string s2), (1, .pointer (some ⟨ba1, 0, none⟩)), (4, .string (bstr []))] ∧ gs = [[(ba1, .cells (cellsN Value.bool false 256 a1).toArray 234 (0, 0))]]) ⟨Sto.Le.refl _, rfl, rfl⟩ ?_
 rintro s2 o2 h he2 ρ2 τ2 gs2 ⟨hl2, hρ, rfl⟩ hn2
 refine st_es hρ ?_
 refine Z 7 rfl ?_
 refine st_if rfl h (fun h => ?_) (fun h => ?_)
 ·refine Z 10 rfl ?_
  obtain ⟨q3, hf4, h⟩ := h
  refine o_indexS rfl rfl rfl Tryz.underlying9 rfl rfl hf4 ?_
  obtain ⟨r5, hr6, h⟩ := h
  refine st_call (foot := [[(ba1, .cells (cellsN Value.bool false 256 a1).toArray 234 (0, 0))]]) rfl rfl rfl rfl rfl rfl (callV_fn z_en164 (strings_asciiSet_contains_ok hr6 τ2)) ?_
  rintro vτ7 τ7 gsτ7 hl8 ⟨rfl, rfl⟩
  refine Z 2 rfl ?_
  refine st_if rfl h (fun h => ?_) (fun h => ?_)
  ·refine st_exit rfl ?_
   obtain rfl := he2 _ h
   replace h := hA2
   exact hk1 _ _ _ ⟨s2, h, (hl2.trans hl8), rfl, rfl⟩
  ·refine Z 6 rfl ?_
   obtain ⟨hf9, hf10, h⟩ := h
   refine o_sliceSh rfl rfl rfl Tryz.underlying9 rfl rfl hf9 hf10 ?_
   refine Z 3 rfl ?_
   exact hn2 _ _ _ _ h ⟨(hl2.trans hl8), rfl, rfl⟩
 ·refine st_exit rfl ?_
  obtain rfl := he2 _ h
  replace h := hA2
  exact hk1 _ _ _ ⟨s2, h, hl2, rfl, rfl⟩
theorem strings_trimLeftASCII_ok {a0 : ByteArray} {a1 : List Bool} {ba1 : Nat} {r : ByteArray} (h : strings_trimLeftASCII a0 a1 r) (σ : Sto)  :
    Does Tryz.prog 139 [.string a0, .pointer (some ⟨ba1, 0, none⟩)] σ [[(ba1, .cells (cellsN Value.bool false 256 a1).toArray 234 (0, 0))]] (fun v τ gs => gs = [[(ba1, .cells (cellsN Value.bool false 256 a1).toArray 234 (0, 0))]] ∧ .string r = v) := by
 refine call_of Tryz.func139 Tryz.ntmps139 rfl rfl (fun cs fs => ?_)
 refine Z 2 rfl ?_
 refine o_assign rfl rfl rfl (ev_str z_str0) ?_
 refine Z 2 rfl ?_
 refine st_cut (fun ρ τ1 gs => ∃ (s1 : ByteArray), strings_trimLeftASCII_j1 s1 r ∧ σ.Le τ1 ∧ ESub ρ [(0, .string s1), (4, .string (bstr []))] ∧ gs = [[(ba1, .cells (cellsN Value.bool false 256 a1).toArray 234 (0, 0))]]) ?_ (fun hk1 => ?_)
 ·rintro ρ1 τ1 gs1 ⟨s1, h, hl1, hρ, rfl⟩
  refine st_es hρ ?_
  refine Z 5 rfl ?_
  obtain rfl := Eq.symm h
  exact st_ret (gs' := [[(ba1, .cells (cellsN Value.bool false 256 a1).toArray 234 (0, 0))]]) Tryz.func139 rfl (List.Sublist.refl _) hl1 ⟨rfl, rfl⟩
 obtain ⟨e2, hL2, hA2⟩ := h
 refine st_loop hL2 (fun (s2 : ByteArray) ρ τ2 gs => σ.Le τ2 ∧ ESub ρ [(0, .string s2), (1, .pointer (some ⟨ba1, 0, none⟩)), (4, .string (bstr []))] ∧ gs = [[(ba1, .cells (cellsN Value.bool false 256 a1).toArray 234 (0, 0))]]) ⟨Sto.Le.refl _, rfl, rfl⟩ ?_
 rintro s2 o2 h he2 ρ2 τ2 gs2 ⟨hl2, hρ, rfl⟩ hn2
 refine st_es hρ ?_
 refine Z 7 rfl ?_
 refine st_if rfl h (fun h => ?_) (fun h => ?_)
 ·refine Z 7 rfl ?_
  obtain ⟨q3, hf4, h⟩ := h
  refine o_indexS rfl rfl rfl Tryz.underlying9 rfl rfl hf4 ?_
  obtain ⟨r5, hr6, h⟩ := h
  refine st_call (foot := [[(ba1, .cells (cellsN Value.bool false 256 a1).toArray 234 (0, 0))]]) rfl rfl rfl rfl rfl rfl (callV_fn z_en164 (strings_asciiSet_contains_ok hr6 τ2)) ?_
  rintro vτ7 τ7 gsτ7 hl8 ⟨rfl, rfl⟩
  refine Z 2 rfl ?_
  refine st_if rfl h (fun h => ?_) (fun h => ?_)
  ·refine st_exit rfl ?_
   obtain rfl := he2 _ h
   replace h := hA2
   exact hk1 _ _ _ ⟨s2, h, (hl2.trans hl8), rfl, rfl⟩
  ·refine Z 3 rfl ?_
   obtain ⟨hf9, h⟩ := h
   refine o_sliceSl rfl rfl rfl Tryz.underlying9 rfl rfl (by decide) hf9 ?_
   refine Z 3 rfl ?_
   exact hn2 _ _ _ _ h ⟨(hl2.trans hl8), rfl, rfl⟩
 ·refine st_exit rfl ?_
  obtain rfl := he2 _ h
  replace h := hA2
  exact hk1 _ _ _ ⟨s2, h, hl2, rfl, rfl⟩
theorem unicode_utf8_RuneStart_ok {a0 : Int} {r : Bool} (h : unicode_utf8_RuneStart a0 r) (σ : Sto)  :
    Does Tryz.prog 178 [.int .u8 a0] σ [] (fun v τ gs => gs = [] ∧ .bool r = v) := by
 refine call_of Tryz.func178 Tryz.ntmps178 rfl rfl (fun cs fs => ?_)
 refine Z 11 rfl ?_
 obtain rfl := Eq.symm h
 exact st_ret (gs' := []) Tryz.func178 rfl (List.Sublist.refl _) (Sto.Le.refl _) ⟨rfl, rfl⟩
theorem unicode_utf8_DecodeLastRuneInString_ok {a0 : ByteArray} {r : Int × Int} (h : unicode_utf8_DecodeLastRuneInString a0 r) (σ : Sto)  :
    Does Tryz.prog 166 [.string a0] σ [] (fun v τ gs => gs = [] ∧ .tuple [.int .i32 r.1, .int .i64 r.2].toArray = v) := by
 refine call_of Tryz.func166 Tryz.ntmps166 rfl rfl (fun cs fs => ?_)
 refine Z 17 rfl ?_
 refine st_if rfl h (fun h => ?_) (fun h => ?_)
 ·refine Z 5 rfl ?_
  obtain rfl := Eq.symm h
  exact st_ret (gs' := []) Tryz.func166 rfl (List.Sublist.refl _) (Sto.Le.refl _) ⟨rfl, rfl⟩
 ·refine Z 11 rfl ?_
  obtain ⟨q1, hf2, h⟩ := h
  refine o_indexS rfl rfl rfl Tryz.underlying9 rfl rfl hf2 ?_
  refine Z 9 rfl ?_
  refine st_if rfl h (fun h => ?_) (fun h => ?_)
  ·refine Z 6 rfl ?_
   obtain rfl := Eq.symm h
   exact st_ret (gs' := []) Tryz.func166 rfl (List.Sublist.refl _) (Sto.Le.refl _) ⟨rfl, rfl⟩
  ·refine Z 9 rfl ?_
   refine st_cut (fun ρ τ3 gs => ∃ (s3 : Int), unicode_utf8_DecodeLastRuneInString_j1 a0 s3 r ∧ σ.Le τ3 ∧ ESub ρ [(0, .string a0), (2, .int .i32 (IntKind.i32.wrap q1)), (3, .int .i64 0), (4, .int .i64 (a0.size : Int)), (5, .int .i64 s3)] ∧ gs = []) ?_ (fun hk3 => ?_)
   ·rintro ρ3 τ3 gs3 ⟨s3, h, hl3, hρ, rfl⟩
    refine st_es hρ ?_
    refine st_seq ?_
    refine st_cut (fun ρ τ4 gs => ∃ (s4 : Int), unicode_utf8_DecodeLastRuneInString_j2 a0 s4 r ∧ τ3.Le τ4 ∧ ESub ρ [(0, .string a0), (2, .int .i32 (IntKind.i32.wrap q1)), (3, .int .i64 0), (4, .int .i64 (a0.size : Int)), (5, .int .i64 s4)] ∧ gs = []) ?_ (fun hk4 => ?_)
    ·rintro ρ4 τ4 gs4 ⟨s4, h, hl4, hρ, rfl⟩
     refine st_es hρ ?_
     refine Z 5 rfl ?_
     obtain ⟨hf5, hf6, hf7, h⟩ := h
     refine o_sliceS rfl rfl rfl Tryz.underlying9 rfl rfl rfl hf5 hf6 hf7 ?_
     obtain ⟨r8, hr9, h⟩ := h
     refine st_call (foot := []) rfl rfl rfl rfl rfl rfl (callV_fn z_en147 (unicode_utf8_DecodeRuneInString_ok hr9 τ4)) ?_
     rintro vτ10 τ10 gsτ10 hl11 ⟨rfl, rfl⟩
     refine Z 15 rfl ?_
     refine st_if rfl h (fun h => ?_) (fun h => ?_)
     ·refine Z 5 rfl ?_
      obtain rfl := Eq.symm h
      exact st_ret (gs' := []) Tryz.func166 rfl (List.Sublist.refl _) ((hl3.trans hl4).trans hl11) ⟨rfl, rfl⟩
     ·refine Z 8 rfl ?_
      obtain rfl := Eq.symm h
      exact st_ret (gs' := []) Tryz.func166 rfl (List.Sublist.refl _) ((hl3.trans hl4).trans hl11) ⟨rfl, rfl⟩
    refine Z 5 rfl ?_
    refine st_if rfl h (fun h => ?_) (fun h => ?_)
    ·refine Z 3 rfl ?_
     exact hk4 _ _ _ ⟨0, h, (Sto.Le.refl _), rfl, rfl⟩
    ·refine st_skip ?_
     exact hk4 _ _ _ ⟨s3, h, (Sto.Le.refl _), rfl, rfl⟩
   refine Z 6 rfl ?_
   obtain ⟨e12, hL12, hA12⟩ := h
   refine st_loop hL12 (fun (s12 : Int) ρ τ12 gs => σ.Le τ12 ∧ ESub ρ [(0, .string a0), (2, .int .i32 (IntKind.i32.wrap q1)), (3, .int .i64 0), (4, .int .i64 (a0.size : Int)), (5, .int .i64 s12), (6, .int .i64 (max (IntKind.i64.wrap ((a0.size : Int) - 4)) 0))] ∧ gs = []) ⟨Sto.Le.refl _, rfl, rfl⟩ ?_
   rintro s12 o12 h he12 ρ12 τ12 gs12 ⟨hl12, hρ, rfl⟩ hn12
   refine st_es hρ ?_
   refine Z 7 rfl ?_
   refine st_if rfl h (fun h => ?_) (fun h => ?_)
   ·refine Z 7 rfl ?_
    obtain ⟨q13, hf14, h⟩ := h
    refine o_indexS rfl rfl rfl Tryz.underlying9 rfl rfl hf14 ?_
    obtain ⟨r15, hr16, h⟩ := h
    refine st_call (foot := []) rfl rfl rfl rfl rfl rfl (callV_fn z_en178 (unicode_utf8_RuneStart_ok hr16 τ12)) ?_
    rintro vτ17 τ17 gsτ17 hl18 ⟨rfl, rfl⟩
    refine st_end ?_
    refine st_if rfl h (fun h => ?_) (fun h => ?_)
    ·refine st_exit rfl ?_
     obtain rfl := he12 _ h
     replace h := hA12
     exact hk3 _ _ _ ⟨s12, h, (hl12.trans hl18), rfl, rfl⟩
    ·refine Z 7 rfl ?_
     exact hn12 _ _ _ _ h ⟨(hl12.trans hl18), rfl, rfl⟩
   ·refine st_exit rfl ?_
    obtain rfl := he12 _ h
    replace h := hA12
    exact hk3 _ _ _ ⟨s12, h, hl12, rfl, rfl⟩
theorem unicode_utf8_ValidRune_ok {a0 : Int} {r : Bool} (h : unicode_utf8_ValidRune a0 r) (σ : Sto)  :
    Does Tryz.prog 186 [.int .i32 a0] σ [] (fun v τ gs => gs = [] ∧ .bool r = v) := by
 refine call_of Tryz.func186 Tryz.ntmps186 rfl rfl (fun cs fs => ?_)
 refine Z 7 rfl ?_
 refine st_cut (fun ρ τ1 gs => ∃ (s1 : Bool), unicode_utf8_ValidRune_j1 a0 s1 r ∧ σ.Le τ1 ∧ ESub ρ [(0, .int .i32 a0), (2, .bool false), (3, .bool s1)] ∧ gs = []) ?_ (fun hk1 => ?_)
 ·rintro ρ1 τ1 gs1 ⟨s1, h, hl1, hρ, rfl⟩
  refine st_es hρ ?_
  refine st_if rfl h (fun h => ?_) (fun h => ?_)
  ·refine Z 4 rfl ?_
   obtain rfl := Eq.symm h
   exact st_ret (gs' := []) Tryz.func186 rfl (List.Sublist.refl _) hl1 ⟨rfl, rfl⟩
  ·refine st_seq ?_
   refine st_cut (fun ρ τ2 gs => ∃ (s2 : Bool), unicode_utf8_ValidRune_j2 s2 r ∧ τ1.Le τ2 ∧ ESub ρ [(2, .bool false), (10, .bool s2)] ∧ gs = []) ?_ (fun hk2 => ?_)
   ·rintro ρ2 τ2 gs2 ⟨s2, h, hl2, hρ, rfl⟩
    refine st_es hρ ?_
    refine st_if rfl h (fun h => ?_) (fun h => ?_)
    ·refine Z 4 rfl ?_
     obtain rfl := Eq.symm h
     exact st_ret (gs' := []) Tryz.func186 rfl (List.Sublist.refl _) (hl1.trans hl2) ⟨rfl, rfl⟩
    ·refine Z 6 rfl ?_
     obtain rfl := Eq.symm h
     exact st_ret (gs' := []) Tryz.func186 rfl (List.Sublist.refl _) (hl1.trans hl2) ⟨rfl, rfl⟩
   refine Z 3 rfl ?_
   refine o_mif rfl rfl rfl rfl h (fun h => ?_) (fun h => ?_)
   ·refine Z 5 rfl ?_
    exact hk2 _ _ _ ⟨(decide (a0 ≤ 1114111)), h, (Sto.Le.refl _), rfl, rfl⟩
   ·refine Z 5 rfl ?_
    exact hk2 _ _ _ ⟨false, h, (Sto.Le.refl _), rfl, rfl⟩
 refine Z 3 rfl ?_
 refine o_mif rfl rfl rfl rfl h (fun h => ?_) (fun h => ?_)
 ·refine Z 5 rfl ?_
  exact hk1 _ _ _ ⟨(decide (a0 < 55296)), h, (Sto.Le.refl _), rfl, rfl⟩
 ·refine Z 5 rfl ?_
  exact hk1 _ _ _ ⟨false, h, (Sto.Le.refl _), rfl, rfl⟩
theorem strings_IndexRune_ok {a0 : ByteArray} {a1 : Int} {r : Int} (h : strings_IndexRune a0 a1 r) (σ : Sto)  :
    Does Tryz.prog 177 [.string a0, .int .i32 a1] σ [] (fun v τ gs => gs = [] ∧ .int .i64 r = v) := by
 refine call_of Tryz.func177 Tryz.ntmps177 rfl rfl (fun cs fs => ?_)
 refine Z 6 rfl ?_
 refine st_cut (fun ρ τ1 gs => ∃ (s1 : Bool), strings_IndexRune_j1 a0 a1 s1 r ∧ σ.Le τ1 ∧ ESub ρ [(0, .string a0), (1, .int .i32 a1), (4, .int .i64 0), (160, .bool s1)] ∧ gs = []) ?_ (fun hk1 => ?_)
 ·rintro ρ1 τ1 gs1 ⟨s1, h, hl1, hρ, rfl⟩
  refine st_es hρ ?_
  refine st_if rfl h (fun h => ?_) (fun h => ?_)
  ·refine Z 5 rfl ?_
   obtain ⟨r2, hr3, h⟩ := h
   refine st_call (foot := []) rfl rfl rfl rfl rfl rfl (callV_fn z_en105 (strings_IndexByte_ok hr3 τ1)) ?_
   rintro vτ4 τ4 gsτ4 hl5 ⟨rfl, rfl⟩
   refine Z 2 rfl ?_
   obtain rfl := Eq.symm h
   exact st_ret (gs' := []) Tryz.func177 rfl (List.Sublist.refl _) (hl1.trans hl5) ⟨rfl, rfl⟩
  ·refine Z 6 rfl ?_
   refine st_if rfl h (fun h => ?_) (fun h => ?_)
   ·refine Z 4 rfl ?_
    exact h.elim
   ·refine Z 3 rfl ?_
    obtain ⟨r6, hr7, h⟩ := h
    refine st_call (foot := []) rfl rfl rfl rfl rfl rfl (callV_fn z_en186 (unicode_utf8_ValidRune_ok hr7 τ1)) ?_
    rintro vτ8 τ8 gsτ8 hl9 ⟨rfl, rfl⟩
    refine Z 3 rfl ?_
    refine st_if rfl h (fun h => ?_) (fun h => ?_)
    ·refine Z 4 rfl ?_
     obtain rfl := Eq.symm h
     exact st_ret (gs' := []) Tryz.func177 rfl (List.Sublist.refl _) (hl1.trans hl9) ⟨rfl, rfl⟩
    ·refine Z 4 rfl ?_
     exact h.elim
 refine Z 3 rfl ?_
 refine o_mif rfl rfl rfl rfl h (fun h => ?_) (fun h => ?_)
 ·refine Z 5 rfl ?_
  exact hk1 _ _ _ ⟨(decide (a1 < 128)), h, (Sto.Le.refl _), rfl, rfl⟩
 ·refine Z 5 rfl ?_
  exact hk1 _ _ _ ⟨false, h, (Sto.Le.refl _), rfl, rfl⟩
theorem strings_ContainsRune_ok {a0 : ByteArray} {a1 : Int} {r : Bool} (h : strings_ContainsRune a0 a1 r) (σ : Sto)  :
    Does Tryz.prog 165 [.string a0, .int .i32 a1] σ [] (fun v τ gs => gs = [] ∧ .bool r = v) := by
 refine call_of Tryz.func165 Tryz.ntmps165 rfl rfl (fun cs fs => ?_)
 refine Z 8 rfl ?_
 obtain ⟨r1, hr2, h⟩ := h
 refine st_call (foot := []) rfl rfl rfl rfl rfl rfl (callV_fn z_en177 (strings_IndexRune_ok hr2 σ)) ?_
 rintro vτ3 τ3 gsτ3 hl4 ⟨rfl, rfl⟩
 refine Z 3 rfl ?_
 obtain rfl := Eq.symm h
 exact st_ret (gs' := []) Tryz.func165 rfl (List.Sublist.refl _) hl4 ⟨rfl, rfl⟩
theorem strings_trimRightUnicode_ok {a0 : ByteArray} {a1 : ByteArray} {r : ByteArray} (h : strings_trimRightUnicode a0 a1 r) (σ : Sto)  :
    Does Tryz.prog 142 [.string a0, .string a1] σ [] (fun v τ gs => gs = [] ∧ .string r = v) := by
 refine call_of Tryz.func142 Tryz.ntmps142 rfl rfl (fun cs fs => ?_)
 refine Z 2 rfl ?_
 refine o_assign rfl rfl rfl (ev_str z_str0) ?_
 refine Z 2 rfl ?_
 refine st_cut (fun ρ τ1 gs => ∃ (s1 : ByteArray), strings_trimRightUnicode_j1 s1 r ∧ σ.Le τ1 ∧ ESub ρ [(0, .string s1), (4, .string (bstr []))] ∧ gs = []) ?_ (fun hk1 => ?_)
 ·rintro ρ1 τ1 gs1 ⟨s1, h, hl1, hρ, rfl⟩
  refine st_es hρ ?_
  refine Z 5 rfl ?_
  obtain rfl := Eq.symm h
  exact st_ret (gs' := []) Tryz.func142 rfl (List.Sublist.refl _) hl1 ⟨rfl, rfl⟩
 obtain ⟨e2, hL2, hA2⟩ := h
 refine st_loop hL2 (fun (s2 : ByteArray) ρ τ2 gs => σ.Le τ2 ∧ ESub ρ [(0, .string s2), (1, .string a1), (4, .string (bstr []))] ∧ gs = []) ⟨Sto.Le.refl _, rfl, rfl⟩ ?_
 rintro s2 o2 h he2 ρ2 τ2 gs2 ⟨hl2, hρ, rfl⟩ hn2
 refine st_es hρ ?_
 refine Z 7 rfl ?_
 refine st_if rfl h (fun h => ?_) (fun h => ?_)
 ·refine Z 8 rfl ?_
  obtain ⟨q3, hf4, h⟩ := h
  refine o_indexS rfl rfl rfl Tryz.underlying9 rfl rfl hf4 ?_
  refine Z 5 rfl ?_
  refine st_cut (fun ρ τ5 gs => ∃ (s5 : Int × Int), strings_trimRightUnicode_j3 a1 s2 s5 o2 ∧ τ2.Le τ5 ∧ ESub ρ [(0, .string s2), (1, .string a1), (4, .string (bstr [])), (5, .int .i32 s5.1), (6, .int .i64 s5.2)] ∧ gs = []) ?_ (fun hk5 => ?_)
  ·rintro ρ5 τ5 gs5 ⟨s5, h, hl5, hρ, rfl⟩
   refine st_es hρ ?_
   refine Z 5 rfl ?_
   obtain ⟨r6, hr7, h⟩ := h
   refine st_call (foot := []) rfl rfl rfl rfl rfl rfl (callV_fn z_en165 (strings_ContainsRune_ok hr7 τ5)) ?_
   rintro vτ8 τ8 gsτ8 hl9 ⟨rfl, rfl⟩
   refine Z 2 rfl ?_
   refine st_if rfl h (fun h => ?_) (fun h => ?_)
   ·refine st_exit rfl ?_
    obtain rfl := he2 _ h
    replace h := hA2
    exact hk1 _ _ _ ⟨s2, h, ((hl2.trans hl5).trans hl9), rfl, rfl⟩
   ·refine Z 7 rfl ?_
    obtain ⟨hf10, hf11, h⟩ := h
    refine o_sliceSh rfl rfl rfl Tryz.underlying9 rfl rfl hf10 hf11 ?_
    refine Z 3 rfl ?_
    exact hn2 _ _ _ _ h ⟨((hl2.trans hl5).trans hl9), rfl, rfl⟩
  refine Z 5 rfl ?_
  refine st_if rfl h (fun h => ?_) (fun h => ?_)
  ·refine Z 2 rfl ?_
   obtain ⟨r12, hr13, h⟩ := h
   refine st_call (foot := []) rfl rfl rfl rfl rfl rfl (callV_fn z_en166 (unicode_utf8_DecodeLastRuneInString_ok hr13 τ2)) ?_
   rintro vτ14 τ14 gsτ14 hl15 ⟨rfl, rfl⟩
   refine Z 6 rfl ?_
   exact hk5 _ _ _ ⟨(r12.1, r12.2), h, hl15, rfl, rfl⟩
  ·refine st_skip ?_
   exact hk5 _ _ _ ⟨((IntKind.i32.wrap q3), 1), h, (Sto.Le.refl _), rfl, rfl⟩
 ·refine st_exit rfl ?_
  obtain rfl := he2 _ h
  replace h := hA2
  exact hk1 _ _ _ ⟨s2, h, hl2, rfl, rfl⟩
theorem strings_trimLeftUnicode_ok {a0 : ByteArray} {a1 : ByteArray} {r : ByteArray} (h : strings_trimLeftUnicode a0 a1 r) (σ : Sto)  :
    Does Tryz.prog 141 [.string a0, .string a1] σ [] (fun v τ gs => gs = [] ∧ .string r = v) := by
 refine call_of Tryz.func141 Tryz.ntmps141 rfl rfl (fun cs fs => ?_)
 refine Z 2 rfl ?_
 refine o_assign rfl rfl rfl (ev_str z_str0) ?_
 refine Z 2 rfl ?_
 refine st_cut (fun ρ τ1 gs => ∃ (s1 : ByteArray), strings_trimLeftUnicode_j1 s1 r ∧ σ.Le τ1 ∧ ESub ρ [(0, .string s1), (4, .string (bstr []))] ∧ gs = []) ?_ (fun hk1 => ?_)
 ·rintro ρ1 τ1 gs1 ⟨s1, h, hl1, hρ, rfl⟩
  refine st_es hρ ?_
  refine Z 5 rfl ?_
  obtain rfl := Eq.symm h
  exact st_ret (gs' := []) Tryz.func141 rfl (List.Sublist.refl _) hl1 ⟨rfl, rfl⟩
 obtain ⟨e2, hL2, hA2⟩ := h
 refine st_loop hL2 (fun (s2 : ByteArray) ρ τ2 gs => σ.Le τ2 ∧ ESub ρ [(0, .string s2), (1, .string a1), (4, .string (bstr []))] ∧ gs = []) ⟨Sto.Le.refl _, rfl, rfl⟩ ?_
 rintro s2 o2 h he2 ρ2 τ2 gs2 ⟨hl2, hρ, rfl⟩ hn2
 refine st_es hρ ?_
 refine Z 7 rfl ?_
 refine st_if rfl h (fun h => ?_) (fun h => ?_)
 ·refine Z 5 rfl ?_
  obtain ⟨r3, hr4, h⟩ := h
  refine st_call (foot := []) rfl rfl rfl rfl rfl rfl (callV_fn z_en147 (unicode_utf8_DecodeRuneInString_ok hr4 τ2)) ?_
  rintro vτ5 τ5 gsτ5 hl6 ⟨rfl, rfl⟩
  refine Z 11 rfl ?_
  obtain ⟨r7, hr8, h⟩ := h
  refine st_call (foot := []) rfl rfl rfl rfl rfl rfl (callV_fn z_en165 (strings_ContainsRune_ok hr8 τ5)) ?_
  rintro vτ9 τ9 gsτ9 hl10 ⟨rfl, rfl⟩
  refine Z 2 rfl ?_
  refine st_if rfl h (fun h => ?_) (fun h => ?_)
  ·refine st_exit rfl ?_
   obtain rfl := he2 _ h
   replace h := hA2
   exact hk1 _ _ _ ⟨s2, h, ((hl2.trans hl6).trans hl10), rfl, rfl⟩
  ·refine Z 4 rfl ?_
   obtain ⟨hf11, hf12, h⟩ := h
   refine o_sliceSl rfl rfl rfl Tryz.underlying9 rfl rfl hf11 hf12 ?_
   refine Z 3 rfl ?_
   exact hn2 _ _ _ _ h ⟨((hl2.trans hl6).trans hl10), rfl, rfl⟩
 ·refine st_exit rfl ?_
  obtain rfl := he2 _ h
  replace h := hA2
  exact hk1 _ _ _ ⟨s2, h, hl2, rfl, rfl⟩
theorem strings_Trim_ok {a0 : ByteArray} {a1 : ByteArray} {r : ByteArray} (h : strings_Trim a0 a1 r) (σ : Sto)  :
    Does Tryz.prog 108 [.string a0, .string a1] σ [] (fun v τ gs => gs = [] ∧ .string r = v) := by
 refine call_of Tryz.func108 Tryz.ntmps108 rfl rfl (fun cs fs => ?_)
 refine Z 2 rfl ?_
 refine o_assign rfl rfl rfl (ev_str z_str0) ?_
 refine Z 3 rfl ?_
 refine st_cut (fun ρ τ1 gs => ∃ (s1 : Bool), strings_Trim_j1 a0 a1 s1 r ∧ σ.Le τ1 ∧ ESub ρ [(0, .string a0), (1, .string a1), (4, .string (bstr [])), (12, .bool s1)] ∧ gs = []) ?_ (fun hk1 => ?_)
 ·rintro ρ1 τ1 gs1 ⟨s1, h, hl1, hρ, rfl⟩
  refine st_es hρ ?_
  refine st_if rfl h (fun h => ?_) (fun h => ?_)
  ·refine Z 5 rfl ?_
   obtain rfl := Eq.symm h
   exact st_ret (gs' := []) Tryz.func108 rfl (List.Sublist.refl _) hl1 ⟨rfl, rfl⟩
  ·refine Z 3 rfl ?_
   refine st_cut (fun ρ τ2 gs => ∃ (s2 : Bool), strings_Trim_j2 a0 a1 s2 r ∧ τ1.Le τ2 ∧ ESub ρ [(0, .string a0), (1, .string a1), (4, .string (bstr [])), (21, .bool s2)] ∧ gs = []) ?_ (fun hk2 => ?_)
   ·rintro ρ2 τ2 gs2 ⟨s2, h, hl2, hρ, rfl⟩
    refine st_es hρ ?_
    refine st_if rfl h (fun h => ?_) (fun h => ?_)
    ·refine st_seq ?_
     obtain ⟨q3, hf4, r5, hr6, q9, hf10, r11, hr12, h⟩ := h
     refine st_draw 7 (dl [.v (.string a0), .v (.string a1), .v (.int .u8 q3), .v (.string r5), .v (.string a1), .v (.int .u8 q9), .v (.string r11)]) (fun _ _ => []) z_mix rfl (dl_mono trivial) (allB_cons (allB_cons (allB_cons (allB_cons (allB_cons (allB_cons (allB_cons allB_nil (p1 dA)) (p1 dA)) ?_) ?_) (p1 dA)) ?_) ?_) ?_
     ·intro ρ' τ pool rs hl hd hout hk
      obtain ⟨_, e1, rfl⟩ := hd 1 rfl
      refine o_indexS rfl rfl rfl Tryz.underlying9 e1 rfl hf4 ?_
      exact st_addNil (hk _ _ (Sto.Le.refl _) rfl)
     ·intro ρ' τ pool rs hl hd hout hk
      obtain ⟨_, e0, rfl⟩ := hd 0 rfl
      obtain ⟨_, e2, rfl⟩ := hd 2 rfl
      refine st_call (foot := []) rfl rfl rfl rfl (evs_cons e0 (evs_cons e2 rfl)) rfl (callV_fn z_en137 (strings_trimRightByte_ok hr6 τ)) ?_
      rintro vτ7 τ7 gsτ7 hl8 ⟨rfl, rfl⟩
      exact st_addNil (hk _ _ hl8 rfl)
     ·intro ρ' τ pool rs hl hd hout hk
      obtain ⟨_, e4, rfl⟩ := hd 4 rfl
      refine o_indexS rfl rfl rfl Tryz.underlying9 e4 rfl hf10 ?_
      exact st_addNil (hk _ _ (Sto.Le.refl _) rfl)
     ·intro ρ' τ pool rs hl hd hout hk
      obtain ⟨_, e3, rfl⟩ := hd 3 rfl
      obtain ⟨_, e5, rfl⟩ := hd 5 rfl
      refine st_call (foot := []) rfl rfl rfl rfl (evs_cons e3 (evs_cons e5 rfl)) rfl (callV_fn z_en136 (strings_trimLeftByte_ok hr12 τ)) ?_
      rintro vτ13 τ13 gsτ13 hl14 ⟨rfl, rfl⟩
      exact st_addNil (hk _ _ hl14 rfl)
     intro ρ' τ15 vals hl15 hv hout
     refine st_ord [] _ rfl ?_
     refine st_env (ρ' := [(28, .string r11), (0, .string a0), (1, .string a1), (4, .string (bstr []))]) ⟨(lv1 hv 6 rfl rfl), (hout 0 rfl).trans rfl, (hout 1 rfl).trans rfl, (hout 4 rfl).trans rfl, trivial⟩ ?_
     refine Z 2 rfl ?_
     obtain rfl := Eq.symm h
     exact st_ret (gs' := []) Tryz.func108 rfl (List.Sublist.refl _) ((hl1.trans hl2).trans hl15) ⟨rfl, rfl⟩
    ·refine Z 5 rfl ?_
     obtain ⟨r16, hr17, h⟩ := h
     refine st_call (foot := []) rfl rfl rfl rfl rfl rfl (callV_fn z_en138 (strings_makeASCIISet_ok hr17 τ2)) ?_
     rintro vτ18 τ18 gsτ18 hl19 ⟨rfl, rfl⟩
     refine Z 3 rfl ?_
     refine o_alloc rfl rfl rfl z_zero234 (fun b20 => ?_)
     refine o_store (j := 0) (vs := (cellsN Value.bool false 256 r16.1)) (cs' := (cellsN Value.bool false 256 r16.1)) rfl rfl rfl z_size234 rfl rfl rfl ones_cellsNB rfl rfl rfl ?_
     refine st_gs [[(b20, .cells (cellsN Value.bool false 256 r16.1).toArray 234 (0, 0))]] rfl ?_
     refine Z 6 rfl ?_
     refine st_if rfl h (fun h => ?_) (fun h => ?_)
     ·refine Z 3 rfl ?_
      obtain ⟨r21, hr22, h⟩ := h
      refine st_call (foot := [[(b20, .cells (cellsN Value.bool false 256 r16.1).toArray 234 (0, 0))]]) rfl rfl rfl rfl rfl rfl (callV_fn z_en140 (strings_trimRightASCII_ok hr22 τ18)) ?_
      rintro vτ23 τ23 gsτ23 hl24 ⟨rfl, rfl⟩
      obtain ⟨r25, hr26, h⟩ := h
      refine st_call (foot := [[(b20, .cells (cellsN Value.bool false 256 r16.1).toArray 234 (0, 0))]]) rfl rfl rfl rfl rfl rfl (callV_fn z_en139 (strings_trimLeftASCII_ok hr26 τ23)) ?_
      rintro vτ27 τ27 gsτ27 hl28 ⟨rfl, rfl⟩
      refine Z 2 rfl ?_
      refine st_ord [] _ rfl ?_
      obtain rfl := Eq.symm h
      exact st_ret (gs' := []) Tryz.func108 rfl (List.Sublist.refl _) ((((hl1.trans hl2).trans hl19).trans hl24).trans hl28) ⟨rfl, rfl⟩
     ·refine Z 5 rfl ?_
      obtain ⟨r29, hr30, h⟩ := h
      refine st_call (foot := []) rfl rfl rfl rfl rfl rfl (callV_fn z_en142 (strings_trimRightUnicode_ok hr30 τ18)) ?_
      rintro vτ31 τ31 gsτ31 hl32 ⟨rfl, rfl⟩
      refine o_move rfl rfl rfl rfl ?_
      obtain ⟨r33, hr34, h⟩ := h
      refine st_call (foot := []) rfl rfl rfl rfl rfl rfl (callV_fn z_en141 (strings_trimLeftUnicode_ok hr34 τ31)) ?_
      rintro vτ35 τ35 gsτ35 hl36 ⟨rfl, rfl⟩
      refine Z 2 rfl ?_
      refine st_ord [] _ rfl ?_
      obtain rfl := Eq.symm h
      exact st_ret (gs' := []) Tryz.func108 rfl (List.Sublist.refl _) ((((hl1.trans hl2).trans hl19).trans hl32).trans hl36) ⟨rfl, rfl⟩
   refine Z 4 rfl ?_
   refine o_mif rfl rfl rfl rfl h (fun h => ?_) (fun h => ?_)
   ·refine o_move rfl rfl rfl rfl ?_
    obtain ⟨q37, hf38, h⟩ := h
    refine o_indexS rfl rfl rfl Tryz.underlying9 rfl rfl hf38 ?_
    refine Z 3 rfl ?_
    exact hk2 _ _ _ ⟨(decide (q37 < 128)), h, (Sto.Le.refl _), rfl, rfl⟩
   ·refine Z 5 rfl ?_
    exact hk2 _ _ _ ⟨false, h, (Sto.Le.refl _), rfl, rfl⟩
 refine Z 2 rfl ?_
 refine o_sbin (v := .bool (decide (a0 = (bstr [])))) rfl rfl rfl rfl (ev_str z_str0) rfl ?_
 refine o_mif rfl rfl rfl rfl h (fun h => ?_) (fun h => ?_)
 ·refine Z 4 rfl ?_
  exact hk1 _ _ _ ⟨true, h, (Sto.Le.refl _), rfl, rfl⟩
 ·refine o_move rfl rfl rfl rfl ?_
  refine o_sbin (v := .bool (decide (a1 = (bstr [])))) rfl rfl rfl rfl (ev_str z_str0) rfl ?_
  refine Z 2 rfl ?_
  exact hk1 _ _ _ ⟨(decide (a1 = (bstr []))), h, (Sto.Le.refl _), rfl, rfl⟩
theorem say_Read_ok {a0 : ByteArray} {r : Int × Int} (h : say_Read a0 r) (σ : Sto) (hE : Errs Tryz.prog σ) :
    Does Tryz.prog 66 [.string a0] σ [] (fun v τ gs => gs = [] ∧ .tuple [.int .i64 r.1, .int .i64 r.2].toArray = v) := by
 refine call_of Tryz.func66 Tryz.ntmps66 rfl rfl (fun cs fs => ?_)
 refine Z 8 rfl ?_
 obtain ⟨r1, hr2, h⟩ := h
 refine st_call (foot := []) rfl rfl rfl rfl rfl rfl (callV_fn z_en106 (strconv_ParseInt_ok hr2 σ hE)) ?_
 rintro vτ3 τ3 gsτ3 hl4 ⟨v5, rfl, rfl, hi6⟩
 refine Z 9 rfl ?_
 obtain ⟨r7, hr8, h⟩ := h
 refine st_call (foot := []) rfl rfl rfl rfl (evs_cons rfl (evs_cons (ev_str z_str7) rfl)) rfl (callV_fn z_en107 (strings_TrimPrefix_ok hr8 τ3)) ?_
 rintro vτ9 τ9 gsτ9 hl10 ⟨rfl, rfl⟩
 refine Z 5 rfl ?_
 refine st_cut (fun ρ τ11 gs => ∃ (s11 : Bool), say_Read_j1 r1 s11 r ∧ τ9.Le τ11 ∧ ESub ρ [(2, .int .i64 0), (3, .int .i64 0), (4, .int .i64 r1.1), (5, v5), (14, .bool s11)] ∧ gs = []) ?_ (fun hk11 => ?_)
 ·rintro ρ11 τ11 gs11 ⟨s11, h, hl11, hρ, rfl⟩
  refine st_es hρ ?_
  refine st_if rfl h (fun h => ?_) (fun h => ?_)
  ·refine Z 5 rfl ?_
   obtain rfl := Eq.symm h
   exact st_ret (gs' := []) Tryz.func66 rfl (List.Sublist.refl _) ((hl4.trans hl10).trans hl11) ⟨rfl, rfl⟩
  ·refine Z 3 rfl ?_
   refine o_ifNil rfl rfl rfl Tryz.underlying195 rfl (hi6.up (hl10.trans hl11)) rfl ?_
   refine Z 2 rfl ?_
   refine st_if rfl h (fun h => ?_) (fun h => ?_)
   ·refine Z 5 rfl ?_
    obtain rfl := Eq.symm h
    exact st_ret (gs' := []) Tryz.func66 rfl (List.Sublist.refl _) ((hl4.trans hl10).trans hl11) ⟨rfl, rfl⟩
   ·refine Z 8 rfl ?_
    obtain rfl := Eq.symm h
    exact st_ret (gs' := []) Tryz.func66 rfl (List.Sublist.refl _) ((hl4.trans hl10).trans hl11) ⟨rfl, rfl⟩
 refine Z 2 rfl ?_
 refine o_sbin (v := .bool (decide (r7 = (bstr [])))) rfl rfl rfl rfl (ev_str z_str0) rfl ?_
 refine o_mif rfl rfl rfl rfl h (fun h => ?_) (fun h => ?_)
 ·refine Z 15 rfl ?_
  exact hk11 _ _ _ ⟨true, h, (Sto.Le.refl _), rfl, rfl⟩
 ·refine o_move rfl rfl rfl rfl ?_
  obtain ⟨r12, hr13, h⟩ := h
  refine st_call (foot := []) rfl rfl rfl rfl (evs_cons rfl (evs_cons (ev_str z_str9) rfl)) rfl (callV_fn z_en108 (strings_Trim_ok hr13 τ9)) ?_
  rintro vτ14 τ14 gsτ14 hl15 ⟨rfl, rfl⟩
  refine o_sbin (v := .bool (!(decide (r12 = (bstr []))))) rfl rfl rfl rfl (ev_str z_str0) rfl ?_
  refine o_pick rfl rfl rfl rfl rfl ?_
  refine o_mif rfl rfl rfl rfl h (fun h => ?_) (fun h => ?_)
  ·refine Z 10 rfl ?_
   exact hk11 _ _ _ ⟨true, h, hl15, rfl, rfl⟩
  ·refine o_move rfl rfl rfl rfl ?_
   obtain ⟨q16, hf17, h⟩ := h
   refine o_indexS rfl rfl rfl Tryz.underlying9 rfl rfl hf17 ?_
   refine o_ibin (v := .bool (decide (q16 = 48))) rfl rfl rfl rfl rfl rfl ?_
   refine o_mif rfl rfl rfl rfl h (fun h => ?_) (fun h => ?_)
   ·refine o_move rfl rfl rfl rfl ?_
    refine o_sbin (v := .bool (!(decide (a0 = (bstr [48]))))) rfl rfl rfl rfl (ev_str z_str10) rfl ?_
    refine Z 4 rfl ?_
    exact hk11 _ _ _ ⟨(!(decide (a0 = (bstr [48])))), h, hl15, rfl, rfl⟩
   ·refine Z 6 rfl ?_
    exact hk11 _ _ _ ⟨false, h, hl15, rfl, rfl⟩
theorem noise_Parse_ok {a0 : ByteArray} {r : (Int × Int × Int × Int × List Int) × Int} (h : noise_Parse a0 r) (σ : Sto) (hE : Errs Tryz.prog σ) :
    Does Tryz.prog 32 [.string a0] σ [] (fun v τ gs => ∃ (v77 : Value), gs = [] ∧ .tuple [.agg [.int .i64 r.1.1, .int .i64 r.1.2.1, .int .i64 r.1.2.2.1, .int .i64 r.1.2.2.2.1, v77].toArray, .int .i64 r.2].toArray = v ∧ Sl (kI .u8) τ v77 r.1.2.2.2.2) := by
 refine call_of Tryz.func32 Tryz.ntmps32 rfl rfl (fun cs fs => ?_)
 refine Z 2 rfl ?_
 refine o_alloc rfl rfl rfl z_zero67 (fun b1 => ?_)
 refine Z 5 rfl ?_
 refine o_alloc rfl rfl rfl z_zero106 (fun b2 => ?_)
 refine Z 5 rfl ?_
 obtain ⟨r3, hr4, h⟩ := h
 refine st_call (foot := []) rfl rfl rfl rfl rfl rfl (callV_fn z_en41 (say_Words_ok hr4 σ)) ?_
 rintro vτ5 τ5 gsτ5 hl6 ⟨f7, q8, rfl, rfl, hit9⟩
 refine Z 2 rfl ?_
 obtain ⟨t10, w10, hR10, hA10⟩ := h
 refine st_env (ρ' := [(2, .pointer (some ⟨b1, 0, none⟩)), (3, .int .i64 0), (4, .pointer (some ⟨b2, 0, none⟩)), (16, .func (.func f7) #[] q8)]) ⟨rfl, rfl, rfl, rfl, trivial⟩ ?_
 refine st_addNil ?_
 refine st_ord [2, 1, 0] _ rfl ?_
 refine st_addNil ?_
 refine st_range (B := noise_Parse_l1) (s0 := []) ranges_fctx rfl hit9 (Sto.Le.refl _) hR10 rfl (fun _ _ _ h => by cases h; rfl) (fun (s10 : List ByteArray) τ10 gs => τ5.Le τ10 ∧ ∃ (v11 : Value) (g12 : Grp), gs = [[(b1, .cells #[.int .i64 0, .int .i64 0, .int .i64 0, .int .i64 0, .slice none 0 0] 67 (0, 0))], [(b2, .cells #[v11] 106 (0, 0))], g12] ∧ Ow kS 9 τ10 v11 s10 g12) (fun _ _ _ _ => False) (fun _ _ _ _ hl ⟨hb, v11, g12, hg, ho13⟩ => ⟨hb.trans hl, v11, g12, hg, ho13.up hl⟩) (fun _ _ _ _ _ _ h => h.elim) ⟨Sto.Le.refl _, _, _, rfl, Ow.nil⟩ ?_ ?_ ?_
 ·rintro x10 s10 o10 τ10 gs10 vx10 hl10 h rfl ⟨hb10, v11, g12, rfl, ho13⟩ l10 rc10 caller10 cs10 fs10
  refine Z 3 rfl ?_
  refine st_begin ?_
  refine ZZ 4 [1] rfl rfl ?_
  refine o_litE eS [x10.2] rfl rfl rfl z_slT106 z_zero9 ⟨rfl, ⟨_, rfl, rfl⟩, trivial⟩ rfl rfl rfl rfl (fun v14 g15 ho16 => ?_)
  obtain ⟨hf20, hf21, h⟩ := h
  refine st_ord [3, 0, 0, 0] _ rfl ?_
  refine o_append (dk := kS) (xs := s10) (ys := [x10.2]) rfl rfl rfl rfl z_slT106 rfl ho13 rfl (Ow.src (j := 1) ho16 rfl) hf20 hf21 (fun v17 g18 ho19 => ?_)
  refine o_store (j := 3) (vs := [v17]) (cs' := [v17]) rfl rfl rfl z_size106 rfl rfl (oneL_ow ho19) (ones_cons ho19.one' ones_nil) rfl rfl rfl ?_
  refine st_gs [g18, g15, [(b1, .cells #[.int .i64 0, .int .i64 0, .int .i64 0, .int .i64 0, .slice none 0 0] 67 (0, 0))], [(b2, .cells #[v17] 106 (0, 0))]] rfl ?_
  refine Z 2 rfl ?_
  refine st_ord [2, 2, 0] _ rfl ?_
  exact st_rend (List.Sublist.refl _) (Sto.Le.refl _) ⟨_, h, hl10, _, _, rfl, ho19⟩
 ·rintro p22 τ23 gs10 f10 ht hl24 ⟨hb, v25, g26, rfl, ho27⟩ rfl
  subst ht
  replace h := hA10
  refine st_ord [1, 1, 1] _ rfl ?_
  refine Z 3 rfl ?_
  refine o_alloc rfl rfl rfl z_zero67 (fun b28 => ?_)
  refine Z 6 rfl ?_
  refine st_cut (fun ρ τ29 gs => ∃ (s29 : Int × Int), noise_Parse_j2 p22 s29 r ∧ τ23.Le τ29 ∧ ESub ρ [(2, .pointer (some ⟨b1, 0, none⟩)), (3, .int .i64 0), (4, .pointer (some ⟨b2, 0, none⟩)), (7, .pointer (some ⟨b28, 0, none⟩)), (8, .int .i64 s29.1)] ∧ gs = [[(b1, .cells #[.int .i64 0, .int .i64 0, .int .i64 0, .int .i64 0, .slice none 0 0] 67 (0, 0))], [(b2, .cells #[v25] 106 (0, 0))], [(b28, .cells #[.int .i64 s29.2, .int .i64 0, .int .i64 0, .int .i64 0, .slice none 0 0] 67 (0, 0))], g26]) ?_ (fun hk29 => ?_)
  ·rintro ρ29 τ29 gs29 ⟨s29, h, hl29, hρ, rfl⟩
   refine st_es hρ ?_
   refine Z 5 rfl ?_
   refine st_cut (fun ρ τ30 gs => ∃ (s30 : Int × List Int) (v31 : Value), noise_Parse_j3 p22 s29 s30 r ∧ τ29.Le τ30 ∧ ESub ρ [(2, .pointer (some ⟨b1, 0, none⟩)), (3, .int .i64 0), (4, .pointer (some ⟨b2, 0, none⟩)), (7, .pointer (some ⟨b28, 0, none⟩)), (8, .int .i64 s29.1), (12, .int .i64 s30.1)] ∧ gs = [[(b1, .cells #[.int .i64 0, .int .i64 0, .int .i64 0, .int .i64 0, .slice none 0 0] 67 (0, 0))], [(b2, .cells #[v25] 106 (0, 0))], [(b28, .cells #[.int .i64 s29.2, .int .i64 0, .int .i64 0, .int .i64 0, v31] 67 (0, 0))], g26] ∧ Sl (kI .u8) τ30 v31 s30.2) ?_ (fun hk30 => ?_)
   ·rintro ρ30 τ30 gs30 ⟨s30, v31, h, hl30, hρ, rfl, hs32⟩
    refine st_es hρ ?_
    refine Z 6 rfl ?_
    refine st_if rfl h (fun h => ?_) (fun h => ?_)
    ·refine ZZ 7 [0] rfl rfl ?_
     obtain rfl := Eq.symm h
     exact st_retC (gs' := []) [.agg #[.int .i64 0, .int .i64 0, .int .i64 0, .int .i64 0, .slice none 0 0], .int .i64 s30.1] Tryz.func32 ⟨⟨_, _, _, _, rfl, mem_flat 0 rfl, fun w hw => cellOfN (vs := [.int .i64 0, .int .i64 0, .int .i64 0, .int .i64 0, .slice none 0 0]) z_agg67 rfl w hw⟩, rfl, trivial⟩ (by simp) (((hl6.trans hl24).trans hl29).trans hl30) ⟨_, rfl, rfl, Sl.nil⟩
    ·refine Z 4 rfl ?_
     refine st_cut (fun ρ τ33 gs => ∃ (s33 : Int × Int × Int), noise_Parse_j4 s29 s30 s33 r ∧ τ30.Le τ33 ∧ ESub ρ [(2, .pointer (some ⟨b1, 0, none⟩)), (3, .int .i64 0), (7, .pointer (some ⟨b28, 0, none⟩))] ∧ gs = [[(b1, .cells #[.int .i64 0, .int .i64 0, .int .i64 0, .int .i64 0, .slice none 0 0] 67 (0, 0))], [(b28, .cells #[.int .i64 s29.2, .int .i64 s33.1, .int .i64 s33.2.1, .int .i64 s33.2.2, v31] 67 (0, 0))]]) ?_ (fun hk33 => ?_)
     ·rintro ρ33 τ33 gs33 ⟨s33, h, hl33, hρ, rfl⟩
      refine st_es hρ ?_
      refine ZZ 3 [1] rfl rfl ?_
      refine o_store (j := 0) (vs := [.int .i64 s29.2, .int .i64 s33.1, .int .i64 s33.2.1, .int .i64 s33.2.2, v31]) (cs' := [.int .i64 s29.2, .int .i64 s33.1, .int .i64 s33.2.1, .int .i64 s33.2.2, v31]) rfl rfl rfl z_size67 rfl rfl rfl (ones_cons rfl (ones_cons rfl (ones_cons rfl (ones_cons rfl (ones_cons (hs32.up hl33).one' ones_nil))))) rfl rfl rfl ?_
      refine st_gs [[(b1, .cells #[.int .i64 s29.2, .int .i64 s33.1, .int .i64 s33.2.1, .int .i64 s33.2.2, v31] 67 (0, 0))], [(b28, .cells #[.int .i64 s29.2, .int .i64 s33.1, .int .i64 s33.2.1, .int .i64 s33.2.2, v31] 67 (0, 0))]] rfl ?_
      refine Z 2 rfl ?_
      obtain rfl := Eq.symm h
      exact st_retC (gs' := []) [.agg #[.int .i64 s29.2, .int .i64 s33.1, .int .i64 s33.2.1, .int .i64 s33.2.2, v31], .int .i64 0] Tryz.func32 ⟨⟨_, _, _, _, rfl, mem_flat 0 rfl, fun w hw => cellOfN (vs := [.int .i64 s29.2, .int .i64 s33.1, .int .i64 s33.2.1, .int .i64 s33.2.2, v31]) z_agg67 rfl w hw⟩, rfl, trivial⟩ (by simp) ((((hl6.trans hl24).trans hl29).trans hl30).trans hl33) ⟨_, rfl, rfl, (hs32.up hl33)⟩
     refine Z 5 rfl ?_
     refine o_buildA (ps := [(0, [.pointer (some ⟨b28, 1, none⟩)]), (1, [.pointer (some ⟨b28, 2, none⟩)]), (2, [.pointer (some ⟨b28, 3, none⟩)])]) (cs := [.pointer (some ⟨b28, 1, none⟩), .pointer (some ⟨b28, 2, none⟩), .pointer (some ⟨b28, 3, none⟩)]) rfl rfl rfl z_arrz144 ⟨rfl, ⟨_, rfl, rfl⟩, ⟨rfl, ⟨_, rfl, rfl⟩, ⟨rfl, ⟨_, rfl, rfl⟩, trivial⟩⟩⟩ (fill_all [.pointer (some ⟨b28, 1, none⟩), .pointer (some ⟨b28, 2, none⟩), .pointer (some ⟨b28, 3, none⟩)] _ rfl) ?_
     refine Z 2 rfl ?_
     obtain ⟨e34, hL34, hA34⟩ := h
     refine st_loop hL34 (fun (s34 : Int × Int × Int × Int) ρ τ34 gs => τ30.Le τ34 ∧ ESub ρ [(2, .pointer (some ⟨b1, 0, none⟩)), (3, .int .i64 0), (4, .pointer (some ⟨b2, 0, none⟩)), (7, .pointer (some ⟨b28, 0, none⟩)), (8, .int .i64 s29.1), (69, .agg #[.pointer (some ⟨b28, 1, none⟩), .pointer (some ⟨b28, 2, none⟩), .pointer (some ⟨b28, 3, none⟩)]), (70, .int .i64 s34.1)] ∧ gs = [[(b1, .cells #[.int .i64 0, .int .i64 0, .int .i64 0, .int .i64 0, .slice none 0 0] 67 (0, 0))], [(b2, .cells #[v25] 106 (0, 0))], [(b28, .cells #[.int .i64 s29.2, .int .i64 s34.2.1, .int .i64 s34.2.2.1, .int .i64 s34.2.2.2, v31] 67 (0, 0))], g26]) ⟨Sto.Le.refl _, rfl, rfl⟩ ?_
     rintro s34 o34 h he34 ρ34 τ34 gs34 ⟨hl34, hρ, rfl⟩ hn34
     refine st_es hρ ?_
     refine Z 5 rfl ?_
     refine st_if rfl h (fun h => ?_) (fun h => ?_)
     ·refine Z 6 rfl ?_
      obtain ⟨hf35, hf36, h⟩ := h
      refine o_indexP (b := b28) (o := 1) (l := 3) (cs := [.pointer (some ⟨b28, 1, none⟩), .pointer (some ⟨b28, 2, none⟩), .pointer (some ⟨b28, 3, none⟩)]) rfl rfl rfl z_arr144 z_sc143 rfl rfl rfl hf35 hf36 ?_
      refine Z 10 rfl ?_
      refine st_if rfl h (fun h => ?_) (fun h => ?_)
      ·refine st_exit rfl ?_
       obtain rfl := he34 _ h
       replace h := hA34
       refine st_ord [0, 1] _ rfl ?_
       exact hk33 _ _ _ ⟨(s34.2.1, s34.2.2.1, s34.2.2.2), h, hl34, rfl, rfl⟩
      ·refine ZZ 7 [1] rfl rfl ?_
       obtain ⟨q37, hf38, h⟩ := h
       refine o_indexOw rfl rfl rfl z_slT106 rfl rfl (ho27.up ((hl29.trans hl30).trans hl34)) rfl hf38 (fun b39 hb40 => ?_)
       obtain ⟨vs41, hrep42, hat43⟩ := Ow.at (ho27.up ((hl29.trans hl30).trans hl34)) hb40 hf38
       obtain rfl := hrep42
       refine o_loadOw (off := 0) (j := 3) (v := .string q37) rfl rfl rfl z_sc9 rfl hat43 rfl rfl ?_
       obtain ⟨r44, hr45, h⟩ := h
       refine st_call (foot := []) rfl rfl rfl rfl rfl rfl (callV_fn z_en66 (say_Read_ok hr45 τ34 (hE.up ((((hl6.trans hl24).trans hl29).trans hl30).trans hl34)))) ?_
       rintro vτ46 τ46 gsτ46 hl47 ⟨rfl, rfl⟩
       refine Z 4 rfl ?_
       refine o_storeV (j := 2) (s34.1.toNat) (f := (Value.int .i64)) (zz := 0) (a := r44.1) (l := 3) (xs := [s34.2.1, s34.2.2.1, s34.2.2.2]) [.int .i64 s29.2] [v31] rfl rfl rfl z_size3 rfl rfl rfl rfl rfl (by simp only [List.length_cons, List.length_nil] <;> omega) (by omega) ?_
       refine st_gs [[(b1, .cells #[.int .i64 0, .int .i64 0, .int .i64 0, .int .i64 0, .slice none 0 0] 67 (0, 0))], [(b2, .cells #[v25] 106 (0, 0))], [(b28, .cells #[.int .i64 s29.2, .int .i64 ((putN 3 0 [s34.2.1, s34.2.2.1, s34.2.2.2] s34.1.toNat r44.1).getD 0 0), .int .i64 ((putN 3 0 [s34.2.1, s34.2.2.1, s34.2.2.2] s34.1.toNat r44.1).getD 1 0), .int .i64 ((putN 3 0 [s34.2.1, s34.2.2.1, s34.2.2.2] s34.1.toNat r44.1).getD 2 0), v31] 67 (0, 0))], g26] rfl ?_
       refine Z 7 rfl ?_
       refine st_if rfl h (fun h => ?_) (fun h => ?_)
       ·refine ZZ 7 [0] rfl rfl ?_
        obtain rfl := he34 _ h
        replace h := hA34
        obtain rfl := Eq.symm h
        exact st_retC (gs' := []) [.agg #[.int .i64 0, .int .i64 0, .int .i64 0, .int .i64 0, .slice none 0 0], .int .i64 r44.2] Tryz.func32 ⟨⟨_, _, _, _, rfl, mem_flat 0 rfl, fun w hw => cellOfN (vs := [.int .i64 0, .int .i64 0, .int .i64 0, .int .i64 0, .slice none 0 0]) z_agg67 rfl w hw⟩, rfl, trivial⟩ (by simp) (((((hl6.trans hl24).trans hl29).trans hl30).trans hl34).trans hl47) ⟨_, rfl, rfl, Sl.nil⟩
       ·refine Z 6 rfl ?_
        exact hn34 _ _ _ _ h ⟨(hl34.trans hl47), rfl, rfl⟩
     ·refine st_exit rfl ?_
      obtain rfl := he34 _ h
      replace h := hA34
      refine st_ord [0, 1] _ rfl ?_
      exact hk33 _ _ _ ⟨(s34.2.1, s34.2.2.1, s34.2.2.2), h, hl34, rfl, rfl⟩
   refine ZZ 8 [2] rfl rfl ?_
   refine st_if rfl h (fun h => ?_) (fun h => ?_)
   ·refine Z 4 rfl ?_
    exact hk30 _ _ _ ⟨(9, []), _, h, (Sto.Le.refl _), rfl, rfl, Sl.nil⟩
   ·refine ZZ 3 [1] rfl rfl ?_
    refine o_lenO rfl rfl rfl z_slT106 rfl (ho27.up hl29) ?_
    refine Z 6 rfl ?_
    refine st_if rfl h (fun h => ?_) (fun h => ?_)
    ·refine Z 4 rfl ?_
     exact hk30 _ _ _ ⟨(3, []), _, h, (Sto.Le.refl _), rfl, rfl, Sl.nil⟩
    ·refine Z 6 rfl ?_
     refine st_if rfl h (fun h => ?_) (fun h => ?_)
     ·refine ZZ 2 [1] rfl rfl ?_
      obtain ⟨q50, hf51, h⟩ := h
      refine o_indexOw rfl rfl rfl z_slT106 rfl rfl (ho27.up hl29) rfl hf51 (fun b52 hb53 => ?_)
      obtain ⟨vs54, hrep55, hat56⟩ := Ow.at (ho27.up hl29) hb53 hf51
      obtain rfl := hrep55
      refine o_loadOw (off := 0) (j := 3) (v := .string q50) rfl rfl rfl z_sc9 rfl hat56 rfl rfl ?_
      obtain ⟨r57, hr58, h⟩ := h
      refine st_call (foot := []) rfl rfl rfl rfl rfl rfl (callV_fn z_en65 (noise_unhex_ok hr58 τ29)) ?_
      rintro vτ59 τ59 gsτ59 hl60 ⟨v61, rfl, rfl, hs62⟩
      refine Z 4 rfl ?_
      refine o_store (j := 2) (vs := [v61]) (cs' := [.int .i64 s29.2, .int .i64 0, .int .i64 0, .int .i64 0, v61]) rfl rfl rfl z_size23 rfl rfl (oneL_sl hs62) (ones_cons hs62.one' ones_nil) rfl rfl rfl ?_
      refine st_gs [[(b1, .cells #[.int .i64 0, .int .i64 0, .int .i64 0, .int .i64 0, .slice none 0 0] 67 (0, 0))], [(b2, .cells #[v25] 106 (0, 0))], [(b28, .cells #[.int .i64 s29.2, .int .i64 0, .int .i64 0, .int .i64 0, v61] 67 (0, 0))], g26] rfl ?_
      refine Z 3 rfl ?_
      exact hk30 _ _ _ ⟨(r57.2, r57.1), _, h, hl60, rfl, rfl, hs62⟩
     ·refine Z 2 rfl ?_
      exact hk30 _ _ _ ⟨(0, []), _, h, (Sto.Le.refl _), rfl, rfl, Sl.nil⟩
  refine Z 4 rfl ?_
  obtain ⟨e63, hL63, hA63⟩ := h
  refine st_ord [1, 1, 0, 0] _ rfl ?_
  refine st_loop hL63 (fun (s63 : Int × Int × Int) ρ τ63 gs => τ23.Le τ63 ∧ ESub ρ [(2, .pointer (some ⟨b1, 0, none⟩)), (3, .int .i64 0), (4, .pointer (some ⟨b2, 0, none⟩)), (7, .pointer (some ⟨b28, 0, none⟩)), (8, .int .i64 s63.1), (9, .int .i64 s63.2.1)] ∧ gs = [[(b1, .cells #[.int .i64 0, .int .i64 0, .int .i64 0, .int .i64 0, .slice none 0 0] 67 (0, 0))], [(b2, .cells #[v25] 106 (0, 0))], [(b28, .cells #[.int .i64 s63.2.2, .int .i64 0, .int .i64 0, .int .i64 0, .slice none 0 0] 67 (0, 0))], g26]) ⟨Sto.Le.refl _, rfl, rfl⟩ ?_
  rintro s63 o63 h he63 ρ63 τ63 gs63 ⟨hl63, hρ, rfl⟩ hn63
  refine st_es hρ ?_
  refine Z 6 rfl ?_
  refine st_if rfl h (fun h => ?_) (fun h => ?_)
  ·refine Z 2 rfl ?_
   refine st_cut (fun ρ τ64 gs => ∃ (s64 : Int × Int), noise_Parse_j7 s63 s64 o63 ∧ τ63.Le τ64 ∧ ESub ρ [(2, .pointer (some ⟨b1, 0, none⟩)), (3, .int .i64 0), (4, .pointer (some ⟨b2, 0, none⟩)), (7, .pointer (some ⟨b28, 0, none⟩)), (8, .int .i64 s64.1), (9, .int .i64 s63.2.1)] ∧ gs = [[(b1, .cells #[.int .i64 0, .int .i64 0, .int .i64 0, .int .i64 0, .slice none 0 0] 67 (0, 0))], [(b2, .cells #[v25] 106 (0, 0))], [(b28, .cells #[.int .i64 s64.2, .int .i64 0, .int .i64 0, .int .i64 0, .slice none 0 0] 67 (0, 0))], g26]) ?_ (fun hk64 => ?_)
   ·rintro ρ64 τ64 gs64 ⟨s64, h, hl64, hρ, rfl⟩
    refine st_es hρ ?_
    refine Z 5 rfl ?_
    exact hn63 _ _ _ _ h ⟨(hl63.trans hl64), rfl, rfl⟩
   refine Z 4 rfl ?_
   obtain ⟨r65, hr66, h⟩ := h
   refine st_call (foot := []) rfl rfl rfl rfl rfl rfl (callV_fn z_en64 (noise_word_ok hr66 τ63)) ?_
   rintro vτ67 τ67 gsτ67 hl68 ⟨rfl, rfl⟩
   refine ZZ 10 [1] rfl rfl ?_
   obtain ⟨q69, hf70, h⟩ := h
   refine o_indexOw rfl rfl rfl z_slT106 rfl rfl (ho27.up (hl63.trans hl68)) rfl hf70 (fun b71 hb72 => ?_)
   obtain ⟨vs73, hrep74, hat75⟩ := Ow.at (ho27.up (hl63.trans hl68)) hb72 hf70
   obtain rfl := hrep74
   refine o_loadOw (off := 0) (j := 3) (v := .string q69) rfl rfl rfl z_sc9 rfl hat75 rfl rfl ?_
   refine Z 2 rfl ?_
   refine st_if rfl h (fun h => ?_) (fun h => ?_)
   ·refine ZZ 8 [2] rfl rfl ?_
    exact hk64 _ _ _ ⟨(r65.2, s63.2.1), h, hl68, rfl, rfl⟩
   ·refine Z 2 rfl ?_
    exact hk64 _ _ _ ⟨(s63.1, s63.2.2), h, hl68, rfl, rfl⟩
  ·refine st_exit rfl ?_
   obtain rfl := he63 _ h
   replace h := hA63
   exact hk29 _ _ _ ⟨(s63.1, s63.2.2), h, hl63, rfl, rfl⟩
 ·exact fun _ _ _ _ _ _ _ h => h.elim
theorem law26_known_ok  {r : Bool} (h : law26_known r) (σ : Sto) (hE : Errs Tryz.prog σ) :
    Does Tryz.prog 11 [] σ [] (fun v τ gs => gs = [] ∧ .bool r = v) := by
 refine call_of Tryz.func11 Tryz.ntmps11 rfl rfl (fun cs fs => ?_)
 refine Z 6 rfl ?_
 refine o_litE (eI .u8) [1, 2, 3] rfl rfl rfl z_slT23 z_zero5 ⟨rfl, ⟨_, rfl, rfl⟩, ⟨rfl, ⟨_, rfl, rfl⟩, ⟨rfl, ⟨_, rfl, rfl⟩, trivial⟩⟩⟩ rfl rfl rfl rfl (fun v1 g2 ho3 => ?_)
 refine st_freeze (fun τ4 hl5 hg6 => ?_)
 have hs7 := ho3.freeze hl5 hg6
 refine o_lit (dk := (kSl (kI .u8))) (xs := [[1, 2, 3]]) (ps := [(0, [v1])]) (cs := [v1]) rfl rfl rfl z_slT22 z_zero23 ⟨rfl, ⟨_, rfl, (oneL_sl hs7)⟩, trivial⟩ rfl rfl rfl rfl (Kd.Many.cons (d := (kSl (kI .u8))) (x := [1, 2, 3]) (a := [v1]) ⟨_, rfl, hs7⟩ Kd.Many.nil) (fun v8 g9 ho10 => ?_)
 refine ZZ 7 [] rfl rfl ?_
 refine o_lit (dk := (kP (kI .i64) (kP (kI .i64) (kP (kI .i64) (kP (kI .i64) (kSl (kI .u8))))))) (xs := [(2, 0, 1, 5, []), (3, 0, 2, 255, [])]) (ps := [(0, [.int .i64 2, .int .i64 0, .int .i64 1, .int .i64 5, .slice none 0 0]), (1, [.int .i64 3, .int .i64 0, .int .i64 2, .int .i64 255, .slice none 0 0])]) (cs := [.int .i64 2, .int .i64 0, .int .i64 1, .int .i64 5, .slice none 0 0, .int .i64 3, .int .i64 0, .int .i64 2, .int .i64 255, .slice none 0 0]) rfl rfl rfl z_slT64 z_zero67 ⟨rfl, ⟨_, rfl, rfl⟩, ⟨rfl, ⟨_, rfl, rfl⟩, trivial⟩⟩ rfl rfl rfl rfl (Kd.Many.cons (d := (kP (kI .i64) (kP (kI .i64) (kP (kI .i64) (kP (kI .i64) (kSl (kI .u8))))))) (x := (2, 0, 1, 5, [])) (a := [.int .i64 2, .int .i64 0, .int .i64 1, .int .i64 5, .slice none 0 0]) ⟨[.int .i64 2], _, rfl, rfl, ⟨[.int .i64 0], _, rfl, rfl, ⟨[.int .i64 1], _, rfl, rfl, ⟨[.int .i64 5], _, rfl, rfl, ⟨_, rfl, Sl.nil⟩⟩⟩⟩⟩ (Kd.Many.cons (d := (kP (kI .i64) (kP (kI .i64) (kP (kI .i64) (kP (kI .i64) (kSl (kI .u8))))))) (x := (3, 0, 2, 255, [])) (a := [.int .i64 3, .int .i64 0, .int .i64 2, .int .i64 255, .slice none 0 0]) ⟨[.int .i64 3], _, rfl, rfl, ⟨[.int .i64 0], _, rfl, rfl, ⟨[.int .i64 2], _, rfl, rfl, ⟨[.int .i64 255], _, rfl, rfl, ⟨_, rfl, Sl.nil⟩⟩⟩⟩⟩ Kd.Many.nil)) (fun v11 g12 ho13 => ?_)
 obtain ⟨r24, hr25, h⟩ := h
 refine st_ord [1, 0] _ rfl ?_
 refine st_freeze (fun τ14 hl15 hg16 => ?_)
 have hs17 := ho10.freeze hl15 hg16
 refine st_freeze (fun τ20 hl21 hg22 => ?_)
 have hs23 := ho13.freeze (hl15.trans hl21) hg22
 refine st_call (foot := []) rfl rfl rfl rfl rfl rfl (callV_fn z_en24 (noise_Run_ok hr25 τ20 (hs17.up hl21) hs23)) ?_
 rintro vτ26 τ26 gsτ26 hl27 ⟨v28, rfl, rfl, hs29⟩
 refine Z 4 rfl ?_
 obtain ⟨r30, hr31, h⟩ := h
 refine st_call (foot := []) rfl rfl rfl rfl (evs_cons (ev_str z_str5) rfl) rfl (callV_fn z_en32 (noise_Parse_ok hr31 τ26 (hE.up (((hl5.trans hl15).trans hl21).trans hl27)))) ?_
 rintro vτ32 τ32 gsτ32 hl33 ⟨v34, rfl, rfl, hs35⟩
 refine Z 3 rfl ?_
 refine o_alloc rfl rfl rfl z_zero67 (fun b36 => ?_)
 refine o_store (j := 0) (vs := [.int .i64 r30.1.1, .int .i64 r30.1.2.1, .int .i64 r30.1.2.2.1, .int .i64 r30.1.2.2.2.1, v34]) (cs' := [.int .i64 r30.1.1, .int .i64 r30.1.2.1, .int .i64 r30.1.2.2.1, .int .i64 r30.1.2.2.2.1, v34]) rfl rfl rfl z_size67 rfl rfl rfl (ones_cons rfl (ones_cons rfl (ones_cons rfl (ones_cons rfl (ones_cons hs35.one' ones_nil))))) rfl rfl rfl ?_
 refine st_gs [[(b36, .cells #[.int .i64 r30.1.1, .int .i64 r30.1.2.1, .int .i64 r30.1.2.2.1, .int .i64 r30.1.2.2.2.1, v34] 67 (0, 0))]] rfl ?_
 refine Z 3 rfl ?_
 refine st_cut (fun ρ τ37 gs => ∃ (s37 : Bool), law26_known_j1 s37 r ∧ τ32.Le τ37 ∧ ESub ρ [(0, .bool s37)] ∧ gs = []) ?_ (fun hk37 => ?_)
 ·rintro ρ37 τ37 gs37 ⟨s37, h, hl37, hρ, rfl⟩
  refine st_es hρ ?_
  obtain rfl := Eq.symm h
  exact st_ret (gs' := []) Tryz.func11 rfl (List.Sublist.refl _) (((((hl5.trans hl15).trans hl21).trans hl27).trans hl33).trans hl37) ⟨rfl, rfl⟩
 refine Z 2 rfl ?_
 refine o_litE (eI .u8) [2, 3, 1, 2, 252] rfl rfl rfl z_slT23 z_zero5 ⟨rfl, ⟨_, rfl, rfl⟩, ⟨rfl, ⟨_, rfl, rfl⟩, ⟨rfl, ⟨_, rfl, rfl⟩, ⟨rfl, ⟨_, rfl, rfl⟩, ⟨rfl, ⟨_, rfl, rfl⟩, trivial⟩⟩⟩⟩⟩ rfl rfl rfl rfl (fun v38 g39 ho40 => ?_)
 obtain ⟨r45, hr46, h⟩ := h
 refine st_freeze (fun τ41 hl42 hg43 => ?_)
 have hs44 := ho40.freeze hl42 hg43
 refine st_call (foot := []) rfl rfl rfl rfl rfl rfl (callV_fn z_en28 (ref01_Same_ok hr46 τ41 (hs29.up (hl33.trans hl42)) hs44)) ?_
 rintro vτ47 τ47 gsτ47 hl48 ⟨rfl, rfl⟩
 refine o_mif rfl rfl rfl rfl h (fun h => ?_) (fun h => ?_)
 ·refine Z 3 rfl ?_
  refine o_mif rfl rfl rfl rfl h (fun h => ?_) (fun h => ?_)
  ·refine ZZ 4 [0] rfl rfl ?_
   refine o_mif rfl rfl rfl rfl h (fun h => ?_) (fun h => ?_)
   ·refine ZZ 2 [0] rfl rfl ?_
    refine o_litE (eI .u8) [0, 9] rfl rfl rfl z_slT23 z_zero5 ⟨rfl, ⟨_, rfl, rfl⟩, ⟨rfl, ⟨_, rfl, rfl⟩, trivial⟩⟩ rfl rfl rfl rfl (fun v49 g50 ho51 => ?_)
    obtain ⟨r56, hr57, h⟩ := h
    refine st_freeze (fun τ52 hl53 hg54 => ?_)
    have hs55 := ho51.freeze hl53 hg54
    refine st_call (foot := []) rfl rfl rfl rfl rfl rfl (callV_fn z_en28 (ref01_Same_ok hr57 τ52 (hs35.up ((hl42.trans hl48).trans hl53)) hs55)) ?_
    rintro vτ58 τ58 gsτ58 hl59 ⟨rfl, rfl⟩
    refine Z 3 rfl ?_
    refine st_ord [] _ rfl ?_
    exact hk37 _ _ _ ⟨r56, h, (((hl42.trans hl48).trans hl53).trans hl59), rfl, rfl⟩
   ·refine Z 7 rfl ?_
    refine st_ord [] _ rfl ?_
    exact hk37 _ _ _ ⟨false, h, (hl42.trans hl48), rfl, rfl⟩
  ·refine Z 12 rfl ?_
   refine st_ord [] _ rfl ?_
   exact hk37 _ _ _ ⟨false, h, (hl42.trans hl48), rfl, rfl⟩
 ·refine Z 16 rfl ?_
  refine st_ord [] _ rfl ?_
  exact hk37 _ _ _ ⟨false, h, (hl42.trans hl48), rfl, rfl⟩
theorem noise_Honest_ok {a0 : List Int} {a1 : List (List Int)} {a2 : List Int} {bi3 : Nat} {bi1 : Nat} {v5 : Value} {v7 : Value} {r : Bool} (h : noise_Honest a0 a1 a2 r) (σ : Sto) (hc4 : CelN σ ⟨bi3, 0, none⟩ (cellsN (Value.int .u32) 0 1024 a0)) (hc2 : CelN σ ⟨bi1, 0, none⟩ [.pointer (some ⟨bi3, 0, none⟩)]) (hs6 : Sl (kSl (kI .u8)) σ v5 a1) (hs8 : Sl (kI .u8) σ v7 a2) :
    Does Tryz.prog 12 [.pointer (some ⟨bi1, 0, none⟩), v5, v7] σ [] (fun v τ gs => gs = [] ∧ .bool r = v) := by
 refine call_of Tryz.func12 Tryz.ntmps12 rfl rfl (fun cs fs => ?_)
 refine Z 2 rfl ?_
 refine o_alloc rfl rfl rfl z_zero4 (fun b9 => ?_)
 refine Z 7 rfl ?_
 obtain ⟨r10, hr11, h⟩ := h
 refine st_call (foot := []) rfl rfl rfl rfl rfl rfl (callV_fn z_en10 (noise_Forged_ok hr11 σ hc4 hc2 hs6 hs8)) ?_
 rintro vτ12 τ12 gsτ12 hl13 ⟨f14, q15, rfl, rfl, hit16⟩
 refine Z 2 rfl ?_
 obtain ⟨t17, w17, hR17, hA17⟩ := h
 refine st_env (ρ' := [(6, .pointer (some ⟨b9, 0, none⟩)), (10, .func (.func f14) #[] q15)]) ⟨rfl, rfl, trivial⟩ ?_
 refine st_addNil ?_
 refine st_range (B := noise_Honest_l1) (s0 := ()) ranges_fctx rfl hit16 (Sto.Le.refl _) hR17 rfl (fun _ _ _ h => by cases h; rfl) (fun (s17 : Unit) τ17 gs => τ12.Le τ17 ∧ gs = [[(b9, .cells #[.bool false] 4 (0, 0))]]) (fun (p18 : Unit) cd τ19 gs => cd = .ret ∧ τ12.Le τ19 ∧ gs = [[(b9, .cells #[.bool false] 4 (0, 0))]]) (fun _ _ _ _ hl ⟨hb, hg⟩ => ⟨hb.trans hl, hg⟩) (fun _ _ _ _ _ hl ⟨hc, hb, hg⟩ => ⟨hc, hb.trans hl, hg⟩) ⟨Sto.Le.refl _, rfl⟩ ?_ ?_ ?_
 ·rintro x17 s17 o17 τ17 gs17 vx17 hl17 h rfl ⟨hb17, rfl⟩ l17 rc17 caller17 cs17 fs17
  refine st_skip ?_
  refine st_begin ?_
  refine ZZ 5 [0] rfl rfl ?_
  exact st_rret (List.Sublist.refl _) (Sto.Le.refl _) ⟨_, h, rfl, hl17, rfl⟩
 ·rintro p21 τ22 gs17 f17 ht hl23 ⟨hb, rfl⟩ rfl
  subst ht
  replace h := hA17
  refine st_ord [1] _ rfl ?_
  refine ZZ 5 [0] rfl rfl ?_
  obtain rfl := Eq.symm h
  exact st_retC (gs' := []) [.bool true] Tryz.func12 ⟨⟨_, _, _, _, rfl, mem_flat 0 rfl, fun w hw => cellOf z_sc4 rfl w hw⟩, trivial⟩ (by simp) (hl13.trans hl23) ⟨rfl, rfl⟩
 ·rintro p18 cd17 τ19 gs17 f17 ht hl20 ⟨rfl, hb, rfl⟩ rfl
  subst ht
  replace h := hA17
  refine st_ord [1] _ rfl ?_
  obtain rfl := Eq.symm h
  exact st_retC (gs' := []) [.bool false] Tryz.func12 ⟨⟨_, _, _, _, rfl, mem_flat 0 rfl, fun w hw => cellOf z_sc4 rfl w hw⟩, trivial⟩ (by simp) (hl13.trans hl20) ⟨rfl, rfl⟩
theorem frame_Codec_Check_ok {a0 : List Int} {a1 : (Int × Int × Int × Int × Int) × List Int} {bi3 : Nat} {bi1 : Nat} {v5 : Value} {r : Int} (h : frame_Codec_Check a0 a1 r) (σ : Sto) (hc4 : CelN σ ⟨bi3, 0, none⟩ (cellsN (Value.int .u32) 0 1024 a0)) (hc2 : CelN σ ⟨bi1, 0, none⟩ [.pointer (some ⟨bi3, 0, none⟩)]) (hs6 : Sl (kI .u8) σ v5 a1.2) :
    Does Tryz.prog 88 [.pointer (some ⟨bi1, 0, none⟩), .agg [.int .i64 a1.1.1, .int .i64 a1.1.2.1, .int .u32 a1.1.2.2.1, .int .i64 a1.1.2.2.2.1, .int .i64 a1.1.2.2.2.2, v5].toArray] σ [] (fun v τ gs => gs = [] ∧ .int .i64 r = v) := by
 refine call_of Tryz.func88 Tryz.ntmps88 rfl rfl (fun cs fs => ?_)
 refine Z 2 rfl ?_
 refine o_box (cs := [.int .i64 a1.1.1, .int .i64 a1.1.2.1, .int .u32 a1.1.2.2.1, .int .i64 a1.1.2.2.2.1, .int .i64 a1.1.2.2.2.2, v5]) rfl rfl rfl rfl rfl (fun b7 => ?_)
 refine ZZ 14 [0] rfl rfl ?_
 obtain ⟨r8, hr9, h⟩ := h
 refine st_call (foot := []) rfl rfl rfl rfl rfl rfl (callV_fn z_en104 (head_Check_ok hr9 σ)) ?_
 rintro vτ10 τ10 gsτ10 hl11 ⟨rfl, rfl⟩
 refine Z 10 rfl ?_
 refine st_if rfl h (fun h => ?_) (fun h => ?_)
 ·refine Z 5 rfl ?_
  refine st_ord [] _ rfl ?_
  obtain rfl := Eq.symm h
  exact st_ret (gs' := []) Tryz.func88 rfl (List.Sublist.refl _) hl11 ⟨rfl, rfl⟩
 ·refine ZZ 4 [0] rfl rfl ?_
  refine o_lenI rfl rfl rfl z_slT23 rfl (hs6.up hl11) ?_
  refine Z 3 rfl ?_
  refine st_if rfl h (fun h => ?_) (fun h => ?_)
  ·refine Z 4 rfl ?_
   refine st_ord [] _ rfl ?_
   obtain rfl := Eq.symm h
   exact st_ret (gs' := []) Tryz.func88 rfl (List.Sublist.refl _) hl11 ⟨rfl, rfl⟩
  ·refine ZZ 4 [0] rfl rfl ?_
   refine o_lenI rfl rfl rfl z_slT23 rfl (hs6.up hl11) ?_
   refine Z 3 rfl ?_
   refine st_if rfl h (fun h => ?_) (fun h => ?_)
   ·refine Z 4 rfl ?_
    refine st_ord [] _ rfl ?_
    obtain rfl := Eq.symm h
    exact st_ret (gs' := []) Tryz.func88 rfl (List.Sublist.refl _) hl11 ⟨rfl, rfl⟩
   ·refine Z 6 rfl ?_
    refine st_ord [] _ rfl ?_
    obtain rfl := Eq.symm h
    exact st_ret (gs' := []) Tryz.func88 rfl (List.Sublist.refl _) hl11 ⟨rfl, rfl⟩
theorem head_Bytes_ok {a0 : Int × Int × Int × Int × Int} {r : List Int × Int} (h : head_Bytes a0 r) (σ : Sto)  :
    Does Tryz.prog 89 [.agg [.int .i64 a0.1, .int .i64 a0.2.1, .int .u32 a0.2.2.1, .int .i64 a0.2.2.2.1, .int .i64 a0.2.2.2.2].toArray] σ [] (fun v τ gs => ∃ (v13 : Value), gs = [] ∧ .tuple [v13, .int .i64 r.2].toArray = v ∧ Sl (kI .u8) τ v13 r.1 ∧ Full v13) := by
 refine call_of Tryz.func89 Tryz.ntmps89 rfl rfl (fun cs fs => ?_)
 refine Z 2 rfl ?_
 refine o_boxC rfl rfl rfl rfl rfl rfl (fun b1 => ?_)
 refine ZZ 7 [0] rfl rfl ?_
 obtain ⟨r2, hr3, h⟩ := h
 refine st_call (foot := []) rfl rfl rfl rfl rfl rfl (callV_fn z_en104 (head_Check_ok hr3 σ)) ?_
 rintro vτ4 τ4 gsτ4 hl5 ⟨rfl, rfl⟩
 refine Z 7 rfl ?_
 refine st_if rfl h (fun h => ?_) (fun h => ?_)
 ·refine Z 6 rfl ?_
  refine st_ord [] _ rfl ?_
  obtain rfl := Eq.symm h
  exact st_ret (gs' := []) Tryz.func89 rfl (List.Sublist.refl _) hl5 ⟨_, rfl, rfl, Sl.nil, full_nil⟩
 ·refine ZZ 30 [0, 0, 0, 0, 0, 0, 0, 0] rfl rfl ?_
  refine o_buildA (ps := [(0, [.int .u8 (IntKind.u8.wrap a0.1)]), (1, [.int .u8 (IntKind.u8.wrap a0.2.1)]), (2, [.int .u8 (IntKind.u8.wrap a0.2.2.1)]), (3, [.int .u8 (IntKind.u8.wrap (ishr .u32 a0.2.2.1 8))]), (4, [.int .u8 (IntKind.u8.wrap (ishr .u32 a0.2.2.1 16))]), (5, [.int .u8 (IntKind.u8.wrap (ishr .u32 a0.2.2.1 24))]), (6, [.int .u8 (IntKind.u8.wrap a0.2.2.2.1)]), (7, [.int .u8 (IntKind.u8.wrap a0.2.2.2.2)])]) (cs := [.int .u8 (IntKind.u8.wrap a0.1), .int .u8 (IntKind.u8.wrap a0.2.1), .int .u8 (IntKind.u8.wrap a0.2.2.1), .int .u8 (IntKind.u8.wrap (ishr .u32 a0.2.2.1 8)), .int .u8 (IntKind.u8.wrap (ishr .u32 a0.2.2.1 16)), .int .u8 (IntKind.u8.wrap (ishr .u32 a0.2.2.1 24)), .int .u8 (IntKind.u8.wrap a0.2.2.2.1), .int .u8 (IntKind.u8.wrap a0.2.2.2.2)]) rfl rfl rfl z_arrz211 ⟨rfl, ⟨_, rfl, rfl⟩, ⟨rfl, ⟨_, rfl, rfl⟩, ⟨rfl, ⟨_, rfl, rfl⟩, ⟨rfl, ⟨_, rfl, rfl⟩, ⟨rfl, ⟨_, rfl, rfl⟩, ⟨rfl, ⟨_, rfl, rfl⟩, ⟨rfl, ⟨_, rfl, rfl⟩, ⟨rfl, ⟨_, rfl, rfl⟩, trivial⟩⟩⟩⟩⟩⟩⟩⟩ (fill_all [.int .u8 (IntKind.u8.wrap a0.1), .int .u8 (IntKind.u8.wrap a0.2.1), .int .u8 (IntKind.u8.wrap a0.2.2.1), .int .u8 (IntKind.u8.wrap (ishr .u32 a0.2.2.1 8)), .int .u8 (IntKind.u8.wrap (ishr .u32 a0.2.2.1 16)), .int .u8 (IntKind.u8.wrap (ishr .u32 a0.2.2.1 24)), .int .u8 (IntKind.u8.wrap a0.2.2.2.1), .int .u8 (IntKind.u8.wrap a0.2.2.2.2)] _ rfl) ?_
  refine o_alloc rfl rfl rfl z_zero211 (fun b6 => ?_)
  refine ZZ 4 [0] rfl rfl ?_
  refine st_freeze (fun τ7 hl8 hg9 => ?_)
  refine o_sliceF (dk := (kI .u8)) (xs := [(IntKind.u8.wrap a0.1), (IntKind.u8.wrap a0.2.1), (IntKind.u8.wrap a0.2.2.1), (IntKind.u8.wrap (ishr .u32 a0.2.2.1 8)), (IntKind.u8.wrap (ishr .u32 a0.2.2.1 16)), (IntKind.u8.wrap (ishr .u32 a0.2.2.1 24)), (IntKind.u8.wrap a0.2.2.2.1), (IntKind.u8.wrap a0.2.2.2.2)]) rfl rfl rfl z_arr211 rfl (hg9 _ List.mem_cons_self) (manyI [(IntKind.u8.wrap a0.1), (IntKind.u8.wrap a0.2.1), (IntKind.u8.wrap a0.2.2.1), (IntKind.u8.wrap (ishr .u32 a0.2.2.1 8)), (IntKind.u8.wrap (ishr .u32 a0.2.2.1 16)), (IntKind.u8.wrap (ishr .u32 a0.2.2.1 24)), (IntKind.u8.wrap a0.2.2.2.1), (IntKind.u8.wrap a0.2.2.2.2)]) rfl rfl (fun v10 hs11 hF12 => ?_)
  refine Z 3 rfl ?_
  refine st_ord [] _ rfl ?_
  obtain rfl := Eq.symm h
  exact st_ret (gs' := []) Tryz.func89 rfl (List.Sublist.refl _) (hl5.trans hl8) ⟨_, rfl, rfl, hs11, hF12⟩
theorem crc_Seal_ok {a0 : List Int} {a1 : List Int} {bi1 : Nat} {v3 : Value} {r : List Int} (h : crc_Seal a0 a1 r) (σ : Sto) (hc2 : CelN σ ⟨bi1, 0, none⟩ (cellsN (Value.int .u32) 0 1024 a0)) (hs4 : Sl (kI .u8) σ v3 a1) :
    Does Tryz.prog 91 [.pointer (some ⟨bi1, 0, none⟩), v3] σ [] (fun v τ gs => ∃ (v55 : Value), gs = [] ∧ v55 = v ∧ Sl (kI .u8) τ v55 r) := by
 refine call_of Tryz.func91 Tryz.ntmps91 rfl rfl (fun cs fs => ?_)
 refine Z 16 rfl ?_
 refine o_lit (dk := (kSl (kI .u8))) (xs := [a1]) (ps := [(0, [v3])]) (cs := [v3]) rfl rfl rfl z_slT22 z_zero23 ⟨rfl, ⟨_, rfl, (oneL_sl hs4)⟩, trivial⟩ rfl rfl rfl rfl (Kd.Many.cons (d := (kSl (kI .u8))) (x := a1) (a := [v3]) ⟨_, rfl, hs4⟩ Kd.Many.nil) (fun v5 g6 ho7 => ?_)
 obtain ⟨r12, hr13, h⟩ := h
 refine st_freeze (fun τ8 hl9 hg10 => ?_)
 have hs11 := ho7.freeze hl9 hg10
 refine st_call (foot := []) rfl rfl rfl rfl rfl rfl (callV_fn z_en99 (crc_Table_Sum_ok hr13 τ8 (hc2.up hl9) hs11)) ?_
 rintro vτ14 τ14 gsτ14 hl15 ⟨rfl, rfl⟩
 obtain ⟨r16, hr17, h⟩ := h
 refine st_call (foot := []) rfl rfl rfl rfl rfl rfl (callV_fn z_en98 (crc_bytes_ok hr17 τ14)) ?_
 rintro vτ18 τ18 gsτ18 hl19 ⟨rfl, rfl⟩
 refine o_alloc rfl rfl rfl z_zero184 (fun b20 => ?_)
 refine ZZ 3 [0] rfl rfl ?_
 obtain ⟨hf33, hf34, hf44, hf45, h⟩ := h
 refine st_freeze (fun τ21 hl22 hg23 => ?_)
 refine st_d41 [] [] 5 3 [some (0, 0), none, some (0, 1), none, some (0, 2)] [none, none, none, none, none] [[none, some 13, some 15, some 17]] [.t fun _ _ => True, .v (v3), .t fun _ _ => True, .t fun τ v => ∃ (v38 : Value), (v38 : Value) = v ∧ Sl (kI .u8) τ v38 [(r16.getD 0 0), (r16.getD 1 0), (r16.getD 2 0), (r16.getD 3 0)], .t fun _ _ => True] [[fun τ u F => F = [], fun τ u F => ∃ (v27 : Value) (g28 : Grp), F = [g28] ∧ v27 = u ∧ Ow (kI .u8) 5 τ v27 ([] : List Int) g28, fun τ u F => ∃ (v35 : Value) (g36 : Grp), F = [g36] ∧ v35 = u ∧ Ow (kI .u8) 5 τ v35 (([] : List Int) ++ a1) g36, fun τ u F => ∃ (v46 : Value) (g47 : Grp), F = [g47] ∧ v46 = u ∧ Ow (kI .u8) 5 τ v46 ((([] : List Int) ++ a1) ++ [(r16.getD 0 0), (r16.getD 1 0), (r16.getD 2 0), (r16.getD 3 0)]) g47]] rfl z_mix rfl ⟨fun _ _ _ _ _ => trivial, ⟨fun _ _ _ _ _ => trivial, ⟨fun _ _ _ hl ⟨v38, hv, hs39⟩ => ⟨v38, hv, hs39.up hl⟩, ⟨fun _ _ _ _ _ => trivial, trivial⟩⟩⟩⟩ ⟨⟨fun _ _ _ _ hl h => h, ⟨fun _ _ _ _ hl h => (let ⟨v27, g28, hF, hU, ho29⟩ := h; ⟨v27, g28, hF, hU, ho29.up hl⟩), ⟨fun _ _ _ _ hl h => (let ⟨v35, g36, hF, hU, ho37⟩ := h; ⟨v35, g36, hF, hU, ho37.up hl⟩), ⟨fun _ _ _ _ hl h => (let ⟨v46, g47, hF, hU, ho48⟩ := h; ⟨v46, g47, hF, hU, ho48.up hl⟩), trivial⟩⟩⟩⟩, trivial⟩ rfl rfl ?_ (allB_cons (allB_cons (allB_cons (allB_cons (allB_cons allB_nil ?_) (p4 dA)) ?_) ?_) ?_) ?_
 ·exact rfl
 ·intro ρ' τ u Fv pool rs hl hI hu hd hout hw hk
  have hI0 := hI
  obtain rfl := hI
  refine st_gs [pool] rfl ?_
  refine o_lit (dk := (kI .u8)) (xs := ([] : List Int)) (ps := []) (cs := []) rfl rfl rfl z_slT23 z_zero5 trivial rfl rfl rfl rfl Kd.Many.nil (fun v24 g25 ho26 => ?_)
  exact hk _ _ [g25] (Sto.Le.refl _) trivial (by exact ⟨v24, g25, rfl, rfl, ho26⟩)
 ·intro ρ' τ u Fv pool rs hl hI hu hd hout hw hk
  obtain ⟨_, e1, rfl⟩ := hd 1 rfl _ rfl
  obtain ⟨v27, g28, rfl, rfl, ho29⟩ := hI
  refine st_gs [g28, pool] rfl ?_
  refine o_append (dk := (kI .u8)) (xs := ([] : List Int)) (ys := a1) rfl rfl rfl rfl z_slT23 (hu (by decide) _ rfl) ho29 e1 (Sl.src (hs4.up ((((hl9.trans hl15).trans hl19).trans hl22).trans hl))) hf33 hf34 (fun v30 g31 ho32 => ?_)
  exact hk _ _ [g31] (Sto.Le.refl _) trivial (by exact ⟨v30, g31, rfl, rfl, ho32⟩)
 ·intro ρ' τ pool rs hl hd hout hw hk
  refine o_sliceF (dk := (kI .u8)) (xs := [(r16.getD 0 0), (r16.getD 1 0), (r16.getD 2 0), (r16.getD 3 0)]) rfl rfl rfl z_arr184 ((hout 5 rfl).trans rfl) (hl.imm _ _ (hg23 _ List.mem_cons_self)) (manyI [(r16.getD 0 0), (r16.getD 1 0), (r16.getD 2 0), (r16.getD 3 0)]) rfl rfl (fun v38 hs39 hF40 => ?_)
  exact hk _ _ (Sto.Le.refl _) ⟨v38, rfl, hs39⟩
 ·intro ρ' τ u Fv pool rs hl hI hu hd hout hw hk
  obtain ⟨_, e3, v38, rfl, hs39⟩ := hd 3 rfl _ rfl
  obtain ⟨v35, g36, rfl, rfl, ho37⟩ := hI
  refine st_gs [g36, pool] rfl ?_
  refine o_append (dk := (kI .u8)) (xs := (([] : List Int) ++ a1)) (ys := [(r16.getD 0 0), (r16.getD 1 0), (r16.getD 2 0), (r16.getD 3 0)]) rfl rfl rfl rfl z_slT23 (hu (by decide) _ rfl) ho37 e3 (Sl.src hs39) hf44 hf45 (fun v41 g42 ho43 => ?_)
  exact hk _ _ [g42] (Sto.Le.refl _) trivial (by exact ⟨v41, g42, rfl, rfl, ho43⟩)
 intro ρ' τ49 vals u Fv hl49 hI hu hv hout
 obtain ⟨v46, g47, rfl, rfl, ho48⟩ := hI
 refine st_gs [g47] rfl ?_
 refine st_env (ρ' := [(4, .slice none 0 0), (17, v46)]) ⟨(hout 4 rfl).trans rfl, (by exact hu _ rfl), trivial⟩ ?_
 refine Z 2 rfl ?_
 refine st_freeze (fun τ50 hl51 hg52 => ?_)
 have hs53 := ho48.freeze hl51 hg52
 obtain rfl := Eq.symm h
 exact st_ret (gs' := []) Tryz.func91 rfl (List.Sublist.refl _) (((((hl9.trans hl15).trans hl19).trans hl22).trans hl49).trans hl51) ⟨_, rfl, rfl, hs53⟩
theorem cobs_block_ok {a0 : List Int} {v1 : Value} {r : Int × Int × Bool} (h : cobs_block a0 r) (σ : Sto) (hs2 : Sl (kI .u8) σ v1 a0) :
    Does Tryz.prog 151 [v1] σ [] (fun v τ gs => gs = [] ∧ .tuple [.int .i64 r.1, .int .i64 r.2.1, .bool r.2.2].toArray = v) := by
 refine call_of Tryz.func151 Tryz.ntmps151 rfl rfl (fun cs fs => ?_)
 refine Z 7 rfl ?_
 refine st_cut (fun ρ τ3 gs => ∃ (s3 : Unit), cobs_block_j1 a0 s3 r ∧ σ.Le τ3 ∧ ESub ρ [(0, v1), (2, .int .i64 0), (3, .int .i64 0), (4, .bool false)] ∧ gs = []) ?_ (fun hk3 => ?_)
 ·rintro ρ3 τ3 gs3 ⟨s3, h, hl3, hρ, rfl⟩
  refine st_es hρ ?_
  refine Z 4 rfl ?_
  refine o_lenI rfl rfl rfl z_slT23 rfl (hs2.up hl3) ?_
  refine Z 2 rfl ?_
  refine st_if rfl h (fun h => ?_) (fun h => ?_)
  ·refine Z 3 rfl ?_
   refine o_lenI rfl rfl rfl z_slT23 rfl (hs2.up hl3) ?_
   refine Z 5 rfl ?_
   obtain rfl := Eq.symm h
   exact st_ret (gs' := []) Tryz.func151 rfl (List.Sublist.refl _) hl3 ⟨rfl, rfl⟩
  ·refine Z 4 rfl ?_
   refine o_lenI rfl rfl rfl z_slT23 rfl (hs2.up hl3) ?_
   refine o_move rfl rfl rfl rfl ?_
   refine o_lenI rfl rfl rfl z_slT23 rfl (hs2.up hl3) ?_
   refine Z 4 rfl ?_
   obtain rfl := Eq.symm h
   exact st_ret (gs' := []) Tryz.func151 rfl (List.Sublist.refl _) hl3 ⟨rfl, rfl⟩
 refine Z 4 rfl ?_
 refine o_lenI rfl rfl rfl z_slT23 rfl hs2 ?_
 refine o_min2 rfl rfl rfl rfl rfl ?_
 obtain ⟨hf4, hf5, h⟩ := h
 refine o_slice (L := 0) (H := (min (a0.length : Int) 254)) rfl rfl rfl z_slT23 rfl rfl hs2 rfl ⟨_, rfl⟩ (by decide) hf4 hf5 trivial (by simp) (fun v6 hs7 => ?_)
 refine o_lenI rfl rfl rfl z_slT23 rfl hs7 ?_
 refine Z 2 rfl ?_
 obtain ⟨e8, hL8, hA8⟩ := h
 refine st_loop hL8 (fun (s8 : Int) ρ τ8 gs => σ.Le τ8 ∧ ESub ρ [(0, v1), (2, .int .i64 0), (3, .int .i64 0), (4, .bool false), (11, v6), (12, .int .i64 (((a0.drop (0 : Int).toNat).take (((min (a0.length : Int) 254) : Int) - 0).toNat).length : Int)), (13, .int .i64 s8)] ∧ gs = []) ⟨Sto.Le.refl _, rfl, rfl⟩ ?_
 rintro s8 o8 h he8 ρ8 τ8 gs8 ⟨hl8, hρ, rfl⟩ hn8
 refine st_es hρ ?_
 refine Z 5 rfl ?_
 refine st_if rfl h (fun h => ?_) (fun h => ?_)
 ·refine Z 6 rfl ?_
  obtain ⟨q9, hf10, h⟩ := h
  refine o_index rfl rfl rfl z_slT23 rfl rfl (hs7.up hl8) rfl hf10 (fun b11 of12 vs hc13 hrep => ?_)
  obtain rfl := hrep
  refine o_loadI (v := .int .u8 q9) rfl rfl rfl z_sc5 rfl (hc13 0 _ rfl) ?_
  refine Z 8 rfl ?_
  refine st_if rfl h (fun h => ?_) (fun h => ?_)
  ·refine Z 9 rfl ?_
   obtain rfl := he8 _ h
   replace h := hA8
   obtain rfl := Eq.symm h
   exact st_ret (gs' := []) Tryz.func151 rfl (List.Sublist.refl _) hl8 ⟨rfl, rfl⟩
  ·refine Z 6 rfl ?_
   exact hn8 _ _ _ _ h ⟨hl8, rfl, rfl⟩
 ·refine st_exit rfl ?_
  obtain rfl := he8 _ h
  replace h := hA8
  exact hk3 _ _ _ ⟨(), h, hl8, rfl, rfl⟩
theorem cobs_Blocks_1_ok {c0 : List Int} {bc0 : Nat} {v1 : Value} {σ0 : Sto} (hc0_0 : Cel σ0 ⟨bc0, 0, none⟩ (v1)) (hs2 : Sl (kI .u8) σ0 v1 c0) :
    IterV Tryz.prog (fun τ x vx => ∃ (v61 : Value), vx = [v61] ∧ Sl (kI .u8) τ v61 x) (.func (.func 150) #[] [.pointer (some ⟨bc0, 0, none⟩)].toArray) σ0 [] (fun (_ : Unit) _ f => f = []) (cobs_Blocks_1 c0) := by
 intro S Y I y hyc hyo hIm hY s s' o hR σ g hle hIg
 obtain ⟨r, hr0⟩ : ∃ r, r = (s', o) := ⟨_, rfl⟩
 rw [← hr0] at hR
 have h := hR
 refine callV_of (caps := [.pointer (some ⟨bc0, 0, none⟩)]) z_en150 ?_
 refine call_of Tryz.func150 Tryz.ntmps150 rfl rfl (fun cs fs => ?_)
 refine st_ord [0] _ rfl ?_
 refine Z 2 rfl ?_
 refine o_loadI (v := v1) rfl rfl rfl z_sc23 rfl (Cel.up hc0_0 hle) ?_
 refine Z 3 rfl ?_
 obtain ⟨e3, hL3, hA3⟩ := h
 refine st_loop hL3 (fun (s3 : S × List Int × Bool) ρ τ3 gs => σ.Le τ3 ∧ ∃ (g4 : Grp) (v6 : Value), ESub ρ [(0, y), (3, v6), (4, .bool s3.2.2)] ∧ gs = [g4] ∧ I s3.1 τ3 g4 ∧ Sl (kI .u8) τ3 v6 s3.2.1) ⟨Sto.Le.refl _, g, _, rfl, rfl, hIg, (hs2.up hle)⟩ ?_
 rintro s3 o3 h he3 ρ3 τ3 gs3 ⟨hl3, g4, v6, hρ, rfl, hI5, hs7⟩ hn3
 refine st_es hρ ?_
 refine Z 5 rfl ?_
 refine st_if rfl h (fun h => ?_) (fun h => ?_)
 ·refine Z 5 rfl ?_
  obtain ⟨r8, hr9, h⟩ := h
  refine st_call (foot := []) rfl rfl rfl rfl rfl rfl (callV_fn z_en151 (cobs_block_ok hr9 τ3 hs7)) ?_
  rintro vτ10 τ10 gsτ10 hl11 ⟨rfl, rfl⟩
  refine Z 12 rfl ?_
  refine o_lit (dk := (kI .u8)) (xs := ([] : List Int)) (ps := []) (cs := []) rfl rfl rfl z_slT23 z_zero5 trivial rfl rfl rfl rfl Kd.Many.nil (fun v12 g13 ho14 => ?_)
  refine Z 3 rfl ?_
  obtain ⟨hf15, hf16, hf17, hf18, h⟩ := h
  refine o_slice (L := 0) (H := r8.1) rfl rfl rfl z_slT23 rfl rfl (hs7.up hl11) rfl ⟨_, rfl⟩ (by decide) hf15 hf16 ⟨_, _, rfl, hf17, hf18⟩ (by simp) (fun v19 hs20 => ?_)
  obtain ⟨hf24, hf25, h⟩ := h
  refine o_append (dk := (kI .u8)) (xs := ([] : List Int)) (ys := ((s3.2.1.drop (0 : Int).toNat).take ((r8.1 : Int) - 0).toNat)) rfl rfl rfl rfl z_slT23 rfl ho14 rfl (Sl.src hs20) hf24 hf25 (fun v21 g22 ho23 => ?_)
  obtain ⟨y30, u31, hy32, h⟩ := h
  refine st_freeze (fun τ26 hl27 hg28 => ?_)
  have hs29 := ho23.freeze hl27 hg28
  refine st_call (foot := [g4]) rfl rfl rfl rfl rfl rfl (hY (([] : List Int) ++ ((s3.2.1.drop (0 : Int).toNat).take ((r8.1 : Int) - 0).toNat)) s3.1 _ _ _ _ _ (hle.trans ((hl3.trans hl11).trans hl27)) hy32 ⟨_, rfl, hs29⟩ (hIm _ _ _ _ (hl11.trans hl27) hI5)) ?_
  rintro vτ33 τ33 gsτ33 hl34 ⟨rfl, g35, rfl, hI36⟩
  refine Z 2 rfl ?_
  refine st_if rfl h (fun h => ?_) (fun h => ?_)
  ·obtain rfl := he3 _ h
   replace h := hA3
   obtain rfl := Eq.symm h
   cases hr0
   exact st_ret (gs' := [g35, []]) Tryz.func150 rfl (by simp) (((hl3.trans hl11).trans hl27).trans hl34) ⟨g35, _, rfl, hI36, rfl⟩
  ·refine Z 4 rfl ?_
   obtain ⟨hf37, hf38, hf39, h⟩ := h
   refine o_slice (L := r8.2.1) (H := (s3.2.1.length : Int)) rfl rfl rfl z_slT23 rfl rfl (hs7.up ((hl11.trans hl27).trans hl34)) ⟨_, rfl⟩ rfl hf37 hf38 hf39 trivial (by simp) (fun v40 hs41 => ?_)
   refine Z 5 rfl ?_
   exact hn3 _ _ _ _ h ⟨(((hl3.trans hl11).trans hl27).trans hl34), g35, _, rfl, rfl, hI36, hs41⟩
 ·refine st_exit rfl ?_
  obtain rfl := he3 _ h
  replace h := hA3
  obtain rfl := Eq.symm h
  cases hr0
  exact st_fin (gs' := [g4, []]) Tryz.func150 rfl (by simp) hl3 ⟨g4, _, rfl, hI5, rfl⟩
theorem cobs_Blocks_ok {a0 : List Int} {v1 : Value} {r : (((S : Type) → ((List Int) → S → Bool × S → Prop) → S → S × Unit → Prop))} (h : cobs_Blocks a0 r) (σ : Sto) (hs2 : Sl (kI .u8) σ v1 a0) :
    Does Tryz.prog 118 [v1] σ [] (fun v τ gs => ∃ (f7 : Nat) (q8 : Array Value), gs = [] ∧ .func (.func f7) #[] q8 = v ∧ IterV Tryz.prog (fun τ x vx => ∃ (v63 : Value), vx = [v63] ∧ Sl (kI .u8) τ v63 x) (.func (.func f7) #[] q8) τ [] (fun (_ : Unit) _ f => f = []) r) := by
 refine call_of Tryz.func118 Tryz.ntmps118 rfl rfl (fun cs fs => ?_)
 refine Z 2 rfl ?_
 refine o_box (cs := [v1]) rfl rfl rfl rfl (oneL_sl hs2) (fun b3 => ?_)
 refine Z 4 rfl ?_
 refine st_freeze (fun τ4 hl5 hg6 => ?_)
 refine Z 3 rfl ?_
 obtain rfl := Eq.symm h
 exact st_ret (gs' := []) Tryz.func118 rfl (List.Sublist.refl _) hl5 ⟨_, _, rfl, rfl, (cobs_Blocks_1_ok (cel_of hg6 rfl) (hs2.up hl5))⟩
theorem cobs_Encode_ok {a0 : List Int} {v1 : Value} {r : List Int} (h : cobs_Encode a0 r) (σ : Sto) (hs2 : Sl (kI .u8) σ v1 a0) :
    Does Tryz.prog 90 [v1] σ [] (fun v τ gs => ∃ (v42 : Value), gs = [] ∧ v42 = v ∧ Sl (kI .u8) τ v42 r) := by
 refine call_of Tryz.func90 Tryz.ntmps90 rfl rfl (fun cs fs => ?_)
 refine Z 6 rfl ?_
 refine o_alloc rfl rfl rfl z_zero23 (fun b3 => ?_)
 refine Z 5 rfl ?_
 obtain ⟨r4, hr5, h⟩ := h
 refine st_call (foot := []) rfl rfl rfl rfl rfl rfl (callV_fn z_en118 (cobs_Blocks_ok hr5 σ hs2)) ?_
 rintro vτ6 τ6 gsτ6 hl7 ⟨f8, q9, rfl, rfl, hit10⟩
 refine Z 2 rfl ?_
 obtain ⟨t11, w11, hR11, hA11⟩ := h
 refine st_env (ρ' := [(2, .slice none 0 0), (3, .pointer (some ⟨b3, 0, none⟩)), (6, .func (.func f8) #[] q9)]) ⟨rfl, rfl, rfl, trivial⟩ ?_
 refine st_addNil ?_
 refine st_ord [1, 0] _ rfl ?_
 refine st_addNil ?_
 refine st_range (B := cobs_Encode_l1) (s0 := []) ranges_fctx rfl hit10 (Sto.Le.refl _) hR11 rfl (fun _ _ _ h => by obtain ⟨_, rfl, _⟩ := h; rfl) (fun (s11 : List Int) τ11 gs => τ6.Le τ11 ∧ ∃ (v12 : Value) (g13 : Grp), gs = [[(b3, .cells #[v12] 23 (0, 0))], g13] ∧ Ow (kI .u8) 5 τ11 v12 s11 g13) (fun _ _ _ _ => False) (fun _ _ _ _ hl ⟨hb, v12, g13, hg, ho14⟩ => ⟨hb.trans hl, v12, g13, hg, ho14.up hl⟩) (fun _ _ _ _ _ _ h => h.elim) ⟨Sto.Le.refl _, _, _, rfl, Ow.nil⟩ ?_ ?_ ?_
 ·rintro x11 s11 o11 τ11 gs11 vx11 hl11 h ⟨v15, rfl, hs16⟩ ⟨hb11, v12, g13, rfl, ho14⟩ l11 rc11 caller11 cs11 fs11
  refine Z 3 rfl ?_
  refine st_begin ?_
  refine ZZ 5 [0] rfl rfl ?_
  refine o_lenI rfl rfl rfl z_slT23 rfl hs16 ?_
  refine Z 2 rfl ?_
  refine o_litE (eI .u8) [(IntKind.u8.wrap (IntKind.i64.wrap ((x11.length : Int) + 1)))] rfl rfl rfl z_slT23 z_zero5 ⟨rfl, ⟨_, rfl, rfl⟩, trivial⟩ rfl rfl rfl rfl (fun v17 g18 ho19 => ?_)
  obtain ⟨hf23, hf24, h⟩ := h
  refine st_ord [2, 0, 0] _ rfl ?_
  refine o_append (dk := (kI .u8)) (xs := s11) (ys := [(IntKind.u8.wrap (IntKind.i64.wrap ((x11.length : Int) + 1)))]) rfl rfl rfl rfl z_slT23 rfl ho14 rfl (Ow.src (j := 1) ho19 rfl) hf23 hf24 (fun v20 g21 ho22 => ?_)
  refine o_store (j := 2) (vs := [v20]) (cs' := [v20]) rfl rfl rfl z_size23 rfl rfl (oneL_ow ho22) (ones_cons ho22.one' ones_nil) rfl rfl rfl ?_
  refine st_gs [g21, g18, [(b3, .cells #[v20] 23 (0, 0))]] rfl ?_
  refine ZZ 4 [2] rfl rfl ?_
  obtain ⟨hf28, hf29, h⟩ := h
  refine o_append (dk := (kI .u8)) (xs := (s11 ++ [(IntKind.u8.wrap (IntKind.i64.wrap ((x11.length : Int) + 1)))])) (ys := x11) rfl rfl rfl rfl z_slT23 rfl ho22 rfl (Sl.src hs16) hf28 hf29 (fun v25 g26 ho27 => ?_)
  refine o_store (j := 2) (vs := [v25]) (cs' := [v25]) rfl rfl rfl z_size23 rfl rfl (oneL_ow ho27) (ones_cons ho27.one' ones_nil) rfl rfl rfl ?_
  refine st_gs [g26, g18, [(b3, .cells #[v25] 23 (0, 0))]] rfl ?_
  refine Z 2 rfl ?_
  refine st_ord [2, 0] _ rfl ?_
  exact st_rend (List.Sublist.refl _) (Sto.Le.refl _) ⟨_, h, hl11, _, _, rfl, ho27⟩
 ·rintro p30 τ31 gs11 f11 ht hl32 ⟨hb, v33, g34, rfl, ho35⟩ rfl
  subst ht
  replace h := hA11
  refine st_ord [1, 1] _ rfl ?_
  refine ZZ 6 [0] rfl rfl ?_
  refine st_ord [1, 0] _ rfl ?_
  refine st_freeze (fun τ36 hl37 hg38 => ?_)
  have hs39 := ho35.freeze hl37 hg38
  refine st_ord [] _ rfl ?_
  obtain rfl := Eq.symm h
  exact st_ret (gs' := []) Tryz.func90 rfl (List.Sublist.refl _) ((hl7.trans hl32).trans hl37) ⟨_, rfl, rfl, hs39⟩
 ·exact fun _ _ _ _ _ _ _ h => h.elim
end Go.Rel
