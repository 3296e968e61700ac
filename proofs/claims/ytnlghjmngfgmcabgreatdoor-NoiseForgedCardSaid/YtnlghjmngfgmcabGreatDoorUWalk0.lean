import Derived.Test.YtnlghjmngfgmcabGreatDoorURel
import Derived.Test.YtnlghjmngfgmcabGreatDoorUFacts
/-! The walks. -/
set_option linter.unusedVariables false
set_option linter.unusedSimpArgs false
set_option maxRecDepth 4000
set_option maxHeartbeats 4000000
namespace Go.Rel
open Go Go.Eng Go.Proofs
theorem law26_Rows_ok {a0 : List (List Int)} {v1 : Value} {r : List (List Int)} (h : law26_Rows a0 r) (σ : Sto) (hs2 : Sl (kSl (kI .u8)) σ v1 a0) :
    Does Tryz.prog 7 [v1] σ [] (fun v τ gs => ∃ (v55 : Value), gs = [] ∧ v55 = v ∧ Sl (kSl (kI .u8)) τ v55 r) := by
 refine call_of Tryz.func7 Tryz.ntmps7 rfl rfl (fun cs fs => ?_)
 refine Z 9 rfl ?_
 refine st_cut (fun ρ τ3 gs => ∃ (s3 : List (List Int)) (v4 : Value) (g5 : Grp), law26_Rows_j1 s3 r ∧ σ.Le τ3 ∧ ESub ρ [(2, .slice none 0 0), (3, v4)] ∧ gs = [g5] ∧ Ow (kSl (kI .u8)) 23 τ3 v4 s3 g5) ?_ (fun hk3 => ?_)
 ·rintro ρ3 τ3 gs3 ⟨s3, v4, g5, h, hl3, hρ, rfl, ho6⟩
  refine st_es hρ ?_
  refine Z 5 rfl ?_
  refine st_freeze (fun τ7 hl8 hg9 => ?_)
  have hs10 := ho6.freeze hl8 hg9
  obtain rfl := Eq.symm h
  exact st_ret (gs' := []) Tryz.func7 rfl (List.Sublist.refl _) (hl3.trans hl8) ⟨_, rfl, rfl, hs10⟩
 refine Z 4 rfl ?_
 obtain ⟨e13, hL13, hA13⟩ := h
 refine st_addNil ?_
 refine st_loop hL13 (fun (s13 : List (List Int) × Int) ρ τ13 gs => σ.Le τ13 ∧ ∃ (v14 : Value) (g15 : Grp), ESub ρ [(0, v1), (2, .slice none 0 0), (3, v14), (4, .int .i64 s13.2)] ∧ gs = [g15] ∧ Ow (kSl (kI .u8)) 23 τ13 v14 s13.1 g15) ⟨Sto.Le.refl _, _, _, rfl, rfl, Ow.nil⟩ ?_
 rintro s13 o13 h he13 ρ13 τ13 gs13 ⟨hl13, v14, g15, hρ, rfl, ho16⟩ hn13
 refine st_es hρ ?_
 refine Z 2 rfl ?_
 refine st_cut (fun ρ τ17 gs => ∃ (s17 : Bool), law26_Rows_j3 a0 s13 s17 o13 ∧ τ13.Le τ17 ∧ ESub ρ [(0, v1), (2, .slice none 0 0), (3, v14), (4, .int .i64 s13.2), (12, .bool s17)] ∧ gs = [g15]) ?_ (fun hk17 => ?_)
 ·rintro ρ17 τ17 gs17 ⟨s17, h, hl17, hρ, rfl⟩
  refine st_es hρ ?_
  refine st_if rfl h (fun h => ?_) (fun h => ?_)
  ·refine Z 3 rfl ?_
   obtain ⟨q18, hf19, q26, hf27, hf34, hf35, hf48, hf49, h⟩ := h
   refine st_d41 [] [g15] 14 1 [none, none, none, none, none, none, none, none, none, none, none, none, none, some (0, 0)] [none, none, none, none, none, none, none, none, none, none, none, none, none, none] [[none, some 28]] [.v (v14), .v (v1), .v (.int .i64 s13.2), .t fun τ v => ∃ (b20 : Nat) (of21 : Nat) (vsb20 : List Value), (.pointer (some ⟨b20, of21, none⟩) : Value) = v ∧ CelN τ ⟨b20, of21, none⟩ vsb20 ∧ (kSl (kI .u8)).rep τ vsb20 q18, .t fun τ v => ∃ (v22 : Value), (v22 : Value) = v ∧ Sl (kI .u8) τ v22 q18, .v (v1), .v (.int .i64 s13.2), .t fun τ v => ∃ (b28 : Nat) (of29 : Nat) (vsb28 : List Value), (.pointer (some ⟨b28, of29, none⟩) : Value) = v ∧ CelN τ ⟨b28, of29, none⟩ vsb28 ∧ (kSl (kI .u8)).rep τ vsb28 q26, .t fun τ v => ∃ (v30 : Value), (v30 : Value) = v ∧ Sl (kI .u8) τ v30 q26, .v (.int .i64 (q26.length : Int)), .v (.int .i64 (min (q26.length : Int) 300)), .t fun τ v => ∃ (v36 : Value), (v36 : Value) = v ∧ Sl (kI .u8) τ v36 ((q18.drop (0 : Int).toNat).take (((min (q26.length : Int) 300) : Int) - 0).toNat), .t fun τ v => ∃ (v38 : Value), (v38 : Value) = v ∧ Sl (kSl (kI .u8)) τ v38 [((q18.drop (0 : Int).toNat).take (((min (q26.length : Int) 300) : Int) - 0).toNat)], .t fun _ _ => True] [[fun τ u F => F = [g15], fun τ u F => ∃ (v50 : Value) (g51 : Grp), F = [g51] ∧ v50 = u ∧ Ow (kSl (kI .u8)) 23 τ v50 (s13.1 ++ [((q18.drop (0 : Int).toNat).take (((min (q26.length : Int) 300) : Int) - 0).toNat)]) g51]] rfl z_mix rfl ⟨fun _ _ _ hl ⟨b20, of21, vsb20, hv, hc23, hrepb20⟩ => ⟨b20, of21, vsb20, hv, hc23.up hl, Kd.mono _ hl hrepb20⟩, ⟨fun _ _ _ hl ⟨v22, hv, hs25⟩ => ⟨v22, hv, hs25.up hl⟩, ⟨fun _ _ _ hl ⟨b28, of29, vsb28, hv, hc31, hrepb28⟩ => ⟨b28, of29, vsb28, hv, hc31.up hl, Kd.mono _ hl hrepb28⟩, ⟨fun _ _ _ hl ⟨v30, hv, hs33⟩ => ⟨v30, hv, hs33.up hl⟩, ⟨fun _ _ _ hl ⟨v36, hv, hs37⟩ => ⟨v36, hv, hs37.up hl⟩, ⟨fun _ _ _ hl ⟨v38, hv, hs44⟩ => ⟨v38, hv, hs44.up hl⟩, ⟨fun _ _ _ _ _ => trivial, trivial⟩⟩⟩⟩⟩⟩⟩ ⟨⟨fun _ _ _ _ hl h => h, ⟨fun _ _ _ _ hl h => (let ⟨v50, g51, hF, hU, ho52⟩ := h; ⟨v50, g51, hF, hU, ho52.up hl⟩), trivial⟩⟩, trivial⟩ rfl rfl ?_ (allB_cons (allB_cons (allB_cons (allB_cons (allB_cons (allB_cons (allB_cons (allB_cons (allB_cons (allB_cons (allB_cons (allB_cons (allB_cons (allB_cons allB_nil (p4 dA)) (p4 dA)) (p4 dA)) ?_) ?_) (p4 dA)) (p4 dA)) ?_) ?_) ?_) (p4 dA)) ?_) ?_) ?_) ?_
   ·exact rfl
   ·intro ρ' τ pool rs hl hd hout hw hk
    obtain ⟨_, e1, rfl⟩ := hd 1 rfl _ rfl
    obtain ⟨_, e2, rfl⟩ := hd 2 rfl _ rfl
    refine o_index rfl rfl rfl z_slT22 rfl e1 (hs2.up ((hl13.trans hl17).trans hl)) e2 hf19 (fun b20 of21 vsb20 hc23 hrepb20 => ?_)
    exact hk _ _ (Sto.Le.refl _) ⟨b20, of21, _, rfl, hc23, hrepb20⟩
   ·intro ρ' τ pool rs hl hd hout hw hk
    obtain ⟨_, e3, b20, of21, vsb20, rfl, hc23, hrepb20⟩ := hd 3 rfl _ rfl
    have hrepb20 := hrepb20
    obtain ⟨v22, rfl, hs25⟩ := hrepb20
    refine o_loadI (v := v22) rfl rfl rfl z_sc23 e3 (hc23 0 _ rfl) ?_
    exact hk _ _ (Sto.Le.refl _) ⟨v22, rfl, hs25⟩
   ·intro ρ' τ pool rs hl hd hout hw hk
    obtain ⟨_, e5, rfl⟩ := hd 5 rfl _ rfl
    obtain ⟨_, e6, rfl⟩ := hd 6 rfl _ rfl
    refine o_index rfl rfl rfl z_slT22 rfl e5 (hs2.up ((hl13.trans hl17).trans hl)) e6 hf27 (fun b28 of29 vsb28 hc31 hrepb28 => ?_)
    exact hk _ _ (Sto.Le.refl _) ⟨b28, of29, _, rfl, hc31, hrepb28⟩
   ·intro ρ' τ pool rs hl hd hout hw hk
    obtain ⟨_, e7, b28, of29, vsb28, rfl, hc31, hrepb28⟩ := hd 7 rfl _ rfl
    have hrepb28 := hrepb28
    obtain ⟨v30, rfl, hs33⟩ := hrepb28
    refine o_loadI (v := v30) rfl rfl rfl z_sc23 e7 (hc31 0 _ rfl) ?_
    exact hk _ _ (Sto.Le.refl _) ⟨v30, rfl, hs33⟩
   ·intro ρ' τ pool rs hl hd hout hw hk
    obtain ⟨_, e8, v30, rfl, hs33⟩ := hd 8 rfl _ rfl
    refine o_lenI rfl rfl rfl z_slT23 e8 hs33 ?_
    exact hk _ _ (Sto.Le.refl _) rfl
   ·intro ρ' τ pool rs hl hd hout hw hk
    obtain ⟨_, e4, v22, rfl, hs25⟩ := hd 4 rfl _ rfl
    obtain ⟨_, e10, rfl⟩ := hd 10 rfl _ rfl
    refine o_slice (L := 0) (H := (min (q26.length : Int) 300)) rfl rfl rfl z_slT23 rfl e4 hs25 rfl ⟨_, e10⟩ (by decide) hf34 hf35 trivial (by simp) (fun v36 hs37 => ?_)
    exact hk _ _ (Sto.Le.refl _) ⟨v36, rfl, hs37⟩
   ·intro ρ' τ pool rs hl hd hout hw hk
    obtain ⟨_, e11, v36, rfl, hs37⟩ := hd 11 rfl _ rfl
    refine o_lit (dk := (kSl (kI .u8))) (xs := [((q18.drop (0 : Int).toNat).take (((min (q26.length : Int) 300) : Int) - 0).toNat)]) (ps := [(0, [v36])]) (cs := [v36]) rfl rfl rfl z_slT22 z_zero23 ⟨rfl, ⟨_, e11, (oneL_sl hs37)⟩, trivial⟩ rfl rfl rfl rfl (Kd.Many.cons (d := (kSl (kI .u8))) (x := ((q18.drop (0 : Int).toNat).take (((min (q26.length : Int) 300) : Int) - 0).toNat)) (a := [v36]) ⟨_, rfl, hs37⟩ Kd.Many.nil) (fun v38 g39 ho40 => ?_)
    refine st_freeze (fun τ41 hl42 hg43 => ?_)
    have hs44 := ho40.freeze hl42 hg43
    exact hk _ _ hl42 ⟨v38, rfl, hs44⟩
   ·intro ρ' τ u Fv pool rs hl hI hu hd hout hw hk
    obtain ⟨_, e0, rfl⟩ := hd 0 rfl _ rfl
    obtain ⟨_, e12, v38, rfl, hs44⟩ := hd 12 rfl _ rfl
    have hI0 := hI
    obtain rfl := hI
    refine st_gs [g15, pool] rfl ?_
    refine o_append (dk := (kSl (kI .u8))) (xs := s13.1) (ys := [((q18.drop (0 : Int).toNat).take (((min (q26.length : Int) 300) : Int) - 0).toNat)]) rfl rfl rfl rfl z_slT22 e0 (ho16.up (hl17.trans hl)) e12 (Sl.src hs44) hf48 hf49 (fun v45 g46 ho47 => ?_)
    exact hk _ _ [g46] (Sto.Le.refl _) trivial (by exact ⟨v45, g46, rfl, rfl, ho47⟩)
   intro ρ' τ53 vals u Fv hl53 hI hu hv hout
   obtain ⟨v50, g51, rfl, rfl, ho52⟩ := hI
   refine st_gs [g51] rfl ?_
   refine st_env (ρ' := [(0, v1), (2, .slice none 0 0), (4, .int .i64 s13.2), (28, v50)]) ⟨(hout 0 rfl).trans rfl, (hout 2 rfl).trans rfl, (hout 4 rfl).trans rfl, (by exact hu _ rfl), trivial⟩ ?_
   refine Z 8 rfl ?_
   exact hn13 _ _ _ _ h ⟨((hl13.trans hl17).trans hl53), _, _, rfl, rfl, ho52⟩
  ·refine st_exit rfl ?_
   obtain rfl := he13 _ h
   replace h := hA13
   exact hk3 _ _ _ ⟨s13.1, _, _, h, (hl13.trans hl17), rfl, rfl, (ho16.up hl17)⟩
 refine Z 3 rfl ?_
 refine o_lenI rfl rfl rfl z_slT22 rfl (hs2.up hl13) ?_
 refine o_ibin (v := .bool (decide (s13.2 < (a0.length : Int)))) rfl rfl rfl rfl rfl rfl ?_
 refine o_mif rfl rfl rfl rfl h (fun h => ?_) (fun h => ?_)
 ·refine Z 4 rfl ?_
  exact hk17 _ _ _ ⟨(decide (s13.2 < 20)), h, (Sto.Le.refl _), rfl, rfl⟩
 ·refine Z 4 rfl ?_
  exact hk17 _ _ _ ⟨false, h, (Sto.Le.refl _), rfl, rfl⟩
theorem crc_shift_ok {a0 : Int} {r : Int} (h : crc_shift a0 r) (σ : Sto)  :
    Does Tryz.prog 56 [.int .u32 a0] σ [] (fun v τ gs => gs = [] ∧ .int .u32 r = v) := by
 refine call_of Tryz.func56 Tryz.ntmps56 rfl rfl (fun cs fs => ?_)
 refine Z 5 rfl ?_
 refine st_cut (fun ρ τ1 gs => ∃ (s1 : Int), crc_shift_j1 s1 r ∧ σ.Le τ1 ∧ ESub ρ [(0, .int .u32 s1), (2, .int .u32 0)] ∧ gs = []) ?_ (fun hk1 => ?_)
 ·rintro ρ1 τ1 gs1 ⟨s1, h, hl1, hρ, rfl⟩
  refine st_es hρ ?_
  refine Z 5 rfl ?_
  obtain rfl := Eq.symm h
  exact st_ret (gs' := []) Tryz.func56 rfl (List.Sublist.refl _) hl1 ⟨rfl, rfl⟩
 refine Z 4 rfl ?_
 obtain ⟨e2, hL2, hA2⟩ := h
 refine st_loop hL2 (fun (s2 : Int × Int) ρ τ2 gs => σ.Le τ2 ∧ ESub ρ [(0, .int .u32 s2.1), (2, .int .u32 0), (3, .int .i64 s2.2)] ∧ gs = []) ⟨Sto.Le.refl _, rfl, rfl⟩ ?_
 rintro s2 o2 h he2 ρ2 τ2 gs2 ⟨hl2, hρ, rfl⟩ hn2
 refine st_es hρ ?_
 refine Z 5 rfl ?_
 refine st_if rfl h (fun h => ?_) (fun h => ?_)
 ·refine Z 18 rfl ?_
  exact hn2 _ _ _ _ h ⟨hl2, rfl, rfl⟩
 ·refine st_exit rfl ?_
  obtain rfl := he2 _ h
  replace h := hA2
  exact hk1 _ _ _ ⟨s2.1, h, hl2, rfl, rfl⟩
theorem crc_New_ok  {r : List Int} (h : crc_New r) (σ : Sto)  :
    Does Tryz.prog 25 [] σ [] (fun v τ gs => ∃ (bi19 : Nat), gs = [] ∧ .pointer (some ⟨bi19, 0, none⟩) = v ∧ CelN τ ⟨bi19, 0, none⟩ (cellsN (Value.int .u32) 0 1024 r)) := by
 refine call_of Tryz.func25 Tryz.ntmps25 rfl rfl (fun cs fs => ?_)
 refine Z 6 rfl ?_
 refine o_build (ps := []) (cs := (cellsN (Value.int .u32) 0 1024 (List.replicate 1024 0))) rfl rfl rfl z_struct129 trivial rfl ?_
 refine o_box (cs := (cellsN (Value.int .u32) 0 1024 (List.replicate 1024 0))) rfl rfl rfl rfl rfl (fun b1 => ?_)
 refine Z 3 rfl ?_
 refine st_cut (fun ρ τ2 gs => ∃ (s2 : List Int), crc_New_j1 s2 r ∧ σ.Le τ2 ∧ ESub ρ [(0, .pointer none), (1, .pointer (some ⟨b1, 0, none⟩))] ∧ gs = [[(b1, .cells (cellsN (Value.int .u32) 0 1024 s2).toArray 129 (0, 0))]]) ?_ (fun hk2 => ?_)
 ·rintro ρ2 τ2 gs2 ⟨s2, h, hl2, hρ, rfl⟩
  refine st_es hρ ?_
  refine Z 5 rfl ?_
  refine st_freeze (fun τ3 hl4 hg5 => ?_)
  obtain rfl := Eq.symm h
  exact st_ret (gs' := []) Tryz.func25 rfl (List.Sublist.refl _) (hl2.trans hl4) ⟨_, rfl, rfl, (celn_box hg5)⟩
 refine Z 4 rfl ?_
 obtain ⟨e6, hL6, hA6⟩ := h
 refine st_loop hL6 (fun (s6 : Int × List Int) ρ τ6 gs => σ.Le τ6 ∧ ESub ρ [(0, .pointer none), (1, .pointer (some ⟨b1, 0, none⟩)), (7, .int .i64 s6.1)] ∧ gs = [[(b1, .cells (cellsN (Value.int .u32) 0 1024 s6.2).toArray 129 (0, 0))]]) ⟨Sto.Le.refl _, rfl, rfl⟩ ?_
 rintro s6 o6 h he6 ρ6 τ6 gs6 ⟨hl6, hρ, rfl⟩ hn6
 refine st_es hρ ?_
 refine Z 5 rfl ?_
 refine st_if rfl h (fun h => ?_) (fun h => ?_)
 ·refine Z 2 rfl ?_
  refine st_cut (fun ρ τ7 gs => ∃ (s7 : List Int), crc_New_j3 s6 s7 o6 ∧ τ6.Le τ7 ∧ ESub ρ [(0, .pointer none), (1, .pointer (some ⟨b1, 0, none⟩)), (7, .int .i64 s6.1)] ∧ gs = [[(b1, .cells (cellsN (Value.int .u32) 0 1024 s7).toArray 129 (0, 0))]]) ?_ (fun hk7 => ?_)
  ·rintro ρ7 τ7 gs7 ⟨s7, h, hl7, hρ, rfl⟩
   refine st_es hρ ?_
   refine Z 4 rfl ?_
   exact hn6 _ _ _ _ h ⟨(hl6.trans hl7), rfl, rfl⟩
  refine Z 16 rfl ?_
  obtain ⟨e8, hL8, hA8⟩ := h
  refine st_loop hL8 (fun (s8 : Int × Int × List Int) ρ τ8 gs => τ6.Le τ8 ∧ ESub ρ [(0, .pointer none), (1, .pointer (some ⟨b1, 0, none⟩)), (7, .int .i64 s6.1), (2, .int .i64 s6.1), (3, .int .u32 s8.1), (12, .int .i64 s8.2.1)] ∧ gs = [[(b1, .cells (cellsN (Value.int .u32) 0 1024 s8.2.2).toArray 129 (0, 0))]]) ⟨Sto.Le.refl _, rfl, rfl⟩ ?_
  rintro s8 o8 h he8 ρ8 τ8 gs8 ⟨hl8, hρ, rfl⟩ hn8
  refine st_es hρ ?_
  refine Z 5 rfl ?_
  refine st_if rfl h (fun h => ?_) (fun h => ?_)
  ·refine Z 11 rfl ?_
   obtain ⟨r9, hr10, h⟩ := h
   refine st_call (foot := []) rfl rfl rfl rfl rfl rfl (callV_fn z_en56 (crc_shift_ok hr10 τ8)) ?_
   rintro vτ11 τ11 gsτ11 hl12 ⟨rfl, rfl⟩
   refine Z 9 rfl ?_
   obtain ⟨hf13, hf14, h⟩ := h
   refine o_indexA rfl rfl rfl z_arr127 rfl rfl hf13 hf14 ?_
   obtain ⟨hf15, hf16, h⟩ := h
   refine o_indexA rfl rfl rfl z_arr126 rfl rfl hf15 hf16 ?_
   refine o_storeB (j := 0) (q := (s8.2.1.toNat * 256 + s6.1.toNat)) (f := (Value.int .u32)) (zz := 0) (a := r9) (l := 1024) (xs := s8.2.2) rfl rfl rfl z_size57 rfl rfl rfl rfl rfl (by omega) (by omega) ?_
   refine st_gs [[(b1, .cells (cellsN (Value.int .u32) 0 1024 (putN 1024 0 s8.2.2 (s8.2.1.toNat * 256 + s6.1.toNat) r9)).toArray 129 (0, 0))]] rfl ?_
   refine Z 6 rfl ?_
   exact hn8 _ _ _ _ h ⟨(hl8.trans hl12), rfl, rfl⟩
  ·refine Z 2 rfl ?_
   obtain rfl := he8 _ h
   replace h := hA8
   exact hk7 _ _ _ ⟨s8.2.2, h, hl8, rfl, rfl⟩
 ·refine st_exit rfl ?_
  obtain rfl := he6 _ h
  replace h := hA6
  exact hk2 _ _ _ ⟨s6.2, h, hl6, rfl, rfl⟩
theorem frame_New_ok  {r : List Int} (h : frame_New r) (σ : Sto)  :
    Does Tryz.prog 8 [] σ [] (fun v τ gs => ∃ (bi13 : Nat) (bi11 : Nat), gs = [] ∧ .pointer (some ⟨bi11, 0, none⟩) = v ∧ CelN τ ⟨bi13, 0, none⟩ (cellsN (Value.int .u32) 0 1024 r) ∧ CelN τ ⟨bi11, 0, none⟩ [.pointer (some ⟨bi13, 0, none⟩)]) := by
 refine call_of Tryz.func8 Tryz.ntmps8 rfl rfl (fun cs fs => ?_)
 refine Z 6 rfl ?_
 obtain ⟨r1, hr2, h⟩ := h
 refine st_call (foot := []) rfl rfl rfl rfl rfl rfl (callV_fn z_en25 (crc_New_ok hr2 σ)) ?_
 rintro vτ3 τ3 gsτ3 hl4 ⟨bi5, rfl, rfl, hc6⟩
 refine ZZ 1 [] rfl rfl ?_
 refine o_box (cs := [.pointer (some ⟨bi5, 0, none⟩)]) rfl rfl rfl rfl rfl (fun b7 => ?_)
 refine Z 2 rfl ?_
 refine st_freeze (fun τ8 hl9 hg10 => ?_)
 obtain rfl := Eq.symm h
 exact st_ret (gs' := []) Tryz.func8 rfl (List.Sublist.refl _) (hl4.trans hl9) ⟨_, _, rfl, rfl, (hc6.up hl9), (celn_box hg10)⟩
theorem ref06_Split_ok {a0 : List Int} {v1 : Value} {r : List (List Int) × List Int × List Int} (h : ref06_Split a0 r) (σ : Sto) (hs2 : Sl (kI .u8) σ v1 a0) :
    Does Tryz.prog 26 [v1] σ [] (fun v τ gs => ∃ (v99 : Value) (v101 : Value) (v103 : Value), gs = [] ∧ .tuple [v99, v101, v103].toArray = v ∧ Sl (kSl (kI .u8)) τ v99 r.1 ∧ Sl (kI .i64) τ v101 r.2.1 ∧ Sl (kI .u8) τ v103 r.2.2) := by
 refine call_of Tryz.func26 Tryz.ntmps26 rfl rfl (fun cs fs => ?_)
 refine Z 19 rfl ?_
 refine st_cut (fun ρ τ3 gs => ∃ (s3 : List (List Int) × List Int × List Int) (v4 : Value) (g5 : Grp) (v7 : Value) (g8 : Grp) (v10 : Value) (g11 : Grp), ref06_Split_j1 s3 r ∧ σ.Le τ3 ∧ ESub ρ [(2, .slice none 0 0), (3, .slice none 0 0), (4, .slice none 0 0), (5, v4), (6, v7), (7, v10)] ∧ gs = [g5, g8, g11] ∧ Ow (kSl (kI .u8)) 23 τ3 v4 s3.1 g5 ∧ Ow (kI .i64) 3 τ3 v7 s3.2.1 g8 ∧ Ow (kI .u8) 5 τ3 v10 s3.2.2 g11) ?_ (fun hk3 => ?_)
 ·rintro ρ3 τ3 gs3 ⟨s3, v4, g5, v7, g8, v10, g11, h, hl3, hρ, rfl, ho6, ho9, ho12⟩
  refine st_es hρ ?_
  refine Z 9 rfl ?_
  refine st_freeze (fun τ13 hl14 hg15 => ?_)
  have hs16 := ho6.freeze hl14 hg15
  refine st_freeze (fun τ19 hl20 hg21 => ?_)
  have hs22 := ho9.freeze (hl14.trans hl20) hg21
  refine st_freeze (fun τ25 hl26 hg27 => ?_)
  have hs28 := ho12.freeze ((hl14.trans hl20).trans hl26) hg27
  obtain rfl := Eq.symm h
  exact st_ret (gs' := []) Tryz.func26 rfl (List.Sublist.refl _) (((hl3.trans hl14).trans hl20).trans hl26) ⟨_, _, _, rfl, rfl, (hs16.up (hl20.trans hl26)), (hs22.up hl26), hs28⟩
 refine Z 4 rfl ?_
 obtain ⟨e31, hL31, hA31⟩ := h
 refine st_addNil ?_
 refine st_addNil ?_
 refine st_addNil ?_
 refine st_loop hL31 (fun (s31 : List (List Int) × List Int × List Int × Int) ρ τ31 gs => σ.Le τ31 ∧ ∃ (v32 : Value) (g33 : Grp) (v35 : Value) (g36 : Grp) (v38 : Value) (g39 : Grp), ESub ρ [(0, v1), (2, .slice none 0 0), (3, .slice none 0 0), (4, .slice none 0 0), (5, v32), (6, v35), (7, v38), (8, .int .i64 s31.2.2.2)] ∧ gs = [g33, g36, g39] ∧ Ow (kSl (kI .u8)) 23 τ31 v32 s31.1 g33 ∧ Ow (kI .i64) 3 τ31 v35 s31.2.1 g36 ∧ Ow (kI .u8) 5 τ31 v38 s31.2.2.1 g39) ⟨Sto.Le.refl _, _, _, _, _, _, _, rfl, rfl, Ow.nil, Ow.nil, Ow.nil⟩ ?_
 rintro s31 o31 h he31 ρ31 τ31 gs31 ⟨hl31, v32, g33, v35, g36, v38, g39, hρ, rfl, ho34, ho37, ho40⟩ hn31
 refine st_es hρ ?_
 refine Z 5 rfl ?_
 refine o_lenI rfl rfl rfl z_slT23 rfl (hs2.up hl31) ?_
 refine Z 2 rfl ?_
 refine st_if rfl h (fun h => ?_) (fun h => ?_)
 ·refine Z 2 rfl ?_
  refine st_cut (fun ρ τ41 gs => ∃ (s41 : List (List Int) × List Int × List Int) (v42 : Value) (g43 : Grp) (v45 : Value) (g46 : Grp) (v48 : Value) (g49 : Grp), ref06_Split_j3 s31 s41 o31 ∧ τ31.Le τ41 ∧ ESub ρ [(0, v1), (2, .slice none 0 0), (3, .slice none 0 0), (4, .slice none 0 0), (5, v42), (6, v45), (7, v48), (8, .int .i64 s31.2.2.2)] ∧ gs = [g43, g46, g49] ∧ Ow (kSl (kI .u8)) 23 τ41 v42 s41.1 g43 ∧ Ow (kI .i64) 3 τ41 v45 s41.2.1 g46 ∧ Ow (kI .u8) 5 τ41 v48 s41.2.2 g49) ?_ (fun hk41 => ?_)
  ·rintro ρ41 τ41 gs41 ⟨s41, v42, g43, v45, g46, v48, g49, h, hl41, hρ, rfl, ho44, ho47, ho50⟩
   refine st_es hρ ?_
   refine Z 5 rfl ?_
   exact hn31 _ _ _ _ h ⟨(hl31.trans hl41), _, _, _, _, _, _, rfl, rfl, ho44, ho47, ho50⟩
  refine Z 6 rfl ?_
  obtain ⟨q51, hf52, h⟩ := h
  refine o_index rfl rfl rfl z_slT23 rfl rfl (hs2.up hl31) rfl hf52 (fun b53 of54 vs hc55 hrep => ?_)
  obtain rfl := hrep
  refine o_loadI (v := .int .u8 q51) rfl rfl rfl z_sc5 rfl (hc55 0 _ rfl) ?_
  refine Z 2 rfl ?_
  refine st_if rfl h (fun h => ?_) (fun h => ?_)
  ·refine Z 5 rfl ?_
   obtain ⟨q56, hf57, h⟩ := h
   refine o_index rfl rfl rfl z_slT23 rfl rfl (hs2.up hl31) rfl hf57 (fun b58 of59 vs hc60 hrep => ?_)
   obtain rfl := hrep
   refine o_loadI (v := .int .u8 q56) rfl rfl rfl z_sc5 rfl (hc60 0 _ rfl) ?_
   refine o_litE (eI .u8) [q56] rfl rfl rfl z_slT23 z_zero5 ⟨rfl, ⟨_, rfl, rfl⟩, trivial⟩ rfl rfl rfl rfl (fun v61 g62 ho63 => ?_)
   obtain ⟨hf67, hf68, h⟩ := h
   refine st_ord [3, 0, 0, 0] _ rfl ?_
   refine o_append (dk := (kI .u8)) (xs := s31.2.2.1) (ys := [q56]) rfl rfl rfl rfl z_slT23 rfl ho40 rfl (Ow.src (j := 1) ho63 rfl) hf67 hf68 (fun v64 g65 ho66 => ?_)
   refine Z 3 rfl ?_
   refine st_ord [2, 2, 0] _ rfl ?_
   exact hk41 _ _ _ ⟨(s31.1, s31.2.1, (s31.2.2.1 ++ [q56])), _, _, _, _, _, _, h, (Sto.Le.refl _), rfl, rfl, ho34, ho37, ho66⟩
  ·refine Z 2 rfl ?_
   refine st_cut (fun ρ τ69 gs => ∃ (s69 : List (List Int) × List Int) (v70 : Value) (g71 : Grp) (v73 : Value) (g74 : Grp), ref06_Split_j4 s31 s69 o31 ∧ τ31.Le τ69 ∧ ESub ρ [(0, v1), (2, .slice none 0 0), (3, .slice none 0 0), (4, .slice none 0 0), (5, v70), (6, v73), (8, .int .i64 s31.2.2.2)] ∧ gs = [g71, g74] ∧ Ow (kSl (kI .u8)) 23 τ69 v70 s69.1 g71 ∧ Ow (kI .i64) 3 τ69 v73 s69.2 g74) ?_ (fun hk69 => ?_)
   ·rintro ρ69 τ69 gs69 ⟨s69, v70, g71, v73, g74, h, hl69, hρ, rfl, ho72, ho75⟩
    refine st_es hρ ?_
    refine Z 4 rfl ?_
    refine st_addNil ?_
    refine st_ord [1, 1, 0] _ rfl ?_
    exact hk41 _ _ _ ⟨(s69.1, s69.2, []), _, _, _, _, _, _, h, hl69, rfl, rfl, ho72, ho75, Ow.nil⟩
   refine Z 3 rfl ?_
   refine o_lenO rfl rfl rfl z_slT23 rfl ho40 ?_
   refine Z 2 rfl ?_
   refine st_if rfl h (fun h => ?_) (fun h => ?_)
   ·refine Z 4 rfl ?_
    refine st_ord [2, 0, 0] _ rfl ?_
    refine st_freeze (fun τ76 hl77 hg78 => ?_)
    have hs79 := ho40.freeze hl77 hg78
    refine o_lit (dk := (kSl (kI .u8))) (xs := [s31.2.2.1]) (ps := [(0, [v38])]) (cs := [v38]) rfl rfl rfl z_slT22 z_zero23 ⟨rfl, ⟨_, rfl, (oneL_sl hs79)⟩, trivial⟩ rfl rfl rfl rfl (Kd.Many.cons (d := (kSl (kI .u8))) (x := s31.2.2.1) (a := [v38]) ⟨_, rfl, hs79⟩ Kd.Many.nil) (fun v82 g83 ho84 => ?_)
    obtain ⟨hf88, hf89, h⟩ := h
    refine st_ord [1, 0, 0] _ rfl ?_
    refine o_append (dk := (kSl (kI .u8))) (xs := s31.1) (ys := [s31.2.2.1]) rfl rfl rfl rfl z_slT22 rfl (ho34.up hl77) rfl (Ow.src (j := 1) ho84 rfl) hf88 hf89 (fun v85 g86 ho87 => ?_)
    refine Z 6 rfl ?_
    refine o_lenI rfl rfl rfl z_slT23 rfl hs79 ?_
    refine o_ibin (v := .int .i64 (IntKind.i64.wrap (s31.2.2.2 - (s31.2.2.1.length : Int)))) rfl rfl rfl rfl rfl rfl ?_
    refine o_litE (eI .i64) [(IntKind.i64.wrap (s31.2.2.2 - (s31.2.2.1.length : Int)))] rfl rfl rfl z_slT27 z_zero3 ⟨rfl, ⟨_, rfl, rfl⟩, trivial⟩ rfl rfl rfl rfl (fun v90 g91 ho92 => ?_)
    obtain ⟨hf96, hf97, h⟩ := h
    refine st_ord [3, 0, 0, 0] _ rfl ?_
    refine o_append (dk := (kI .i64)) (xs := s31.2.1) (ys := [(IntKind.i64.wrap (s31.2.2.2 - (s31.2.2.1.length : Int)))]) rfl rfl rfl rfl z_slT27 rfl (ho37.up hl77) rfl (Ow.src (j := 1) ho92 rfl) hf96 hf97 (fun v93 g94 ho95 => ?_)
    refine Z 2 rfl ?_
    refine st_ord [2, 0] _ rfl ?_
    exact hk69 _ _ _ ⟨((s31.1 ++ [s31.2.2.1]), (s31.2.1 ++ [(IntKind.i64.wrap (s31.2.2.2 - (s31.2.2.1.length : Int)))])), _, _, _, _, h, hl77, rfl, rfl, ho87, ho95⟩
   ·refine st_skip ?_
    refine st_ord [0, 0] _ rfl ?_
    exact hk69 _ _ _ ⟨(s31.1, s31.2.1), _, _, _, _, h, (Sto.Le.refl _), rfl, rfl, ho34, ho37⟩
 ·refine st_exit rfl ?_
  obtain rfl := he31 _ h
  replace h := hA31
  exact hk3 _ _ _ ⟨(s31.1, s31.2.1, s31.2.2.1), _, _, _, _, _, _, h, hl31, rfl, rfl, ho34, ho37, ho40⟩
theorem ref05_Blocks_ok {a0 : List Int} {v1 : Value} {r : List (List Int)} (h : ref05_Blocks a0 r) (σ : Sto) (hs2 : Sl (kI .u8) σ v1 a0) :
    Does Tryz.prog 120 [v1] σ [] (fun v τ gs => ∃ (v94 : Value), gs = [] ∧ v94 = v ∧ Sl (kSl (kI .u8)) τ v94 r) := by
 refine call_of Tryz.func120 Tryz.ntmps120 rfl rfl (fun cs fs => ?_)
 refine Z 17 rfl ?_
 refine st_cut (fun ρ τ3 gs => ∃ (s3 : List (List Int) × List Int × Bool) (v4 : Value) (g5 : Grp) (v7 : Value) (g8 : Grp), ref05_Blocks_j1 s3 r ∧ σ.Le τ3 ∧ ESub ρ [(2, .slice none 0 0), (3, v4), (4, v7), (5, .bool s3.2.2)] ∧ gs = [g5, g8] ∧ Ow (kSl (kI .u8)) 23 τ3 v4 s3.1 g5 ∧ Ow (kI .u8) 5 τ3 v7 s3.2.1 g8) ?_ (fun hk3 => ?_)
 ·rintro ρ3 τ3 gs3 ⟨s3, v4, g5, v7, g8, h, hl3, hρ, rfl, ho6, ho9⟩
  refine st_es hρ ?_
  refine st_seq ?_
  refine st_cut (fun ρ τ10 gs => ∃ (s10 : List (List Int)) (v11 : Value) (g12 : Grp), ref05_Blocks_j2 s10 r ∧ τ3.Le τ10 ∧ ESub ρ [(2, .slice none 0 0), (3, v11)] ∧ gs = [g12] ∧ Ow (kSl (kI .u8)) 23 τ10 v11 s10 g12) ?_ (fun hk10 => ?_)
  ·rintro ρ10 τ10 gs10 ⟨s10, v11, g12, h, hl10, hρ, rfl, ho13⟩
   refine st_es hρ ?_
   refine Z 5 rfl ?_
   refine st_freeze (fun τ14 hl15 hg16 => ?_)
   have hs17 := ho13.freeze hl15 hg16
   obtain rfl := Eq.symm h
   exact st_ret (gs' := []) Tryz.func120 rfl (List.Sublist.refl _) ((hl3.trans hl10).trans hl15) ⟨_, rfl, rfl, hs17⟩
  refine Z 5 rfl ?_
  refine st_if rfl h (fun h => ?_) (fun h => ?_)
  ·refine Z 3 rfl ?_
   refine st_ord [1, 0] _ rfl ?_
   refine st_freeze (fun τ20 hl21 hg22 => ?_)
   have hs23 := ho9.freeze hl21 hg22
   refine o_lit (dk := (kSl (kI .u8))) (xs := [s3.2.1]) (ps := [(0, [v7])]) (cs := [v7]) rfl rfl rfl z_slT22 z_zero23 ⟨rfl, ⟨_, rfl, (oneL_sl hs23)⟩, trivial⟩ rfl rfl rfl rfl (Kd.Many.cons (d := (kSl (kI .u8))) (x := s3.2.1) (a := [v7]) ⟨_, rfl, hs23⟩ Kd.Many.nil) (fun v25 g26 ho27 => ?_)
   obtain ⟨hf31, hf32, h⟩ := h
   refine st_ord [1, 0] _ rfl ?_
   refine o_append (dk := (kSl (kI .u8))) (xs := s3.1) (ys := [s3.2.1]) rfl rfl rfl rfl z_slT22 rfl (ho6.up hl21) rfl (Ow.src (j := 1) ho27 rfl) hf31 hf32 (fun v28 g29 ho30 => ?_)
   refine Z 2 rfl ?_
   refine st_ord [0] _ rfl ?_
   exact hk10 _ _ _ ⟨(s3.1 ++ [s3.2.1]), _, _, h, hl21, rfl, rfl, ho30⟩
  ·refine st_skip ?_
   refine st_ord [0] _ rfl ?_
   exact hk10 _ _ _ ⟨s3.1, _, _, h, (Sto.Le.refl _), rfl, rfl, ho6⟩
 refine Z 4 rfl ?_
 obtain ⟨e33, hL33, hA33⟩ := h
 refine st_addNil ?_
 refine st_addNil ?_
 refine st_loop hL33 (fun (s33 : List (List Int) × List Int × Bool × Int) ρ τ33 gs => σ.Le τ33 ∧ ∃ (v34 : Value) (g35 : Grp) (v37 : Value) (g38 : Grp), ESub ρ [(0, v1), (2, .slice none 0 0), (3, v34), (4, v37), (5, .bool s33.2.2.1), (6, .int .i64 s33.2.2.2)] ∧ gs = [g35, g38] ∧ Ow (kSl (kI .u8)) 23 τ33 v34 s33.1 g35 ∧ Ow (kI .u8) 5 τ33 v37 s33.2.1 g38) ⟨Sto.Le.refl _, _, _, _, _, rfl, rfl, Ow.nil, Ow.nil⟩ ?_
 rintro s33 o33 h he33 ρ33 τ33 gs33 ⟨hl33, v34, g35, v37, g38, hρ, rfl, ho36, ho39⟩ hn33
 refine st_es hρ ?_
 refine Z 5 rfl ?_
 refine o_lenI rfl rfl rfl z_slT23 rfl (hs2.up hl33) ?_
 refine Z 2 rfl ?_
 refine st_if rfl h (fun h => ?_) (fun h => ?_)
 ·refine Z 2 rfl ?_
  refine st_cut (fun ρ τ40 gs => ∃ (s40 : List (List Int) × List Int × Bool) (v41 : Value) (g42 : Grp) (v44 : Value) (g45 : Grp), ref05_Blocks_j4 s33 s40 o33 ∧ τ33.Le τ40 ∧ ESub ρ [(0, v1), (2, .slice none 0 0), (3, v41), (4, v44), (5, .bool s40.2.2), (6, .int .i64 s33.2.2.2)] ∧ gs = [g42, g45] ∧ Ow (kSl (kI .u8)) 23 τ40 v41 s40.1 g42 ∧ Ow (kI .u8) 5 τ40 v44 s40.2.1 g45) ?_ (fun hk40 => ?_)
  ·rintro ρ40 τ40 gs40 ⟨s40, v41, g42, v44, g45, h, hl40, hρ, rfl, ho43, ho46⟩
   refine st_es hρ ?_
   refine Z 5 rfl ?_
   exact hn33 _ _ _ _ h ⟨(hl33.trans hl40), _, _, _, _, rfl, rfl, ho43, ho46⟩
  refine Z 10 rfl ?_
  obtain ⟨q47, hf48, h⟩ := h
  refine o_index rfl rfl rfl z_slT23 rfl rfl (hs2.up hl33) rfl hf48 (fun b49 of50 vs hc51 hrep => ?_)
  obtain rfl := hrep
  refine o_loadI (v := .int .u8 q47) rfl rfl rfl z_sc5 rfl (hc51 0 _ rfl) ?_
  refine Z 2 rfl ?_
  refine st_if rfl h (fun h => ?_) (fun h => ?_)
  ·refine Z 4 rfl ?_
   refine st_ord [1, 0] _ rfl ?_
   refine st_freeze (fun τ52 hl53 hg54 => ?_)
   have hs55 := ho39.freeze hl53 hg54
   refine o_lit (dk := (kSl (kI .u8))) (xs := [s33.2.1]) (ps := [(0, [v37])]) (cs := [v37]) rfl rfl rfl z_slT22 z_zero23 ⟨rfl, ⟨_, rfl, (oneL_sl hs55)⟩, trivial⟩ rfl rfl rfl rfl (Kd.Many.cons (d := (kSl (kI .u8))) (x := s33.2.1) (a := [v37]) ⟨_, rfl, hs55⟩ Kd.Many.nil) (fun v57 g58 ho59 => ?_)
   obtain ⟨hf63, hf64, h⟩ := h
   refine st_ord [1, 0] _ rfl ?_
   refine o_append (dk := (kSl (kI .u8))) (xs := s33.1) (ys := [s33.2.1]) rfl rfl rfl rfl z_slT22 rfl (ho36.up hl53) rfl (Ow.src (j := 1) ho59 rfl) hf63 hf64 (fun v60 g61 ho62 => ?_)
   refine Z 7 rfl ?_
   refine st_addNil ?_
   refine st_ord [1, 0] _ rfl ?_
   exact hk40 _ _ _ ⟨((s33.1 ++ [s33.2.1]), [], false), _, _, _, _, h, hl53, rfl, rfl, ho62, Ow.nil⟩
  ·refine Z 6 rfl ?_
   obtain ⟨q65, hf66, h⟩ := h
   refine o_index rfl rfl rfl z_slT23 rfl rfl (hs2.up hl33) rfl hf66 (fun b67 of68 vs hc69 hrep => ?_)
   obtain rfl := hrep
   refine o_loadI (v := .int .u8 q65) rfl rfl rfl z_sc5 rfl (hc69 0 _ rfl) ?_
   refine o_litE (eI .u8) [q65] rfl rfl rfl z_slT23 z_zero5 ⟨rfl, ⟨_, rfl, rfl⟩, trivial⟩ rfl rfl rfl rfl (fun v70 g71 ho72 => ?_)
   obtain ⟨hf76, hf77, h⟩ := h
   refine st_ord [2, 0, 0] _ rfl ?_
   refine o_append (dk := (kI .u8)) (xs := s33.2.1) (ys := [q65]) rfl rfl rfl rfl z_slT23 rfl ho39 rfl (Ow.src (j := 1) ho72 rfl) hf76 hf77 (fun v73 g74 ho75 => ?_)
   refine Z 5 rfl ?_
   refine o_lenO rfl rfl rfl z_slT23 rfl ho75 ?_
   refine Z 2 rfl ?_
   refine st_if rfl h (fun h => ?_) (fun h => ?_)
   ·refine Z 4 rfl ?_
    refine st_freeze (fun τ78 hl79 hg80 => ?_)
    have hs81 := ho75.freeze hl79 hg80
    refine o_lit (dk := (kSl (kI .u8))) (xs := [(s33.2.1 ++ [q65])]) (ps := [(0, [v73])]) (cs := [v73]) rfl rfl rfl z_slT22 z_zero23 ⟨rfl, ⟨_, rfl, (oneL_sl hs81)⟩, trivial⟩ rfl rfl rfl rfl (Kd.Many.cons (d := (kSl (kI .u8))) (x := (s33.2.1 ++ [q65])) (a := [v73]) ⟨_, rfl, hs81⟩ Kd.Many.nil) (fun v85 g86 ho87 => ?_)
    obtain ⟨hf91, hf92, h⟩ := h
    refine st_ord [2, 0, 0] _ rfl ?_
    refine o_append (dk := (kSl (kI .u8))) (xs := s33.1) (ys := [(s33.2.1 ++ [q65])]) rfl rfl rfl rfl z_slT22 rfl (ho36.up hl79) rfl (Ow.src (j := 1) ho87 rfl) hf91 hf92 (fun v88 g89 ho90 => ?_)
    refine Z 10 rfl ?_
    refine st_addNil ?_
    refine st_ord [1, 0] _ rfl ?_
    exact hk40 _ _ _ ⟨((s33.1 ++ [(s33.2.1 ++ [q65])]), [], true), _, _, _, _, h, hl79, rfl, rfl, ho90, Ow.nil⟩
   ·refine Z 2 rfl ?_
    refine st_ord [2, 0] _ rfl ?_
    exact hk40 _ _ _ ⟨(s33.1, (s33.2.1 ++ [q65]), false), _, _, _, _, h, (Sto.Le.refl _), rfl, rfl, ho36, ho75⟩
 ·refine st_exit rfl ?_
  obtain rfl := he33 _ h
  replace h := hA33
  exact hk3 _ _ _ ⟨(s33.1, s33.2.1, s33.2.2.1), _, _, _, _, h, hl33, rfl, rfl, ho36, ho39⟩
theorem ref05_Encode_ok {a0 : List Int} {v1 : Value} {r : List Int} (h : ref05_Encode a0 r) (σ : Sto) (hs2 : Sl (kI .u8) σ v1 a0) :
    Does Tryz.prog 94 [v1] σ [] (fun v τ gs => ∃ (v51 : Value), gs = [] ∧ v51 = v ∧ Sl (kI .u8) τ v51 r) := by
 refine call_of Tryz.func94 Tryz.ntmps94 rfl rfl (fun cs fs => ?_)
 refine Z 11 rfl ?_
 obtain ⟨r3, hr4, h⟩ := h
 refine st_call (foot := []) rfl rfl rfl rfl rfl rfl (callV_fn z_en120 (ref05_Blocks_ok hr4 σ hs2)) ?_
 rintro vτ5 τ5 gsτ5 hl6 ⟨v7, rfl, rfl, hs8⟩
 refine Z 3 rfl ?_
 refine st_cut (fun ρ τ9 gs => ∃ (s9 : List Int) (v10 : Value) (g11 : Grp), ref05_Encode_j1 s9 r ∧ τ5.Le τ9 ∧ ESub ρ [(2, .slice none 0 0), (3, v10)] ∧ gs = [g11] ∧ Ow (kI .u8) 5 τ9 v10 s9 g11) ?_ (fun hk9 => ?_)
 ·rintro ρ9 τ9 gs9 ⟨s9, v10, g11, h, hl9, hρ, rfl, ho12⟩
  refine st_es hρ ?_
  refine Z 5 rfl ?_
  refine st_freeze (fun τ13 hl14 hg15 => ?_)
  have hs16 := ho12.freeze hl14 hg15
  obtain rfl := Eq.symm h
  exact st_ret (gs' := []) Tryz.func94 rfl (List.Sublist.refl _) ((hl6.trans hl9).trans hl14) ⟨_, rfl, rfl, hs16⟩
 refine Z 4 rfl ?_
 obtain ⟨e19, hL19, hA19⟩ := h
 refine st_addNil ?_
 refine st_loop hL19 (fun (s19 : List Int × Int) ρ τ19 gs => τ5.Le τ19 ∧ ∃ (v20 : Value) (g21 : Grp), ESub ρ [(2, .slice none 0 0), (3, v20), (4, v7), (5, .int .i64 s19.2)] ∧ gs = [g21] ∧ Ow (kI .u8) 5 τ19 v20 s19.1 g21) ⟨Sto.Le.refl _, _, _, rfl, rfl, Ow.nil⟩ ?_
 rintro s19 o19 h he19 ρ19 τ19 gs19 ⟨hl19, v20, g21, hρ, rfl, ho22⟩ hn19
 refine st_es hρ ?_
 refine Z 5 rfl ?_
 refine o_lenI rfl rfl rfl z_slT22 rfl (hs8.up hl19) ?_
 refine Z 2 rfl ?_
 refine st_if rfl h (fun h => ?_) (fun h => ?_)
 ·refine Z 8 rfl ?_
  obtain ⟨q23, hf24, h⟩ := h
  refine o_index rfl rfl rfl z_slT22 rfl rfl (hs8.up hl19) rfl hf24 (fun b25 of26 vs hc28 hrep => ?_)
  obtain ⟨v27, rfl, hs29⟩ := hrep
  refine o_loadI (v := v27) rfl rfl rfl z_sc23 rfl (hc28 0 _ rfl) ?_
  refine o_lenI rfl rfl rfl z_slT23 rfl hs29 ?_
  refine Z 2 rfl ?_
  refine o_litE (eI .u8) [(IntKind.u8.wrap (IntKind.i64.wrap ((q23.length : Int) + 1)))] rfl rfl rfl z_slT23 z_zero5 ⟨rfl, ⟨_, rfl, rfl⟩, trivial⟩ rfl rfl rfl rfl (fun v30 g31 ho32 => ?_)
  obtain ⟨hf36, hf37, h⟩ := h
  refine st_ord [1, 0] _ rfl ?_
  refine o_append (dk := (kI .u8)) (xs := s19.1) (ys := [(IntKind.u8.wrap (IntKind.i64.wrap ((q23.length : Int) + 1)))]) rfl rfl rfl rfl z_slT23 rfl ho22 rfl (Ow.src (j := 1) ho32 rfl) hf36 hf37 (fun v33 g34 ho35 => ?_)
  refine Z 6 rfl ?_
  obtain ⟨q38, hf39, h⟩ := h
  refine o_index rfl rfl rfl z_slT22 rfl rfl (hs8.up hl19) rfl hf39 (fun b40 of41 vs hc43 hrep => ?_)
  obtain ⟨v42, rfl, hs44⟩ := hrep
  refine o_loadI (v := v42) rfl rfl rfl z_sc23 rfl (hc43 0 _ rfl) ?_
  obtain ⟨hf48, hf49, h⟩ := h
  refine o_append (dk := (kI .u8)) (xs := (s19.1 ++ [(IntKind.u8.wrap (IntKind.i64.wrap ((q23.length : Int) + 1)))])) (ys := q38) rfl rfl rfl rfl z_slT23 rfl ho35 rfl (Sl.src hs44) hf48 hf49 (fun v45 g46 ho47 => ?_)
  refine Z 8 rfl ?_
  refine st_ord [0] _ rfl ?_
  exact hn19 _ _ _ _ h ⟨hl19, _, _, rfl, rfl, ho47⟩
 ·refine st_exit rfl ?_
  obtain rfl := he19 _ h
  replace h := hA19
  exact hk9 _ _ _ ⟨s19.1, _, _, h, hl19, rfl, rfl, ho22⟩
theorem ref01_Same_ok {a0 : List Int} {a1 : List Int} {v1 : Value} {v3 : Value} {r : Bool} (h : ref01_Same a0 a1 r) (σ : Sto) (hs2 : Sl (kI .u8) σ v1 a0) (hs4 : Sl (kI .u8) σ v3 a1) :
    Does Tryz.prog 28 [v1, v3] σ [] (fun v τ gs => gs = [] ∧ .bool r = v) := by
 refine call_of Tryz.func28 Tryz.ntmps28 rfl rfl (fun cs fs => ?_)
 refine Z 8 rfl ?_
 refine o_lenI rfl rfl rfl z_slT23 rfl hs2 ?_
 refine o_move rfl rfl rfl rfl ?_
 refine o_lenI rfl rfl rfl z_slT23 rfl hs4 ?_
 refine Z 2 rfl ?_
 refine st_if rfl h (fun h => ?_) (fun h => ?_)
 ·refine Z 4 rfl ?_
  obtain rfl := Eq.symm h
  exact st_ret (gs' := []) Tryz.func28 rfl (List.Sublist.refl _) (Sto.Le.refl _) ⟨rfl, rfl⟩
 ·refine Z 2 rfl ?_
  refine st_cut (fun ρ τ5 gs => ∃ (s5 : Unit), ref01_Same_j1 s5 r ∧ σ.Le τ5 ∧ ESub ρ [(4, .bool false)] ∧ gs = []) ?_ (fun hk5 => ?_)
  ·rintro ρ5 τ5 gs5 ⟨s5, h, hl5, hρ, rfl⟩
   refine st_es hρ ?_
   refine Z 4 rfl ?_
   obtain rfl := Eq.symm h
   exact st_ret (gs' := []) Tryz.func28 rfl (List.Sublist.refl _) hl5 ⟨rfl, rfl⟩
  refine Z 4 rfl ?_
  obtain ⟨e6, hL6, hA6⟩ := h
  refine st_loop hL6 (fun (s6 : Int) ρ τ6 gs => σ.Le τ6 ∧ ESub ρ [(0, v1), (1, v3), (4, .bool false), (5, .int .i64 s6)] ∧ gs = []) ⟨Sto.Le.refl _, rfl, rfl⟩ ?_
  rintro s6 o6 h he6 ρ6 τ6 gs6 ⟨hl6, hρ, rfl⟩ hn6
  refine st_es hρ ?_
  refine Z 5 rfl ?_
  refine o_lenI rfl rfl rfl z_slT23 rfl (hs2.up hl6) ?_
  refine Z 2 rfl ?_
  refine st_if rfl h (fun h => ?_) (fun h => ?_)
  ·refine Z 4 rfl ?_
   obtain ⟨q7, hf8, q12, hf13, h⟩ := h
   refine st_draw 9 (dl [.v (v1), .v (.int .i64 s6), .t fun τ v => ∃ (b9 : Nat) (of10 : Nat) (vsb9 : List Value), (.pointer (some ⟨b9, of10, none⟩) : Value) = v ∧ CelN τ ⟨b9, of10, none⟩ vsb9 ∧ (kI .u8).rep τ vsb9 q7, .v (.int .u8 q7), .v (v3), .v (.int .i64 s6), .t fun τ v => ∃ (b14 : Nat) (of15 : Nat) (vsb14 : List Value), (.pointer (some ⟨b14, of15, none⟩) : Value) = v ∧ CelN τ ⟨b14, of15, none⟩ vsb14 ∧ (kI .u8).rep τ vsb14 q12, .v (.int .u8 q12), .v (.bool (!(decide (q7 = q12))))]) (fun _ _ => []) z_mix rfl (dl_mono ⟨fun _ _ _ hl ⟨b9, of10, vsb9, hv, hc11, hrepb9⟩ => ⟨b9, of10, vsb9, hv, hc11.up hl, Kd.mono _ hl hrepb9⟩, ⟨fun _ _ _ hl ⟨b14, of15, vsb14, hv, hc16, hrepb14⟩ => ⟨b14, of15, vsb14, hv, hc16.up hl, Kd.mono _ hl hrepb14⟩, trivial⟩⟩) (allB_cons (allB_cons (allB_cons (allB_cons (allB_cons (allB_cons (allB_cons (allB_cons (allB_cons allB_nil (p1 dA)) (p1 dA)) ?_) ?_) (p1 dA)) (p1 dA)) ?_) ?_) (p1 dA)) ?_
   ·intro ρ' τ pool rs hl hd hout hk
    obtain ⟨_, e0, rfl⟩ := hd 0 rfl
    obtain ⟨_, e1, rfl⟩ := hd 1 rfl
    refine o_index rfl rfl rfl z_slT23 rfl e0 (hs2.up (hl6.trans hl)) e1 hf8 (fun b9 of10 vsb9 hc11 hrepb9 => ?_)
    exact st_addNil (hk _ _ (Sto.Le.refl _) ⟨b9, of10, _, rfl, hc11, hrepb9⟩)
   ·intro ρ' τ pool rs hl hd hout hk
    obtain ⟨_, e2, b9, of10, vsb9, rfl, hc11, hrepb9⟩ := hd 2 rfl
    have hrepb9 := hrepb9
    obtain rfl := hrepb9
    refine o_loadI (v := .int .u8 q7) rfl rfl rfl z_sc5 e2 (hc11 0 _ rfl) ?_
    exact st_addNil (hk _ _ (Sto.Le.refl _) rfl)
   ·intro ρ' τ pool rs hl hd hout hk
    obtain ⟨_, e4, rfl⟩ := hd 4 rfl
    obtain ⟨_, e5, rfl⟩ := hd 5 rfl
    refine o_index rfl rfl rfl z_slT23 rfl e4 (hs4.up (hl6.trans hl)) e5 hf13 (fun b14 of15 vsb14 hc16 hrepb14 => ?_)
    exact st_addNil (hk _ _ (Sto.Le.refl _) ⟨b14, of15, _, rfl, hc16, hrepb14⟩)
   ·intro ρ' τ pool rs hl hd hout hk
    obtain ⟨_, e6, b14, of15, vsb14, rfl, hc16, hrepb14⟩ := hd 6 rfl
    have hrepb14 := hrepb14
    obtain rfl := hrepb14
    refine o_loadI (v := .int .u8 q12) rfl rfl rfl z_sc5 e6 (hc16 0 _ rfl) ?_
    exact st_addNil (hk _ _ (Sto.Le.refl _) rfl)
   intro ρ' τ17 vals hl17 hv hout
   refine st_ord [] _ rfl ?_
   refine st_env (ρ' := [(25, .bool (!(decide (q7 = q12)))), (0, v1), (1, v3), (4, .bool false), (5, .int .i64 s6)]) ⟨(lv1 hv 8 rfl rfl), (hout 0 rfl).trans rfl, (hout 1 rfl).trans rfl, (hout 4 rfl).trans rfl, (hout 5 rfl).trans rfl, trivial⟩ ?_
   refine st_end ?_
   refine st_if rfl h (fun h => ?_) (fun h => ?_)
   ·refine Z 4 rfl ?_
    obtain rfl := he6 _ h
    replace h := hA6
    obtain rfl := Eq.symm h
    exact st_ret (gs' := []) Tryz.func28 rfl (List.Sublist.refl _) (hl6.trans hl17) ⟨rfl, rfl⟩
   ·refine Z 7 rfl ?_
    exact hn6 _ _ _ _ h ⟨(hl6.trans hl17), rfl, rfl⟩
  ·refine st_exit rfl ?_
   obtain rfl := he6 _ h
   replace h := hA6
   exact hk5 _ _ _ ⟨(), h, hl6, rfl, rfl⟩
theorem ref05_Decode_ok {a0 : List Int} {v1 : Value} {r : List Int × Int} (h : ref05_Decode a0 r) (σ : Sto) (hs2 : Sl (kI .u8) σ v1 a0) :
    Does Tryz.prog 57 [v1] σ [] (fun v τ gs => ∃ (v65 : Value), gs = [] ∧ .tuple [v65, .int .i64 r.2].toArray = v ∧ Sl (kI .u8) τ v65 r.1) := by
 refine call_of Tryz.func57 Tryz.ntmps57 rfl rfl (fun cs fs => ?_)
 refine Z 14 rfl ?_
 refine st_cut (fun ρ τ3 gs => ∃ (s3 : List Int) (v4 : Value) (g5 : Grp), ref05_Decode_j1 a0 s3 r ∧ σ.Le τ3 ∧ ESub ρ [(0, v1), (2, .slice none 0 0), (3, .int .i64 0), (4, v4)] ∧ gs = [g5] ∧ Ow (kI .u8) 5 τ3 v4 s3 g5) ?_ (fun hk3 => ?_)
 ·rintro ρ3 τ3 gs3 ⟨s3, v4, g5, h, hl3, hρ, rfl, ho6⟩
  refine st_es hρ ?_
  refine Z 4 rfl ?_
  obtain ⟨r12, hr13, h⟩ := h
  refine st_freeze (fun τ7 hl8 hg9 => ?_)
  have hs10 := ho6.freeze hl8 hg9
  refine st_call (foot := []) rfl rfl rfl rfl rfl rfl (callV_fn z_en94 (ref05_Encode_ok hr13 τ7 hs10)) ?_
  rintro vτ14 τ14 gsτ14 hl15 ⟨v16, rfl, rfl, hs17⟩
  refine o_move rfl rfl rfl rfl ?_
  obtain ⟨r18, hr19, h⟩ := h
  refine st_call (foot := []) rfl rfl rfl rfl rfl rfl (callV_fn z_en28 (ref01_Same_ok hr19 τ14 hs17 (hs2.up ((hl3.trans hl8).trans hl15)))) ?_
  rintro vτ20 τ20 gsτ20 hl21 ⟨rfl, rfl⟩
  refine Z 2 rfl ?_
  refine st_if rfl h (fun h => ?_) (fun h => ?_)
  ·refine Z 5 rfl ?_
   obtain rfl := Eq.symm h
   exact st_ret (gs' := []) Tryz.func57 rfl (List.Sublist.refl _) (((hl3.trans hl8).trans hl15).trans hl21) ⟨_, rfl, rfl, Sl.nil⟩
  ·refine Z 7 rfl ?_
   obtain rfl := Eq.symm h
   exact st_ret (gs' := []) Tryz.func57 rfl (List.Sublist.refl _) (((hl3.trans hl8).trans hl15).trans hl21) ⟨_, rfl, rfl, (hs10.up (hl15.trans hl21))⟩
 obtain ⟨e22, hL22, hA22⟩ := h
 refine st_addNil ?_
 refine st_loop hL22 (fun (s22 : List Int × Int) ρ τ22 gs => σ.Le τ22 ∧ ∃ (v23 : Value) (g24 : Grp), ESub ρ [(0, v1), (2, .slice none 0 0), (3, .int .i64 0), (4, v23), (5, .int .i64 s22.2)] ∧ gs = [g24] ∧ Ow (kI .u8) 5 τ22 v23 s22.1 g24) ⟨Sto.Le.refl _, _, _, rfl, rfl, Ow.nil⟩ ?_
 rintro s22 o22 h he22 ρ22 τ22 gs22 ⟨hl22, v23, g24, hρ, rfl, ho25⟩ hn22
 refine st_es hρ ?_
 refine Z 5 rfl ?_
 refine o_lenI rfl rfl rfl z_slT23 rfl (hs2.up hl22) ?_
 refine Z 2 rfl ?_
 refine st_if rfl h (fun h => ?_) (fun h => ?_)
 ·refine Z 6 rfl ?_
  obtain ⟨q26, hf27, h⟩ := h
  refine o_index rfl rfl rfl z_slT23 rfl rfl (hs2.up hl22) rfl hf27 (fun b28 of29 vs hc30 hrep => ?_)
  obtain rfl := hrep
  refine o_loadI (v := .int .u8 q26) rfl rfl rfl z_sc5 rfl (hc30 0 _ rfl) ?_
  refine Z 4 rfl ?_
  refine st_cut (fun ρ τ31 gs => ∃ (s31 : List Int) (v32 : Value) (g33 : Grp), ref05_Decode_j3 a0 s22 q26 s31 o22 ∧ τ22.Le τ31 ∧ ESub ρ [(0, v1), (2, .slice none 0 0), (3, .int .i64 0), (4, v32), (5, .int .i64 s22.2), (6, .int .i64 (IntKind.i64.wrap q26))] ∧ gs = [g33] ∧ Ow (kI .u8) 5 τ31 v32 s31 g33) ?_ (fun hk31 => ?_)
  ·rintro ρ31 τ31 gs31 ⟨s31, v32, g33, h, hl31, hρ, rfl, ho34⟩
   refine st_es hρ ?_
   refine Z 13 rfl ?_
   refine st_if rfl h (fun h => ?_) (fun h => ?_)
   ·refine Z 5 rfl ?_
    refine st_ord [] _ rfl ?_
    obtain rfl := he22 _ h
    replace h := hA22
    obtain rfl := Eq.symm h
    exact st_ret (gs' := []) Tryz.func57 rfl (List.Sublist.refl _) (hl22.trans hl31) ⟨_, rfl, rfl, Sl.nil⟩
   ·refine Z 2 rfl ?_
    refine st_cut (fun ρ τ35 gs => ∃ (s35 : Bool), ref05_Decode_j4 s22 q26 s31 s35 o22 ∧ τ31.Le τ35 ∧ ESub ρ [(0, v1), (2, .slice none 0 0), (3, .int .i64 0), (4, v32), (5, .int .i64 (IntKind.i64.wrap (s22.2 + (IntKind.i64.wrap q26)))), (51, .bool s35)] ∧ gs = [g33]) ?_ (fun hk35 => ?_)
    ·rintro ρ35 τ35 gs35 ⟨s35, h, hl35, hρ, rfl⟩
     refine st_es hρ ?_
     refine st_if rfl h (fun h => ?_) (fun h => ?_)
     ·refine Z 2 rfl ?_
      refine o_litE (eI .u8) [0] rfl rfl rfl z_slT23 z_zero5 ⟨rfl, ⟨_, rfl, rfl⟩, trivial⟩ rfl rfl rfl rfl (fun v36 g37 ho38 => ?_)
      obtain ⟨hf42, hf43, h⟩ := h
      refine st_ord [1, 0] _ rfl ?_
      refine o_append (dk := (kI .u8)) (xs := s31) (ys := [0]) rfl rfl rfl rfl z_slT23 rfl (ho34.up hl35) rfl (Ow.src (j := 1) ho38 rfl) hf42 hf43 (fun v39 g40 ho41 => ?_)
      refine Z 3 rfl ?_
      refine st_ord [0] _ rfl ?_
      exact hn22 _ _ _ _ h ⟨((hl22.trans hl31).trans hl35), _, _, rfl, rfl, ho41⟩
     ·refine Z 2 rfl ?_
      exact hn22 _ _ _ _ h ⟨((hl22.trans hl31).trans hl35), _, _, rfl, rfl, (ho34.up hl35)⟩
    refine Z 3 rfl ?_
    refine o_mif rfl rfl rfl rfl h (fun h => ?_) (fun h => ?_)
    ·refine Z 2 rfl ?_
     refine o_lenI rfl rfl rfl z_slT23 rfl (hs2.up (hl22.trans hl31)) ?_
     refine Z 3 rfl ?_
     exact hk35 _ _ _ ⟨(decide ((IntKind.i64.wrap (s22.2 + (IntKind.i64.wrap q26))) < (a0.length : Int))), h, (Sto.Le.refl _), rfl, rfl⟩
    ·refine Z 6 rfl ?_
     exact hk35 _ _ _ ⟨false, h, (Sto.Le.refl _), rfl, rfl⟩
  refine Z 4 rfl ?_
  obtain ⟨e44, hL44, hA44⟩ := h
  refine st_loop hL44 (fun (s44 : List Int × Int) ρ τ44 gs => τ22.Le τ44 ∧ ∃ (v45 : Value) (g46 : Grp), ESub ρ [(0, v1), (2, .slice none 0 0), (3, .int .i64 0), (4, v45), (5, .int .i64 s22.2), (6, .int .i64 (IntKind.i64.wrap q26)), (7, .int .i64 s44.2)] ∧ gs = [g46] ∧ Ow (kI .u8) 5 τ44 v45 s44.1 g46) ⟨Sto.Le.refl _, _, _, rfl, rfl, ho25⟩ ?_
  rintro s44 o44 h he44 ρ44 τ44 gs44 ⟨hl44, v45, g46, hρ, rfl, ho47⟩ hn44
  refine st_es hρ ?_
  refine Z 2 rfl ?_
  refine st_cut (fun ρ τ48 gs => ∃ (s48 : Bool), ref05_Decode_j6 a0 s22 s44 s48 o44 ∧ τ44.Le τ48 ∧ ESub ρ [(0, v1), (2, .slice none 0 0), (3, .int .i64 0), (4, v45), (5, .int .i64 s22.2), (6, .int .i64 (IntKind.i64.wrap q26)), (7, .int .i64 s44.2), (27, .bool s48)] ∧ gs = [g46]) ?_ (fun hk48 => ?_)
  ·rintro ρ48 τ48 gs48 ⟨s48, h, hl48, hρ, rfl⟩
   refine st_es hρ ?_
   refine st_if rfl h (fun h => ?_) (fun h => ?_)
   ·refine Z 9 rfl ?_
    obtain ⟨q49, hf50, h⟩ := h
    refine o_index rfl rfl rfl z_slT23 rfl rfl (hs2.up ((hl22.trans hl44).trans hl48)) rfl hf50 (fun b51 of52 vs hc53 hrep => ?_)
    obtain rfl := hrep
    refine o_loadI (v := .int .u8 q49) rfl rfl rfl z_sc5 rfl (hc53 0 _ rfl) ?_
    refine o_litE (eI .u8) [q49] rfl rfl rfl z_slT23 z_zero5 ⟨rfl, ⟨_, rfl, rfl⟩, trivial⟩ rfl rfl rfl rfl (fun v54 g55 ho56 => ?_)
    obtain ⟨hf60, hf61, h⟩ := h
    refine st_ord [1, 0] _ rfl ?_
    refine o_append (dk := (kI .u8)) (xs := s44.1) (ys := [q49]) rfl rfl rfl rfl z_slT23 rfl (ho47.up hl48) rfl (Ow.src (j := 1) ho56 rfl) hf60 hf61 (fun v57 g58 ho59 => ?_)
    refine Z 8 rfl ?_
    refine st_ord [0] _ rfl ?_
    exact hn44 _ _ _ _ h ⟨(hl44.trans hl48), _, _, rfl, rfl, ho59⟩
   ·refine st_exit rfl ?_
    obtain rfl := he44 _ h
    replace h := hA44
    exact hk31 _ _ _ ⟨s44.1, _, _, h, (hl44.trans hl48), rfl, rfl, (ho47.up hl48)⟩
  refine Z 4 rfl ?_
  refine o_mif rfl rfl rfl rfl h (fun h => ?_) (fun h => ?_)
  ·refine Z 4 rfl ?_
   refine o_lenI rfl rfl rfl z_slT23 rfl (hs2.up (hl22.trans hl44)) ?_
   refine Z 3 rfl ?_
   exact hk48 _ _ _ ⟨(decide ((IntKind.i64.wrap (s22.2 + s44.2)) < (a0.length : Int))), h, (Sto.Le.refl _), rfl, rfl⟩
  ·refine Z 8 rfl ?_
   exact hk48 _ _ _ ⟨false, h, (Sto.Le.refl _), rfl, rfl⟩
 ·refine st_exit rfl ?_
  obtain rfl := he22 _ h
  replace h := hA22
  exact hk3 _ _ _ ⟨s22.1, _, _, h, hl22, rfl, rfl, ho25⟩
theorem ref04_Of_ok {a0 : Int} {r : List Bool} (h : ref04_Of a0 r) (σ : Sto)  :
    Does Tryz.prog 121 [.int .u32 a0] σ [] (fun v τ gs => gs = [] ∧ .agg (cellsN Value.bool false 32 r).toArray = v) := by
 refine call_of Tryz.func121 Tryz.ntmps121 rfl rfl (fun cs fs => ?_)
 refine Z 2 rfl ?_
 refine o_alloc rfl rfl rfl z_zero218 (fun b1 => ?_)
 refine Z 3 rfl ?_
 refine o_alloc rfl rfl rfl z_zero218 (fun b2 => ?_)
 refine Z 2 rfl ?_
 refine st_cut (fun ρ τ3 gs => ∃ (s3 : List Bool), ref04_Of_j1 s3 r ∧ σ.Le τ3 ∧ ESub ρ [(2, .pointer (some ⟨b1, 0, none⟩)), (3, .pointer (some ⟨b2, 0, none⟩))] ∧ gs = [[(b1, .cells (cellsN Value.bool false 32 (List.replicate 32 false)).toArray 218 (0, 0))], [(b2, .cells (cellsN Value.bool false 32 s3).toArray 218 (0, 0))]]) ?_ (fun hk3 => ?_)
 ·rintro ρ3 τ3 gs3 ⟨s3, h, hl3, hρ, rfl⟩
  refine st_es hρ ?_
  refine Z 2 rfl ?_
  refine o_loadN (j := 1) (vs := (cellsN Value.bool false 32 s3)) rfl rfl rfl z_agg218 rfl rfl rfl ?_
  refine o_store (j := 0) (vs := (cellsN Value.bool false 32 s3)) (cs' := (cellsN Value.bool false 32 s3)) rfl rfl rfl z_size218 rfl rfl rfl ones_cellsNB rfl rfl rfl ?_
  refine st_gs [[(b1, .cells (cellsN Value.bool false 32 s3).toArray 218 (0, 0))], [(b2, .cells (cellsN Value.bool false 32 s3).toArray 218 (0, 0))]] rfl ?_
  refine st_end ?_
  obtain rfl := Eq.symm h
  exact st_retC (gs' := []) [.agg (cellsN Value.bool false 32 s3).toArray] Tryz.func121 ⟨⟨_, _, _, _, rfl, mem_flat 0 rfl, fun w hw => cellOfN (vs := (cellsN Value.bool false 32 s3)) z_agg218 rfl w hw⟩, trivial⟩ (by simp) hl3 ⟨rfl, rfl⟩
 refine Z 4 rfl ?_
 obtain ⟨e4, hL4, hA4⟩ := h
 refine st_ord [1, 0] _ rfl ?_
 refine st_loop hL4 (fun (s4 : Int × Int × List Bool) ρ τ4 gs => σ.Le τ4 ∧ ESub ρ [(0, .int .u32 s4.1), (2, .pointer (some ⟨b1, 0, none⟩)), (3, .pointer (some ⟨b2, 0, none⟩)), (4, .int .i64 s4.2.1)] ∧ gs = [[(b1, .cells (cellsN Value.bool false 32 (List.replicate 32 false)).toArray 218 (0, 0))], [(b2, .cells (cellsN Value.bool false 32 s4.2.2).toArray 218 (0, 0))]]) ⟨Sto.Le.refl _, rfl, rfl⟩ ?_
 rintro s4 o4 h he4 ρ4 τ4 gs4 ⟨hl4, hρ, rfl⟩ hn4
 refine st_es hρ ?_
 refine Z 6 rfl ?_
 refine st_if rfl h (fun h => ?_) (fun h => ?_)
 ·refine Z 9 rfl ?_
  obtain ⟨hf5, hf6, h⟩ := h
  refine o_indexA rfl rfl rfl z_arr218 rfl rfl hf5 hf6 ?_
  refine o_storeB (j := 1) (q := s4.2.1.toNat) (f := Value.bool) (zz := false) (a := (decide ((s4.1.tmod 2) = 1))) (l := 32) (xs := s4.2.2) rfl rfl rfl z_size4 rfl rfl rfl rfl rfl (by omega) (by omega) ?_
  refine st_gs [[(b1, .cells (cellsN Value.bool false 32 (List.replicate 32 false)).toArray 218 (0, 0))], [(b2, .cells (cellsN Value.bool false 32 (putN 32 false s4.2.2 s4.2.1.toNat (decide ((s4.1.tmod 2) = 1)))).toArray 218 (0, 0))]] rfl ?_
  refine Z 12 rfl ?_
  exact hn4 _ _ _ _ h ⟨hl4, rfl, rfl⟩
 ·refine st_exit rfl ?_
  obtain rfl := he4 _ h
  replace h := hA4
  exact hk3 _ _ _ ⟨s4.2.2, h, hl4, rfl, rfl⟩
theorem ref04_Xor_ok {a0 : List Bool} {a1 : List Bool} {r : List Bool} (h : ref04_Xor a0 a1 r) (σ : Sto)  :
    Does Tryz.prog 123 [.agg (cellsN Value.bool false 32 a0).toArray, .agg (cellsN Value.bool false 32 a1).toArray] σ [] (fun v τ gs => gs = [] ∧ .agg (cellsN Value.bool false 32 r).toArray = v) := by
 refine call_of Tryz.func123 Tryz.ntmps123 rfl rfl (fun cs fs => ?_)
 refine Z 2 rfl ?_
 refine o_box (cs := (cellsN Value.bool false 32 a0)) rfl rfl rfl rfl rfl (fun b1 => ?_)
 refine o_box (cs := (cellsN Value.bool false 32 a1)) rfl rfl rfl rfl rfl (fun b2 => ?_)
 refine o_alloc rfl rfl rfl z_zero218 (fun b3 => ?_)
 refine Z 2 rfl ?_
 refine st_cut (fun ρ τ4 gs => ∃ (s4 : List Bool), ref04_Xor_j1 s4 r ∧ σ.Le τ4 ∧ ESub ρ [(2, .pointer (some ⟨b1, 0, none⟩)), (4, .pointer (some ⟨b3, 0, none⟩))] ∧ gs = [[(b1, .cells (cellsN Value.bool false 32 s4).toArray 218 (0, 0))], [(b3, .cells (cellsN Value.bool false 32 (List.replicate 32 false)).toArray 218 (0, 0))]]) ?_ (fun hk4 => ?_)
 ·rintro ρ4 τ4 gs4 ⟨s4, h, hl4, hρ, rfl⟩
  refine st_es hρ ?_
  refine Z 2 rfl ?_
  refine o_loadN (j := 0) (vs := (cellsN Value.bool false 32 s4)) rfl rfl rfl z_agg218 rfl rfl rfl ?_
  refine o_store (j := 1) (vs := (cellsN Value.bool false 32 s4)) (cs' := (cellsN Value.bool false 32 s4)) rfl rfl rfl z_size218 rfl rfl rfl ones_cellsNB rfl rfl rfl ?_
  refine st_gs [[(b1, .cells (cellsN Value.bool false 32 s4).toArray 218 (0, 0))], [(b3, .cells (cellsN Value.bool false 32 s4).toArray 218 (0, 0))]] rfl ?_
  refine st_end ?_
  obtain rfl := Eq.symm h
  exact st_retC (gs' := []) [.agg (cellsN Value.bool false 32 s4).toArray] Tryz.func123 ⟨⟨_, _, _, _, rfl, mem_flat 1 rfl, fun w hw => cellOfN (vs := (cellsN Value.bool false 32 s4)) z_agg218 rfl w hw⟩, trivial⟩ (by simp) hl4 ⟨rfl, rfl⟩
 refine Z 4 rfl ?_
 obtain ⟨e5, hL5, hA5⟩ := h
 refine st_ord [2, 1, 0] _ rfl ?_
 refine st_loop hL5 (fun (s5 : Int × List Bool) ρ τ5 gs => σ.Le τ5 ∧ ESub ρ [(2, .pointer (some ⟨b1, 0, none⟩)), (3, .pointer (some ⟨b2, 0, none⟩)), (4, .pointer (some ⟨b3, 0, none⟩)), (5, .int .i64 s5.1)] ∧ gs = [[(b1, .cells (cellsN Value.bool false 32 s5.2).toArray 218 (0, 0))], [(b2, .cells (cellsN Value.bool false 32 a1).toArray 218 (0, 0))], [(b3, .cells (cellsN Value.bool false 32 (List.replicate 32 false)).toArray 218 (0, 0))]]) ⟨Sto.Le.refl _, rfl, rfl⟩ ?_
 rintro s5 o5 h he5 ρ5 τ5 gs5 ⟨hl5, hρ, rfl⟩ hn5
 refine st_es hρ ?_
 refine Z 6 rfl ?_
 refine st_if rfl h (fun h => ?_) (fun h => ?_)
 ·refine Z 3 rfl ?_
  obtain ⟨hf6, hf7, hf8, hf9, h⟩ := h
  refine st_draw 8 (dl [.v (.int .i64 s5.1), .v (.int .i64 s5.1), .v (.pointer (some ⟨b1, 0 + s5.1.toNat * 1, none⟩)), .v (.bool (s5.2.getD s5.1.toNat false)), .v (.int .i64 s5.1), .v (.pointer (some ⟨b2, 0 + s5.1.toNat * 1, none⟩)), .v (.bool (a1.getD s5.1.toNat false)), .v (.bool (!(decide ((s5.2.getD s5.1.toNat false) = (a1.getD s5.1.toNat false)))))]) (fun _ _ => []) z_mix rfl (dl_mono trivial) (allB_cons (allB_cons (allB_cons (allB_cons (allB_cons (allB_cons (allB_cons (allB_cons allB_nil (p1 dA)) (p1 dA)) ?_) ?_) (p1 dA)) ?_) ?_) (p1 dA)) ?_
  ·intro ρ' τ pool rs hl hd hout hk
   obtain ⟨_, e1, rfl⟩ := hd 1 rfl
   refine o_indexA rfl rfl rfl z_arr218 ((hout 2 rfl).trans rfl) e1 hf6 hf7 ?_
   exact st_addNil (hk _ _ (Sto.Le.refl _) rfl)
  ·intro ρ' τ pool rs hl hd hout hk
   obtain ⟨_, e2, rfl⟩ := hd 2 rfl
   refine o_loadB (j := 0) (q := s5.1.toNat) (f := Value.bool) (zz := false) (l := 32) (xs := s5.2) rfl rfl rfl z_sc4 e2 rfl (by omega) (by omega) ?_
   exact st_addNil (hk _ _ (Sto.Le.refl _) rfl)
  ·intro ρ' τ pool rs hl hd hout hk
   obtain ⟨_, e4, rfl⟩ := hd 4 rfl
   refine o_indexA rfl rfl rfl z_arr218 ((hout 3 rfl).trans rfl) e4 hf8 hf9 ?_
   exact st_addNil (hk _ _ (Sto.Le.refl _) rfl)
  ·intro ρ' τ pool rs hl hd hout hk
   obtain ⟨_, e5, rfl⟩ := hd 5 rfl
   refine o_loadB (j := 1) (q := s5.1.toNat) (f := Value.bool) (zz := false) (l := 32) (xs := a1) rfl rfl rfl z_sc4 e5 rfl (by omega) (by omega) ?_
   exact st_addNil (hk _ _ (Sto.Le.refl _) rfl)
  intro ρ' τ10 vals hl10 hv hout
  refine st_ord [0, 0, 0] _ rfl ?_
  refine st_env (ρ' := [(10, .int .i64 s5.1), (17, .bool (!(decide ((s5.2.getD s5.1.toNat false) = (a1.getD s5.1.toNat false))))), (2, .pointer (some ⟨b1, 0, none⟩)), (3, .pointer (some ⟨b2, 0, none⟩)), (4, .pointer (some ⟨b3, 0, none⟩)), (5, .int .i64 s5.1)]) ⟨(lv1 hv 0 rfl rfl), (lv1 hv 7 rfl rfl), (hout 2 rfl).trans rfl, (hout 3 rfl).trans rfl, (hout 4 rfl).trans rfl, (hout 5 rfl).trans rfl, trivial⟩ ?_
  obtain ⟨hf11, hf12, h⟩ := h
  refine o_indexA rfl rfl rfl z_arr218 rfl rfl hf11 hf12 ?_
  refine o_storeB (j := 0) (q := s5.1.toNat) (f := Value.bool) (zz := false) (a := (!(decide ((s5.2.getD s5.1.toNat false) = (a1.getD s5.1.toNat false))))) (l := 32) (xs := s5.2) rfl rfl rfl z_size4 rfl rfl rfl rfl rfl (by omega) (by omega) ?_
  refine st_gs [[(b1, .cells (cellsN Value.bool false 32 (putN 32 false s5.2 s5.1.toNat (!(decide ((s5.2.getD s5.1.toNat false) = (a1.getD s5.1.toNat false)))))).toArray 218 (0, 0))], [(b2, .cells (cellsN Value.bool false 32 a1).toArray 218 (0, 0))], [(b3, .cells (cellsN Value.bool false 32 (List.replicate 32 false)).toArray 218 (0, 0))]] rfl ?_
  refine Z 7 rfl ?_
  exact hn5 _ _ _ _ h ⟨(hl5.trans hl10), rfl, rfl⟩
 ·refine st_exit rfl ?_
  obtain rfl := he5 _ h
  replace h := hA5
  refine st_ord [0, 1] _ rfl ?_
  exact hk4 _ _ _ ⟨s5.2, h, hl5, rfl, rfl⟩
theorem ref04_Shift_ok {a0 : List Bool} {r : List Bool} (h : ref04_Shift a0 r) (σ : Sto)  :
    Does Tryz.prog 122 [.agg (cellsN Value.bool false 32 a0).toArray] σ [] (fun v τ gs => gs = [] ∧ .agg (cellsN Value.bool false 32 r).toArray = v) := by
 refine call_of Tryz.func122 Tryz.ntmps122 rfl rfl (fun cs fs => ?_)
 refine Z 2 rfl ?_
 refine o_box (cs := (cellsN Value.bool false 32 a0)) rfl rfl rfl rfl rfl (fun b1 => ?_)
 refine o_alloc rfl rfl rfl z_zero218 (fun b2 => ?_)
 refine Z 3 rfl ?_
 obtain ⟨r3, hr4, h⟩ := h
 refine st_call (foot := []) rfl rfl rfl rfl rfl rfl (callV_fn z_en121 (ref04_Of_ok hr4 σ)) ?_
 rintro vτ5 τ5 gsτ5 hl6 ⟨rfl, rfl⟩
 refine o_alloc rfl rfl rfl z_zero218 (fun b7 => ?_)
 refine o_store (j := 0) (vs := (cellsN Value.bool false 32 r3)) (cs' := (cellsN Value.bool false 32 r3)) rfl rfl rfl z_size218 rfl rfl rfl ones_cellsNB rfl rfl rfl ?_
 refine st_gs [[(b7, .cells (cellsN Value.bool false 32 r3).toArray 218 (0, 0))], [(b2, .cells (cellsN Value.bool false 32 (List.replicate 32 false)).toArray 218 (0, 0))], [(b1, .cells (cellsN Value.bool false 32 a0).toArray 218 (0, 0))]] rfl ?_
 refine Z 2 rfl ?_
 refine st_cut (fun ρ τ8 gs => ∃ (s8 : List Bool), ref04_Shift_j1 s8 r ∧ τ5.Le τ8 ∧ ESub ρ [(1, .pointer (some ⟨b1, 0, none⟩)), (2, .pointer (some ⟨b2, 0, none⟩))] ∧ gs = [[(b1, .cells (cellsN Value.bool false 32 s8).toArray 218 (0, 0))], [(b2, .cells (cellsN Value.bool false 32 (List.replicate 32 false)).toArray 218 (0, 0))]]) ?_ (fun hk8 => ?_)
 ·rintro ρ8 τ8 gs8 ⟨s8, h, hl8, hρ, rfl⟩
  refine st_es hρ ?_
  refine Z 2 rfl ?_
  refine o_loadN (j := 0) (vs := (cellsN Value.bool false 32 s8)) rfl rfl rfl z_agg218 rfl rfl rfl ?_
  refine o_store (j := 1) (vs := (cellsN Value.bool false 32 s8)) (cs' := (cellsN Value.bool false 32 s8)) rfl rfl rfl z_size218 rfl rfl rfl ones_cellsNB rfl rfl rfl ?_
  refine st_gs [[(b1, .cells (cellsN Value.bool false 32 s8).toArray 218 (0, 0))], [(b2, .cells (cellsN Value.bool false 32 s8).toArray 218 (0, 0))]] rfl ?_
  refine st_end ?_
  obtain rfl := Eq.symm h
  exact st_retC (gs' := []) [.agg (cellsN Value.bool false 32 s8).toArray] Tryz.func122 ⟨⟨_, _, _, _, rfl, mem_flat 1 rfl, fun w hw => cellOfN (vs := (cellsN Value.bool false 32 s8)) z_agg218 rfl w hw⟩, trivial⟩ (by simp) (hl6.trans hl8) ⟨rfl, rfl⟩
 refine Z 4 rfl ?_
 obtain ⟨e9, hL9, hA9⟩ := h
 refine st_ord [2, 1, 0] _ rfl ?_
 refine st_loop hL9 (fun (s9 : Int × List Bool) ρ τ9 gs => τ5.Le τ9 ∧ ESub ρ [(1, .pointer (some ⟨b1, 0, none⟩)), (2, .pointer (some ⟨b2, 0, none⟩)), (3, .pointer (some ⟨b7, 0, none⟩)), (4, .int .i64 s9.1)] ∧ gs = [[(b1, .cells (cellsN Value.bool false 32 s9.2).toArray 218 (0, 0))], [(b2, .cells (cellsN Value.bool false 32 (List.replicate 32 false)).toArray 218 (0, 0))], [(b7, .cells (cellsN Value.bool false 32 r3).toArray 218 (0, 0))]]) ⟨Sto.Le.refl _, rfl, rfl⟩ ?_
 rintro s9 o9 h he9 ρ9 τ9 gs9 ⟨hl9, hρ, rfl⟩ hn9
 refine st_es hρ ?_
 refine Z 6 rfl ?_
 refine st_if rfl h (fun h => ?_) (fun h => ?_)
 ·refine Z 2 rfl ?_
  refine st_cut (fun ρ τ10 gs => ∃ (s10 : List Bool), ref04_Shift_j3 s9 s10 o9 ∧ τ9.Le τ10 ∧ ESub ρ [(1, .pointer (some ⟨b1, 0, none⟩)), (2, .pointer (some ⟨b2, 0, none⟩)), (3, .pointer (some ⟨b7, 0, none⟩)), (4, .int .i64 s9.1)] ∧ gs = [[(b1, .cells (cellsN Value.bool false 32 s10).toArray 218 (0, 0))], [(b2, .cells (cellsN Value.bool false 32 (List.replicate 32 false)).toArray 218 (0, 0))], [(b7, .cells (cellsN Value.bool false 32 r3).toArray 218 (0, 0))]]) ?_ (fun hk10 => ?_)
  ·rintro ρ10 τ10 gs10 ⟨s10, h, hl10, hρ, rfl⟩
   refine st_es hρ ?_
   refine Z 5 rfl ?_
   exact hn9 _ _ _ _ h ⟨(hl9.trans hl10), rfl, rfl⟩
  refine Z 3 rfl ?_
  refine o_indexA rfl rfl rfl z_arr218 rfl rfl (by decide) (by decide) ?_
  refine o_loadB (j := 0) (q := 0) (f := Value.bool) (zz := false) (l := 32) (xs := s9.2) rfl rfl rfl z_sc4 rfl rfl (by omega) (by omega) ?_
  refine Z 3 rfl ?_
  refine st_cut (fun ρ τ11 gs => ∃ (s11 : List Bool), ref04_Shift_j4 r3 s9 s11 o9 ∧ τ9.Le τ11 ∧ ESub ρ [(1, .pointer (some ⟨b1, 0, none⟩)), (2, .pointer (some ⟨b2, 0, none⟩)), (3, .pointer (some ⟨b7, 0, none⟩)), (4, .int .i64 s9.1), (5, .bool (s9.2.getD 0 false))] ∧ gs = [[(b1, .cells (cellsN Value.bool false 32 s11).toArray 218 (0, 0))], [(b2, .cells (cellsN Value.bool false 32 (List.replicate 32 false)).toArray 218 (0, 0))], [(b7, .cells (cellsN Value.bool false 32 r3).toArray 218 (0, 0))]]) ?_ (fun hk11 => ?_)
  ·rintro ρ11 τ11 gs11 ⟨s11, h, hl11, hρ, rfl⟩
   refine st_es hρ ?_
   refine Z 2 rfl ?_
   refine o_indexA rfl rfl rfl z_arr218 rfl rfl (by decide) (by decide) ?_
   refine o_storeB (j := 0) (q := 31) (f := Value.bool) (zz := false) (a := false) (l := 32) (xs := s11) rfl rfl rfl z_size4 rfl rfl rfl rfl rfl (by omega) (by omega) ?_
   refine st_gs [[(b1, .cells (cellsN Value.bool false 32 (putN 32 false s11 31 false)).toArray 218 (0, 0))], [(b2, .cells (cellsN Value.bool false 32 (List.replicate 32 false)).toArray 218 (0, 0))], [(b7, .cells (cellsN Value.bool false 32 r3).toArray 218 (0, 0))]] rfl ?_
   refine Z 5 rfl ?_
   refine st_if rfl h (fun h => ?_) (fun h => ?_)
   ·refine st_region ?_
    refine o_loadN (j := 0) (vs := (cellsN Value.bool false 32 (putN 32 false s11 31 false))) rfl rfl rfl z_agg218 rfl rfl rfl ?_
    refine o_loadN (j := 2) (vs := (cellsN Value.bool false 32 r3)) rfl rfl rfl z_agg218 rfl rfl rfl ?_
    obtain ⟨r12, hr13, h⟩ := h
    refine st_call (foot := []) rfl rfl rfl rfl rfl rfl (callV_fn z_en123 (ref04_Xor_ok hr13 τ11)) ?_
    rintro vτ14 τ14 gsτ14 hl15 ⟨rfl, rfl⟩
    refine o_store (j := 0) (vs := (cellsN Value.bool false 32 r12)) (cs' := (cellsN Value.bool false 32 r12)) rfl rfl rfl z_size218 rfl rfl rfl ones_cellsNB rfl rfl rfl ?_
    refine st_gs [[(b1, .cells (cellsN Value.bool false 32 r12).toArray 218 (0, 0))], [(b2, .cells (cellsN Value.bool false 32 (List.replicate 32 false)).toArray 218 (0, 0))], [(b7, .cells (cellsN Value.bool false 32 r3).toArray 218 (0, 0))]] rfl ?_
    refine Z 2 rfl ?_
    exact hk10 _ _ _ ⟨r12, h, (hl11.trans hl15), rfl, rfl⟩
   ·refine Z 2 rfl ?_
    exact hk10 _ _ _ ⟨(putN 32 false s11 31 false), h, hl11, rfl, rfl⟩
  refine Z 4 rfl ?_
  obtain ⟨e16, hL16, hA16⟩ := h
  refine st_loop hL16 (fun (s16 : Int × List Bool) ρ τ16 gs => τ9.Le τ16 ∧ ESub ρ [(1, .pointer (some ⟨b1, 0, none⟩)), (2, .pointer (some ⟨b2, 0, none⟩)), (3, .pointer (some ⟨b7, 0, none⟩)), (4, .int .i64 s9.1), (5, .bool (s9.2.getD 0 false)), (6, .int .i64 s16.1)] ∧ gs = [[(b1, .cells (cellsN Value.bool false 32 s16.2).toArray 218 (0, 0))], [(b2, .cells (cellsN Value.bool false 32 (List.replicate 32 false)).toArray 218 (0, 0))], [(b7, .cells (cellsN Value.bool false 32 r3).toArray 218 (0, 0))]]) ⟨Sto.Le.refl _, rfl, rfl⟩ ?_
  rintro s16 o16 h he16 ρ16 τ16 gs16 ⟨hl16, hρ, rfl⟩ hn16
  refine st_es hρ ?_
  refine Z 6 rfl ?_
  refine st_if rfl h (fun h => ?_) (fun h => ?_)
  ·refine Z 7 rfl ?_
   obtain ⟨hf17, hf18, h⟩ := h
   refine o_indexA rfl rfl rfl z_arr218 rfl rfl hf17 hf18 ?_
   refine o_loadB (j := 0) (q := (IntKind.i64.wrap (s16.1 + 1)).toNat) (f := Value.bool) (zz := false) (l := 32) (xs := s16.2) rfl rfl rfl z_sc4 rfl rfl (by omega) (by omega) ?_
   obtain ⟨hf19, hf20, h⟩ := h
   refine o_indexA rfl rfl rfl z_arr218 rfl rfl hf19 hf20 ?_
   refine o_storeB (j := 0) (q := s16.1.toNat) (f := Value.bool) (zz := false) (a := (s16.2.getD ((IntKind.i64.wrap (s16.1 + 1)).toNat) false)) (l := 32) (xs := s16.2) rfl rfl rfl z_size4 rfl rfl rfl rfl rfl (by omega) (by omega) ?_
   refine st_gs [[(b1, .cells (cellsN Value.bool false 32 (putN 32 false s16.2 s16.1.toNat (s16.2.getD ((IntKind.i64.wrap (s16.1 + 1)).toNat) false))).toArray 218 (0, 0))], [(b2, .cells (cellsN Value.bool false 32 (List.replicate 32 false)).toArray 218 (0, 0))], [(b7, .cells (cellsN Value.bool false 32 r3).toArray 218 (0, 0))]] rfl ?_
   refine Z 7 rfl ?_
   exact hn16 _ _ _ _ h ⟨hl16, rfl, rfl⟩
  ·refine st_exit rfl ?_
   obtain rfl := he16 _ h
   replace h := hA16
   exact hk11 _ _ _ ⟨s16.2, h, hl16, rfl, rfl⟩
 ·refine st_exit rfl ?_
  obtain rfl := he9 _ h
  replace h := hA9
  refine st_ord [0, 0] _ rfl ?_
  exact hk8 _ _ _ ⟨s9.2, h, hl9, rfl, rfl⟩
theorem ref04_Word_ok {a0 : List Bool} {r : Int} (h : ref04_Word a0 r) (σ : Sto)  :
    Does Tryz.prog 124 [.agg (cellsN Value.bool false 32 a0).toArray] σ [] (fun v τ gs => gs = [] ∧ .int .u32 r = v) := by
 refine call_of Tryz.func124 Tryz.ntmps124 rfl rfl (fun cs fs => ?_)
 refine Z 2 rfl ?_
 refine o_box (cs := (cellsN Value.bool false 32 a0)) rfl rfl rfl rfl rfl (fun b1 => ?_)
 refine Z 7 rfl ?_
 refine st_cut (fun ρ τ2 gs => ∃ (s2 : Int), ref04_Word_j1 s2 r ∧ σ.Le τ2 ∧ ESub ρ [(2, .int .u32 0), (3, .int .u32 s2)] ∧ gs = []) ?_ (fun hk2 => ?_)
 ·rintro ρ2 τ2 gs2 ⟨s2, h, hl2, hρ, rfl⟩
  refine st_es hρ ?_
  refine Z 5 rfl ?_
  obtain rfl := Eq.symm h
  exact st_ret (gs' := []) Tryz.func124 rfl (List.Sublist.refl _) hl2 ⟨rfl, rfl⟩
 refine Z 4 rfl ?_
 obtain ⟨e3, hL3, hA3⟩ := h
 refine st_loop hL3 (fun (s3 : Int × Int) ρ τ3 gs => σ.Le τ3 ∧ ESub ρ [(1, .pointer (some ⟨b1, 0, none⟩)), (2, .int .u32 0), (3, .int .u32 s3.1), (4, .int .i64 s3.2)] ∧ gs = [[(b1, .cells (cellsN Value.bool false 32 a0).toArray 218 (0, 0))]]) ⟨Sto.Le.refl _, rfl, rfl⟩ ?_
 rintro s3 o3 h he3 ρ3 τ3 gs3 ⟨hl3, hρ, rfl⟩ hn3
 refine st_es hρ ?_
 refine Z 6 rfl ?_
 refine st_if rfl h (fun h => ?_) (fun h => ?_)
 ·refine Z 2 rfl ?_
  refine st_cut (fun ρ τ4 gs => ∃ (s4 : Int), ref04_Word_j3 s3 s4 o3 ∧ τ3.Le τ4 ∧ ESub ρ [(1, .pointer (some ⟨b1, 0, none⟩)), (2, .int .u32 0), (3, .int .u32 s4), (4, .int .i64 s3.2)] ∧ gs = [[(b1, .cells (cellsN Value.bool false 32 a0).toArray 218 (0, 0))]]) ?_ (fun hk4 => ?_)
  ·rintro ρ4 τ4 gs4 ⟨s4, h, hl4, hρ, rfl⟩
   refine st_es hρ ?_
   refine Z 5 rfl ?_
   exact hn3 _ _ _ _ h ⟨(hl3.trans hl4), rfl, rfl⟩
  refine Z 10 rfl ?_
  obtain ⟨hf5, hf6, h⟩ := h
  refine o_indexA rfl rfl rfl z_arr218 rfl rfl hf5 hf6 ?_
  refine o_loadB (j := 0) (q := s3.2.toNat) (f := Value.bool) (zz := false) (l := 32) (xs := a0) rfl rfl rfl z_sc4 rfl rfl (by omega) (by omega) ?_
  refine st_end ?_
  refine st_if rfl h (fun h => ?_) (fun h => ?_)
  ·refine Z 6 rfl ?_
   exact hk4 _ _ _ ⟨(IntKind.u32.wrap ((IntKind.u32.wrap (2 * s3.1)) + 1)), h, (Sto.Le.refl _), rfl, rfl⟩
  ·refine Z 2 rfl ?_
   exact hk4 _ _ _ ⟨(IntKind.u32.wrap (2 * s3.1)), h, (Sto.Le.refl _), rfl, rfl⟩
 ·refine st_exit rfl ?_
  obtain rfl := he3 _ h
  replace h := hA3
  refine st_ord [] _ rfl ?_
  exact hk2 _ _ _ ⟨s3.1, h, hl3, rfl, rfl⟩
theorem ref04_Sum_ok {a0 : List Int} {v1 : Value} {r : Int} (h : ref04_Sum a0 r) (σ : Sto) (hs2 : Sl (kI .u8) σ v1 a0) :
    Does Tryz.prog 96 [v1] σ [] (fun v τ gs => gs = [] ∧ .int .u32 r = v) := by
 refine call_of Tryz.func96 Tryz.ntmps96 rfl rfl (fun cs fs => ?_)
 refine Z 6 rfl ?_
 obtain ⟨r3, hr4, h⟩ := h
 refine st_call (foot := []) rfl rfl rfl rfl rfl rfl (callV_fn z_en121 (ref04_Of_ok hr4 σ)) ?_
 rintro vτ5 τ5 gsτ5 hl6 ⟨rfl, rfl⟩
 refine o_alloc rfl rfl rfl z_zero218 (fun b7 => ?_)
 refine o_store (j := 0) (vs := (cellsN Value.bool false 32 r3)) (cs' := (cellsN Value.bool false 32 r3)) rfl rfl rfl z_size218 rfl rfl rfl ones_cellsNB rfl rfl rfl ?_
 refine st_gs [[(b7, .cells (cellsN Value.bool false 32 r3).toArray 218 (0, 0))]] rfl ?_
 refine Z 2 rfl ?_
 refine st_cut (fun ρ τ8 gs => ∃ (s8 : List Bool), ref04_Sum_j1 s8 r ∧ τ5.Le τ8 ∧ ESub ρ [(2, .int .u32 0), (3, .pointer (some ⟨b7, 0, none⟩))] ∧ gs = [[(b7, .cells (cellsN Value.bool false 32 s8).toArray 218 (0, 0))]]) ?_ (fun hk8 => ?_)
 ·rintro ρ8 τ8 gs8 ⟨s8, h, hl8, hρ, rfl⟩
  refine st_es hρ ?_
  refine Z 2 rfl ?_
  refine o_loadN (j := 0) (vs := (cellsN Value.bool false 32 s8)) rfl rfl rfl z_agg218 rfl rfl rfl ?_
  obtain ⟨r9, hr10, h⟩ := h
  refine st_call (foot := []) rfl rfl rfl rfl rfl rfl (callV_fn z_en124 (ref04_Word_ok hr10 τ8)) ?_
  rintro vτ11 τ11 gsτ11 hl12 ⟨rfl, rfl⟩
  refine Z 3 rfl ?_
  refine st_ord [] _ rfl ?_
  obtain rfl := Eq.symm h
  exact st_ret (gs' := []) Tryz.func96 rfl (List.Sublist.refl _) ((hl6.trans hl8).trans hl12) ⟨rfl, rfl⟩
 refine Z 4 rfl ?_
 obtain ⟨e13, hL13, hA13⟩ := h
 refine st_loop hL13 (fun (s13 : Int × List Bool) ρ τ13 gs => τ5.Le τ13 ∧ ESub ρ [(0, v1), (2, .int .u32 0), (3, .pointer (some ⟨b7, 0, none⟩)), (4, .int .i64 s13.1)] ∧ gs = [[(b7, .cells (cellsN Value.bool false 32 s13.2).toArray 218 (0, 0))]]) ⟨Sto.Le.refl _, rfl, rfl⟩ ?_
 rintro s13 o13 h he13 ρ13 τ13 gs13 ⟨hl13, hρ, rfl⟩ hn13
 refine st_es hρ ?_
 refine Z 5 rfl ?_
 refine o_lenI rfl rfl rfl z_slT23 rfl (hs2.up (hl6.trans hl13)) ?_
 refine Z 2 rfl ?_
 refine st_if rfl h (fun h => ?_) (fun h => ?_)
 ·refine Z 3 rfl ?_
  obtain ⟨q14, hf15, r19, hr20, r23, hr24, r27, hr28, h⟩ := h
  refine st_draw 9 (dl [.v (.agg (cellsN Value.bool false 32 s13.2).toArray), .v (v1), .v (.int .i64 s13.1), .t fun τ v => ∃ (b16 : Nat) (of17 : Nat) (vsb16 : List Value), (.pointer (some ⟨b16, of17, none⟩) : Value) = v ∧ CelN τ ⟨b16, of17, none⟩ vsb16 ∧ (kI .u8).rep τ vsb16 q14, .v (.int .u8 q14), .v (.int .u32 (IntKind.u32.wrap q14)), .v (.agg (cellsN Value.bool false 32 r19).toArray), .v (.agg (cellsN Value.bool false 32 r23).toArray), .v (.agg (cellsN Value.bool false 32 r27).toArray)]) (fun _ _ => []) z_mix rfl (dl_mono ⟨fun _ _ _ hl ⟨b16, of17, vsb16, hv, hc18, hrepb16⟩ => ⟨b16, of17, vsb16, hv, hc18.up hl, Kd.mono _ hl hrepb16⟩, trivial⟩) (allB_cons (allB_cons (allB_cons (allB_cons (allB_cons (allB_cons (allB_cons (allB_cons (allB_cons allB_nil ?_) (p1 dA)) (p1 dA)) ?_) ?_) (p1 dA)) ?_) ?_) ?_) ?_
  ·intro ρ' τ pool rs hl hd hout hk
   refine o_loadN (j := 0) (vs := (cellsN Value.bool false 32 s13.2)) rfl rfl rfl z_agg218 ((hout 3 rfl).trans rfl) rfl rfl ?_
   exact st_addNil (hk _ _ (Sto.Le.refl _) rfl)
  ·intro ρ' τ pool rs hl hd hout hk
   obtain ⟨_, e1, rfl⟩ := hd 1 rfl
   obtain ⟨_, e2, rfl⟩ := hd 2 rfl
   refine o_index rfl rfl rfl z_slT23 rfl e1 (hs2.up ((hl6.trans hl13).trans hl)) e2 hf15 (fun b16 of17 vsb16 hc18 hrepb16 => ?_)
   exact st_addNil (hk _ _ (Sto.Le.refl _) ⟨b16, of17, _, rfl, hc18, hrepb16⟩)
  ·intro ρ' τ pool rs hl hd hout hk
   obtain ⟨_, e3, b16, of17, vsb16, rfl, hc18, hrepb16⟩ := hd 3 rfl
   have hrepb16 := hrepb16
   obtain rfl := hrepb16
   refine o_loadI (v := .int .u8 q14) rfl rfl rfl z_sc5 e3 (hc18 0 _ rfl) ?_
   exact st_addNil (hk _ _ (Sto.Le.refl _) rfl)
  ·intro ρ' τ pool rs hl hd hout hk
   obtain ⟨_, e5, rfl⟩ := hd 5 rfl
   refine st_call (foot := []) rfl rfl rfl rfl (evs_cons e5 rfl) rfl (callV_fn z_en121 (ref04_Of_ok hr20 τ)) ?_
   rintro vτ21 τ21 gsτ21 hl22 ⟨rfl, rfl⟩
   exact st_addNil (hk _ _ hl22 rfl)
  ·intro ρ' τ pool rs hl hd hout hk
   obtain ⟨_, e0, rfl⟩ := hd 0 rfl
   obtain ⟨_, e6, rfl⟩ := hd 6 rfl
   refine st_call (foot := []) rfl rfl rfl rfl (evs_cons e0 (evs_cons e6 rfl)) rfl (callV_fn z_en123 (ref04_Xor_ok hr24 τ)) ?_
   rintro vτ25 τ25 gsτ25 hl26 ⟨rfl, rfl⟩
   exact st_addNil (hk _ _ hl26 rfl)
  ·intro ρ' τ pool rs hl hd hout hk
   obtain ⟨_, e7, rfl⟩ := hd 7 rfl
   refine st_call (foot := []) rfl rfl rfl rfl (evs_cons e7 rfl) rfl (callV_fn z_en122 (ref04_Shift_ok hr28 τ)) ?_
   rintro vτ29 τ29 gsτ29 hl30 ⟨rfl, rfl⟩
   exact st_addNil (hk _ _ hl30 rfl)
  intro ρ' τ31 vals hl31 hv hout
  refine st_ord [0] _ rfl ?_
  refine st_env (ρ' := [(20, .agg (cellsN Value.bool false 32 r27).toArray), (0, v1), (2, .int .u32 0), (3, .pointer (some ⟨b7, 0, none⟩)), (4, .int .i64 s13.1)]) ⟨(lv1 hv 8 rfl rfl), (hout 0 rfl).trans rfl, (hout 2 rfl).trans rfl, (hout 3 rfl).trans rfl, (hout 4 rfl).trans rfl, trivial⟩ ?_
  refine o_store (j := 0) (vs := (cellsN Value.bool false 32 r27)) (cs' := (cellsN Value.bool false 32 r27)) rfl rfl rfl z_size218 rfl rfl rfl ones_cellsNB rfl rfl rfl ?_
  refine st_gs [[(b7, .cells (cellsN Value.bool false 32 r27).toArray 218 (0, 0))]] rfl ?_
  refine Z 7 rfl ?_
  exact hn13 _ _ _ _ h ⟨(hl13.trans hl31), rfl, rfl⟩
 ·refine st_exit rfl ?_
  obtain rfl := he13 _ h
  replace h := hA13
  exact hk8 _ _ _ ⟨s13.2, h, hl13, rfl, rfl⟩
theorem ref04_Bytes_ok {a0 : Int} {r : List Int} (h : ref04_Bytes a0 r) (σ : Sto)  :
    Does Tryz.prog 95 [.int .u32 a0] σ [] (fun v τ gs => ∃ (v9 : Value), gs = [] ∧ v9 = v ∧ Sl (kI .u8) τ v9 r) := by
 refine call_of Tryz.func95 Tryz.ntmps95 rfl rfl (fun cs fs => ?_)
 refine Z 20 rfl ?_
 refine o_litE (eI .u8) [(IntKind.u8.wrap (a0.tmod 256)), (IntKind.u8.wrap ((IntKind.u32.wrap (a0.tdiv 256)).tmod 256)), (IntKind.u8.wrap ((IntKind.u32.wrap (a0.tdiv 65536)).tmod 256)), (IntKind.u8.wrap (IntKind.u32.wrap (a0.tdiv 16777216)))] rfl rfl rfl z_slT23 z_zero5 ⟨rfl, ⟨_, rfl, rfl⟩, ⟨rfl, ⟨_, rfl, rfl⟩, ⟨rfl, ⟨_, rfl, rfl⟩, ⟨rfl, ⟨_, rfl, rfl⟩, trivial⟩⟩⟩⟩ rfl rfl rfl rfl (fun v1 g2 ho3 => ?_)
 refine Z 2 rfl ?_
 refine st_freeze (fun τ4 hl5 hg6 => ?_)
 have hs7 := ho3.freeze hl5 hg6
 obtain rfl := Eq.symm h
 exact st_ret (gs' := []) Tryz.func95 rfl (List.Sublist.refl _) hl5 ⟨_, rfl, rfl, hs7⟩
theorem ref04_Open_ok {a0 : List Int} {v1 : Value} {r : List Int × Int} (h : ref04_Open a0 r) (σ : Sto) (hs2 : Sl (kI .u8) σ v1 a0) :
    Does Tryz.prog 58 [v1] σ [] (fun v τ gs => ∃ (v49 : Value), gs = [] ∧ .tuple [v49, .int .i64 r.2].toArray = v ∧ Sl (kI .u8) τ v49 r.1) := by
 refine call_of Tryz.func58 Tryz.ntmps58 rfl rfl (fun cs fs => ?_)
 refine Z 9 rfl ?_
 refine o_lenI rfl rfl rfl z_slT23 rfl hs2 ?_
 refine Z 2 rfl ?_
 refine st_if rfl h (fun h => ?_) (fun h => ?_)
 ·refine Z 5 rfl ?_
  obtain rfl := Eq.symm h
  exact st_ret (gs' := []) Tryz.func58 rfl (List.Sublist.refl _) (Sto.Le.refl _) ⟨_, rfl, rfl, Sl.nil⟩
 ·refine Z 4 rfl ?_
  refine o_lenI rfl rfl rfl z_slT23 rfl hs2 ?_
  refine Z 7 rfl ?_
  obtain ⟨hf3, hf4, h⟩ := h
  refine o_slice (L := 0) (H := (IntKind.i64.wrap ((a0.length : Int) - 4))) rfl rfl rfl z_slT23 rfl rfl hs2 rfl ⟨_, rfl⟩ (by decide) hf3 hf4 trivial (by simp) (fun v5 hs6 => ?_)
  obtain ⟨r7, hr8, h⟩ := h
  refine st_call (foot := []) rfl rfl rfl rfl rfl rfl (callV_fn z_en96 (ref04_Sum_ok hr8 σ hs6)) ?_
  rintro vτ9 τ9 gsτ9 hl10 ⟨rfl, rfl⟩
  obtain ⟨r11, hr12, h⟩ := h
  refine st_call (foot := []) rfl rfl rfl rfl rfl rfl (callV_fn z_en95 (ref04_Bytes_ok hr12 τ9)) ?_
  rintro vτ13 τ13 gsτ13 hl14 ⟨v15, rfl, rfl, hs16⟩
  refine Z 3 rfl ?_
  refine st_cut (fun ρ τ17 gs => ∃ (s17 : Unit), ref04_Open_j1 a0 s17 r ∧ τ13.Le τ17 ∧ ESub ρ [(0, v1), (2, .slice none 0 0), (3, .int .i64 0), (4, .int .i64 (IntKind.i64.wrap ((a0.length : Int) - 4)))] ∧ gs = []) ?_ (fun hk17 => ?_)
  ·rintro ρ17 τ17 gs17 ⟨s17, h, hl17, hρ, rfl⟩
   refine st_es hρ ?_
   refine Z 2 rfl ?_
   refine o_lit (dk := (kI .u8)) (xs := ([] : List Int)) (ps := []) (cs := []) rfl rfl rfl z_slT23 z_zero5 trivial rfl rfl rfl rfl Kd.Many.nil (fun v18 g19 ho20 => ?_)
   refine Z 2 rfl ?_
   obtain ⟨hf21, hf22, h⟩ := h
   refine o_slice (L := 0) (H := (IntKind.i64.wrap ((a0.length : Int) - 4))) rfl rfl rfl z_slT23 rfl rfl (hs2.up ((hl10.trans hl14).trans hl17)) rfl ⟨_, rfl⟩ (by decide) hf21 hf22 trivial (by simp) (fun v23 hs24 => ?_)
   obtain ⟨hf28, hf29, h⟩ := h
   refine o_append (dk := (kI .u8)) (xs := ([] : List Int)) (ys := ((a0.drop (0 : Int).toNat).take (((IntKind.i64.wrap ((a0.length : Int) - 4)) : Int) - 0).toNat)) rfl rfl rfl rfl z_slT23 rfl ho20 rfl (Sl.src hs24) hf28 hf29 (fun v25 g26 ho27 => ?_)
   refine Z 3 rfl ?_
   refine st_freeze (fun τ30 hl31 hg32 => ?_)
   have hs33 := ho27.freeze hl31 hg32
   obtain rfl := Eq.symm h
   exact st_ret (gs' := []) Tryz.func58 rfl (List.Sublist.refl _) (((hl10.trans hl14).trans hl17).trans hl31) ⟨_, rfl, rfl, hs33⟩
  refine Z 4 rfl ?_
  obtain ⟨e35, hL35, hA35⟩ := h
  refine st_loop hL35 (fun (s35 : Int) ρ τ35 gs => τ13.Le τ35 ∧ ESub ρ [(0, v1), (2, .slice none 0 0), (3, .int .i64 0), (4, .int .i64 (IntKind.i64.wrap ((a0.length : Int) - 4))), (5, v15), (6, .int .i64 s35)] ∧ gs = []) ⟨Sto.Le.refl _, rfl, rfl⟩ ?_
  rintro s35 o35 h he35 ρ35 τ35 gs35 ⟨hl35, hρ, rfl⟩ hn35
  refine st_es hρ ?_
  refine Z 6 rfl ?_
  refine st_if rfl h (fun h => ?_) (fun h => ?_)
  ·refine Z 4 rfl ?_
   obtain ⟨q36, hf37, q41, hf42, h⟩ := h
   refine st_draw 11 (dl [.v (v15), .v (.int .i64 s35), .t fun τ v => ∃ (b38 : Nat) (of39 : Nat) (vsb38 : List Value), (.pointer (some ⟨b38, of39, none⟩) : Value) = v ∧ CelN τ ⟨b38, of39, none⟩ vsb38 ∧ (kI .u8).rep τ vsb38 q36, .v (.int .u8 q36), .v (v1), .v (.int .i64 (IntKind.i64.wrap ((a0.length : Int) - 4))), .v (.int .i64 s35), .v (.int .i64 (IntKind.i64.wrap ((IntKind.i64.wrap ((a0.length : Int) - 4)) + s35))), .t fun τ v => ∃ (b43 : Nat) (of44 : Nat) (vsb43 : List Value), (.pointer (some ⟨b43, of44, none⟩) : Value) = v ∧ CelN τ ⟨b43, of44, none⟩ vsb43 ∧ (kI .u8).rep τ vsb43 q41, .v (.int .u8 q41), .v (.bool (!(decide (q36 = q41))))]) (fun _ _ => []) z_mix rfl (dl_mono ⟨fun _ _ _ hl ⟨b38, of39, vsb38, hv, hc40, hrepb38⟩ => ⟨b38, of39, vsb38, hv, hc40.up hl, Kd.mono _ hl hrepb38⟩, ⟨fun _ _ _ hl ⟨b43, of44, vsb43, hv, hc45, hrepb43⟩ => ⟨b43, of44, vsb43, hv, hc45.up hl, Kd.mono _ hl hrepb43⟩, trivial⟩⟩) (allB_cons (allB_cons (allB_cons (allB_cons (allB_cons (allB_cons (allB_cons (allB_cons (allB_cons (allB_cons (allB_cons allB_nil (p1 dA)) (p1 dA)) ?_) ?_) (p1 dA)) (p1 dA)) (p1 dA)) (p1 dA)) ?_) ?_) (p1 dA)) ?_
   ·intro ρ' τ pool rs hl hd hout hk
    obtain ⟨_, e0, rfl⟩ := hd 0 rfl
    obtain ⟨_, e1, rfl⟩ := hd 1 rfl
    refine o_index rfl rfl rfl z_slT23 rfl e0 (hs16.up (hl35.trans hl)) e1 hf37 (fun b38 of39 vsb38 hc40 hrepb38 => ?_)
    exact st_addNil (hk _ _ (Sto.Le.refl _) ⟨b38, of39, _, rfl, hc40, hrepb38⟩)
   ·intro ρ' τ pool rs hl hd hout hk
    obtain ⟨_, e2, b38, of39, vsb38, rfl, hc40, hrepb38⟩ := hd 2 rfl
    have hrepb38 := hrepb38
    obtain rfl := hrepb38
    refine o_loadI (v := .int .u8 q36) rfl rfl rfl z_sc5 e2 (hc40 0 _ rfl) ?_
    exact st_addNil (hk _ _ (Sto.Le.refl _) rfl)
   ·intro ρ' τ pool rs hl hd hout hk
    obtain ⟨_, e4, rfl⟩ := hd 4 rfl
    obtain ⟨_, e7, rfl⟩ := hd 7 rfl
    refine o_index rfl rfl rfl z_slT23 rfl e4 (hs2.up (((hl10.trans hl14).trans hl35).trans hl)) e7 hf42 (fun b43 of44 vsb43 hc45 hrepb43 => ?_)
    exact st_addNil (hk _ _ (Sto.Le.refl _) ⟨b43, of44, _, rfl, hc45, hrepb43⟩)
   ·intro ρ' τ pool rs hl hd hout hk
    obtain ⟨_, e8, b43, of44, vsb43, rfl, hc45, hrepb43⟩ := hd 8 rfl
    have hrepb43 := hrepb43
    obtain rfl := hrepb43
    refine o_loadI (v := .int .u8 q41) rfl rfl rfl z_sc5 e8 (hc45 0 _ rfl) ?_
    exact st_addNil (hk _ _ (Sto.Le.refl _) rfl)
   intro ρ' τ46 vals hl46 hv hout
   refine st_ord [] _ rfl ?_
   refine st_env (ρ' := [(32, .bool (!(decide (q36 = q41)))), (0, v1), (2, .slice none 0 0), (3, .int .i64 0), (4, .int .i64 (IntKind.i64.wrap ((a0.length : Int) - 4))), (5, v15), (6, .int .i64 s35)]) ⟨(lv1 hv 10 rfl rfl), (hout 0 rfl).trans rfl, (hout 2 rfl).trans rfl, (hout 3 rfl).trans rfl, (hout 4 rfl).trans rfl, (hout 5 rfl).trans rfl, (hout 6 rfl).trans rfl, trivial⟩ ?_
   refine st_end ?_
   refine st_if rfl h (fun h => ?_) (fun h => ?_)
   ·refine Z 5 rfl ?_
    obtain rfl := he35 _ h
    replace h := hA35
    obtain rfl := Eq.symm h
    exact st_ret (gs' := []) Tryz.func58 rfl (List.Sublist.refl _) (((hl10.trans hl14).trans hl35).trans hl46) ⟨_, rfl, rfl, Sl.nil⟩
   ·refine Z 7 rfl ?_
    exact hn35 _ _ _ _ h ⟨(hl35.trans hl46), rfl, rfl⟩
  ·refine st_exit rfl ?_
   obtain rfl := he35 _ h
   replace h := hA35
   exact hk17 _ _ _ ⟨(), h, hl35, rfl, rfl⟩
theorem ref07_Check_ok {a0 : Int × Int × Int × Int × Int} {r : Int} (h : ref07_Check a0 r) (σ : Sto)  :
    Does Tryz.prog 97 [.agg [.int .i64 a0.1, .int .i64 a0.2.1, .int .u32 a0.2.2.1, .int .i64 a0.2.2.2.1, .int .i64 a0.2.2.2.2].toArray] σ [] (fun v τ gs => gs = [] ∧ .int .i64 r = v) := by
 refine call_of Tryz.func97 Tryz.ntmps97 rfl rfl (fun cs fs => ?_)
 refine Z 2 rfl ?_
 refine o_boxC rfl rfl rfl rfl rfl rfl (fun b1 => ?_)
 refine Z 4 rfl ?_
 refine st_cut (fun ρ τ2 gs => ∃ (s2 : Bool), ref07_Check_j1 a0 s2 r ∧ σ.Le τ2 ∧ ESub ρ [(1, .pointer (some ⟨b1, 0, none⟩)), (2, .int .i64 0), (10, .bool s2)] ∧ gs = [[(b1, .cells #[.int .i64 a0.1, .int .i64 a0.2.1, .int .u32 a0.2.2.1, .int .i64 a0.2.2.2.1, .int .i64 a0.2.2.2.2] 76 (0, 0))]]) ?_ (fun hk2 => ?_)
 ·rintro ρ2 τ2 gs2 ⟨s2, h, hl2, hρ, rfl⟩
  refine st_es hρ ?_
  refine st_if rfl h (fun h => ?_) (fun h => ?_)
  ·refine Z 4 rfl ?_
   refine st_ord [] _ rfl ?_
   obtain rfl := Eq.symm h
   exact st_ret (gs' := []) Tryz.func97 rfl (List.Sublist.refl _) hl2 ⟨rfl, rfl⟩
  ·refine Z 3 rfl ?_
   refine st_cut (fun ρ τ3 gs => ∃ (s3 : Bool), ref07_Check_j2 a0 s3 r ∧ τ2.Le τ3 ∧ ESub ρ [(1, .pointer (some ⟨b1, 0, none⟩)), (2, .int .i64 0), (18, .bool s3)] ∧ gs = [[(b1, .cells #[.int .i64 a0.1, .int .i64 a0.2.1, .int .u32 a0.2.2.1, .int .i64 a0.2.2.2.1, .int .i64 a0.2.2.2.2] 76 (0, 0))]]) ?_ (fun hk3 => ?_)
   ·rintro ρ3 τ3 gs3 ⟨s3, h, hl3, hρ, rfl⟩
    refine st_es hρ ?_
    refine st_if rfl h (fun h => ?_) (fun h => ?_)
    ·refine Z 4 rfl ?_
     refine st_ord [] _ rfl ?_
     obtain rfl := Eq.symm h
     exact st_ret (gs' := []) Tryz.func97 rfl (List.Sublist.refl _) (hl2.trans hl3) ⟨rfl, rfl⟩
    ·refine Z 3 rfl ?_
     refine st_cut (fun ρ τ4 gs => ∃ (s4 : Bool), ref07_Check_j3 s4 r ∧ τ3.Le τ4 ∧ ESub ρ [(2, .int .i64 0), (38, .bool s4)] ∧ gs = []) ?_ (fun hk4 => ?_)
     ·rintro ρ4 τ4 gs4 ⟨s4, h, hl4, hρ, rfl⟩
      refine st_es hρ ?_
      refine st_if rfl h (fun h => ?_) (fun h => ?_)
      ·refine Z 4 rfl ?_
       obtain rfl := Eq.symm h
       exact st_ret (gs' := []) Tryz.func97 rfl (List.Sublist.refl _) ((hl2.trans hl3).trans hl4) ⟨rfl, rfl⟩
      ·refine Z 5 rfl ?_
       obtain rfl := Eq.symm h
       exact st_ret (gs' := []) Tryz.func97 rfl (List.Sublist.refl _) ((hl2.trans hl3).trans hl4) ⟨rfl, rfl⟩
     refine ZZ 4 [0] rfl rfl ?_
     refine o_mif rfl rfl rfl rfl h (fun h => ?_) (fun h => ?_)
     ·refine Z 17 rfl ?_
      refine st_ord [] _ rfl ?_
      exact hk4 _ _ _ ⟨true, h, (Sto.Le.refl _), rfl, rfl⟩
     ·refine ZZ 4 [0] rfl rfl ?_
      refine o_mif rfl rfl rfl rfl h (fun h => ?_) (fun h => ?_)
      ·refine Z 12 rfl ?_
       refine st_ord [] _ rfl ?_
       exact hk4 _ _ _ ⟨true, h, (Sto.Le.refl _), rfl, rfl⟩
      ·refine ZZ 4 [0] rfl rfl ?_
       refine o_mif rfl rfl rfl rfl h (fun h => ?_) (fun h => ?_)
       ·refine Z 7 rfl ?_
        refine st_ord [] _ rfl ?_
        exact hk4 _ _ _ ⟨true, h, (Sto.Le.refl _), rfl, rfl⟩
       ·refine ZZ 7 [0, 0] rfl rfl ?_
        refine st_ord [] _ rfl ?_
        exact hk4 _ _ _ ⟨(decide (a0.2.2.2.2 ≤ a0.2.2.2.1)), h, (Sto.Le.refl _), rfl, rfl⟩
   refine ZZ 4 [0] rfl rfl ?_
   refine o_mif rfl rfl rfl rfl h (fun h => ?_) (fun h => ?_)
   ·refine Z 5 rfl ?_
    exact hk3 _ _ _ ⟨true, h, (Sto.Le.refl _), rfl, rfl⟩
   ·refine ZZ 5 [0] rfl rfl ?_
    exact hk3 _ _ _ ⟨(decide (5 < a0.2.1)), h, (Sto.Le.refl _), rfl, rfl⟩
 refine ZZ 4 [0] rfl rfl ?_
 refine o_mif rfl rfl rfl rfl h (fun h => ?_) (fun h => ?_)
 ·refine ZZ 5 [0] rfl rfl ?_
  exact hk2 _ _ _ ⟨(!(decide (a0.1 = 2))), h, (Sto.Le.refl _), rfl, rfl⟩
 ·refine Z 5 rfl ?_
  exact hk2 _ _ _ ⟨false, h, (Sto.Le.refl _), rfl, rfl⟩
theorem ref07_Parse_ok {a0 : List Int} {v1 : Value} {r : (Int × Int × Int × Int × Int) × Int} (h : ref07_Parse a0 r) (σ : Sto) (hs2 : Sl (kI .u8) σ v1 a0) :
    Does Tryz.prog 59 [v1] σ [] (fun v τ gs => gs = [] ∧ .tuple [.agg [.int .i64 r.1.1, .int .i64 r.1.2.1, .int .u32 r.1.2.2.1, .int .i64 r.1.2.2.2.1, .int .i64 r.1.2.2.2.2].toArray, .int .i64 r.2].toArray = v) := by
 refine call_of Tryz.func59 Tryz.ntmps59 rfl rfl (fun cs fs => ?_)
 refine Z 2 rfl ?_
 refine o_alloc rfl rfl rfl z_zero76 (fun b3 => ?_)
 refine Z 6 rfl ?_
 refine o_lenI rfl rfl rfl z_slT23 rfl hs2 ?_
 refine Z 2 rfl ?_
 refine st_if rfl h (fun h => ?_) (fun h => ?_)
 ·refine ZZ 6 [0] rfl rfl ?_
  obtain rfl := Eq.symm h
  exact st_retC (gs' := []) [.agg #[.int .i64 0, .int .i64 0, .int .u32 0, .int .i64 0, .int .i64 0], .int .i64 13] Tryz.func59 ⟨⟨_, _, _, _, rfl, mem_flat 0 rfl, fun w hw => cellOfN (vs := [.int .i64 0, .int .i64 0, .int .u32 0, .int .i64 0, .int .i64 0]) z_agg76 rfl w hw⟩, rfl, trivial⟩ (by simp) (Sto.Le.refl _) ⟨rfl, rfl⟩
 ·refine Z 5 rfl ?_
  refine o_lenI rfl rfl rfl z_slT23 rfl hs2 ?_
  refine Z 2 rfl ?_
  refine st_if rfl h (fun h => ?_) (fun h => ?_)
  ·refine ZZ 6 [0] rfl rfl ?_
   obtain rfl := Eq.symm h
   exact st_retC (gs' := []) [.agg #[.int .i64 0, .int .i64 0, .int .u32 0, .int .i64 0, .int .i64 0], .int .i64 3] Tryz.func59 ⟨⟨_, _, _, _, rfl, mem_flat 0 rfl, fun w hw => cellOfN (vs := [.int .i64 0, .int .i64 0, .int .u32 0, .int .i64 0, .int .i64 0]) z_agg76 rfl w hw⟩, rfl, trivial⟩ (by simp) (Sto.Le.refl _) ⟨rfl, rfl⟩
  ·refine Z 6 rfl ?_
   refine st_cut (fun ρ τ4 gs => ∃ (s4 : Int), ref07_Parse_j1 a0 s4 r ∧ σ.Le τ4 ∧ ESub ρ [(0, v1), (2, .pointer (some ⟨b3, 0, none⟩)), (3, .int .i64 0), (4, .int .u32 s4)] ∧ gs = [[(b3, .cells #[.int .i64 0, .int .i64 0, .int .u32 0, .int .i64 0, .int .i64 0] 76 (0, 0))]]) ?_ (fun hk4 => ?_)
   ·rintro ρ4 τ4 gs4 ⟨s4, h, hl4, hρ, rfl⟩
    refine st_es hρ ?_
    refine st_seq ?_
    obtain ⟨q5, hf6, q10, hf11, q15, hf16, q20, hf21, h⟩ := h
    refine st_draw 19 (dl [.v (v1), .t fun τ v => ∃ (b7 : Nat) (of8 : Nat) (vsb7 : List Value), (.pointer (some ⟨b7, of8, none⟩) : Value) = v ∧ CelN τ ⟨b7, of8, none⟩ vsb7 ∧ (kI .u8).rep τ vsb7 q5, .v (.int .u8 q5), .v (.int .i64 (IntKind.i64.wrap q5)), .v (v1), .t fun τ v => ∃ (b12 : Nat) (of13 : Nat) (vsb12 : List Value), (.pointer (some ⟨b12, of13, none⟩) : Value) = v ∧ CelN τ ⟨b12, of13, none⟩ vsb12 ∧ (kI .u8).rep τ vsb12 q10, .v (.int .u8 q10), .v (.int .i64 (IntKind.i64.wrap q10)), .v (.int .u32 s4), .v (v1), .t fun τ v => ∃ (b17 : Nat) (of18 : Nat) (vsb17 : List Value), (.pointer (some ⟨b17, of18, none⟩) : Value) = v ∧ CelN τ ⟨b17, of18, none⟩ vsb17 ∧ (kI .u8).rep τ vsb17 q15, .v (.int .u8 q15), .v (.int .i64 (IntKind.i64.wrap q15)), .v (v1), .t fun τ v => ∃ (b22 : Nat) (of23 : Nat) (vsb22 : List Value), (.pointer (some ⟨b22, of23, none⟩) : Value) = v ∧ CelN τ ⟨b22, of23, none⟩ vsb22 ∧ (kI .u8).rep τ vsb22 q20, .v (.int .u8 q20), .v (.int .i64 (IntKind.i64.wrap q20)), .v (.agg #[.int .i64 (IntKind.i64.wrap q5), .int .i64 (IntKind.i64.wrap q10), .int .u32 s4, .int .i64 (IntKind.i64.wrap q15), .int .i64 (IntKind.i64.wrap q20)]), .t fun τ v => ∃ (b25 : Nat), (.pointer (some ⟨b25, 0, none⟩) : Value) = v]) (oneG 18 (.cells #[.int .i64 0, .int .i64 0, .int .u32 0, .int .i64 0, .int .i64 0] 76 (0, 0))) z_mix rfl (dl_mono ⟨fun _ _ _ hl ⟨b7, of8, vsb7, hv, hc9, hrepb7⟩ => ⟨b7, of8, vsb7, hv, hc9.up hl, Kd.mono _ hl hrepb7⟩, ⟨fun _ _ _ hl ⟨b12, of13, vsb12, hv, hc14, hrepb12⟩ => ⟨b12, of13, vsb12, hv, hc14.up hl, Kd.mono _ hl hrepb12⟩, ⟨fun _ _ _ hl ⟨b17, of18, vsb17, hv, hc19, hrepb17⟩ => ⟨b17, of18, vsb17, hv, hc19.up hl, Kd.mono _ hl hrepb17⟩, ⟨fun _ _ _ hl ⟨b22, of23, vsb22, hv, hc24, hrepb22⟩ => ⟨b22, of23, vsb22, hv, hc24.up hl, Kd.mono _ hl hrepb22⟩, ⟨fun _ _ _ hl ⟨b25, hv⟩ => ⟨b25, hv⟩, trivial⟩⟩⟩⟩⟩) (allB_cons (allB_cons (allB_cons (allB_cons (allB_cons (allB_cons (allB_cons (allB_cons (allB_cons (allB_cons (allB_cons (allB_cons (allB_cons (allB_cons (allB_cons (allB_cons (allB_cons (allB_cons (allB_cons allB_nil (p1o dA)) ?_) ?_) (p1o dA)) (p1o dA)) ?_) ?_) (p1o dA)) (p1o dA)) (p1o dA)) ?_) ?_) (p1o dA)) (p1o dA)) ?_) ?_) (p1o dA)) ?_) ?_) ?_
    ·intro ρ' τ pool rs hl hd hout hk
     obtain ⟨_, e0, rfl⟩ := hd 0 rfl
     refine o_index rfl rfl rfl z_slT23 rfl e0 (hs2.up (hl4.trans hl)) rfl hf6 (fun b7 of8 vsb7 hc9 hrepb7 => ?_)
     exact st_addNil (hk _ _ (Sto.Le.refl _) ⟨b7, of8, _, rfl, hc9, hrepb7⟩)
    ·intro ρ' τ pool rs hl hd hout hk
     obtain ⟨_, e1, b7, of8, vsb7, rfl, hc9, hrepb7⟩ := hd 1 rfl
     have hrepb7 := hrepb7
     obtain rfl := hrepb7
     refine o_loadI (v := .int .u8 q5) rfl rfl rfl z_sc5 e1 (hc9 0 _ rfl) ?_
     exact st_addNil (hk _ _ (Sto.Le.refl _) rfl)
    ·intro ρ' τ pool rs hl hd hout hk
     obtain ⟨_, e4, rfl⟩ := hd 4 rfl
     refine o_index rfl rfl rfl z_slT23 rfl e4 (hs2.up (hl4.trans hl)) rfl hf11 (fun b12 of13 vsb12 hc14 hrepb12 => ?_)
     exact st_addNil (hk _ _ (Sto.Le.refl _) ⟨b12, of13, _, rfl, hc14, hrepb12⟩)
    ·intro ρ' τ pool rs hl hd hout hk
     obtain ⟨_, e5, b12, of13, vsb12, rfl, hc14, hrepb12⟩ := hd 5 rfl
     have hrepb12 := hrepb12
     obtain rfl := hrepb12
     refine o_loadI (v := .int .u8 q10) rfl rfl rfl z_sc5 e5 (hc14 0 _ rfl) ?_
     exact st_addNil (hk _ _ (Sto.Le.refl _) rfl)
    ·intro ρ' τ pool rs hl hd hout hk
     obtain ⟨_, e9, rfl⟩ := hd 9 rfl
     refine o_index rfl rfl rfl z_slT23 rfl e9 (hs2.up (hl4.trans hl)) rfl hf16 (fun b17 of18 vsb17 hc19 hrepb17 => ?_)
     exact st_addNil (hk _ _ (Sto.Le.refl _) ⟨b17, of18, _, rfl, hc19, hrepb17⟩)
    ·intro ρ' τ pool rs hl hd hout hk
     obtain ⟨_, e10, b17, of18, vsb17, rfl, hc19, hrepb17⟩ := hd 10 rfl
     have hrepb17 := hrepb17
     obtain rfl := hrepb17
     refine o_loadI (v := .int .u8 q15) rfl rfl rfl z_sc5 e10 (hc19 0 _ rfl) ?_
     exact st_addNil (hk _ _ (Sto.Le.refl _) rfl)
    ·intro ρ' τ pool rs hl hd hout hk
     obtain ⟨_, e13, rfl⟩ := hd 13 rfl
     refine o_index rfl rfl rfl z_slT23 rfl e13 (hs2.up (hl4.trans hl)) rfl hf21 (fun b22 of23 vsb22 hc24 hrepb22 => ?_)
     exact st_addNil (hk _ _ (Sto.Le.refl _) ⟨b22, of23, _, rfl, hc24, hrepb22⟩)
    ·intro ρ' τ pool rs hl hd hout hk
     obtain ⟨_, e14, b22, of23, vsb22, rfl, hc24, hrepb22⟩ := hd 14 rfl
     have hrepb22 := hrepb22
     obtain rfl := hrepb22
     refine o_loadI (v := .int .u8 q20) rfl rfl rfl z_sc5 e14 (hc24 0 _ rfl) ?_
     exact st_addNil (hk _ _ (Sto.Le.refl _) rfl)
    ·intro ρ' τ pool rs hl hd hout hk
     obtain ⟨_, e3, rfl⟩ := hd 3 rfl
     obtain ⟨_, e7, rfl⟩ := hd 7 rfl
     obtain ⟨_, e8, rfl⟩ := hd 8 rfl
     obtain ⟨_, e12, rfl⟩ := hd 12 rfl
     obtain ⟨_, e16, rfl⟩ := hd 16 rfl
     refine o_build (ps := [(0, [.int .i64 (IntKind.i64.wrap q5)]), (1, [.int .i64 (IntKind.i64.wrap q10)]), (2, [.int .u32 s4]), (3, [.int .i64 (IntKind.i64.wrap q15)]), (4, [.int .i64 (IntKind.i64.wrap q20)])]) (cs := [.int .i64 (IntKind.i64.wrap q5), .int .i64 (IntKind.i64.wrap q10), .int .u32 s4, .int .i64 (IntKind.i64.wrap q15), .int .i64 (IntKind.i64.wrap q20)]) rfl rfl rfl z_struct76 ⟨rfl, ⟨_, e3, rfl⟩, ⟨rfl, ⟨_, e7, rfl⟩, ⟨rfl, ⟨_, e8, rfl⟩, ⟨rfl, ⟨_, e12, rfl⟩, ⟨rfl, ⟨_, e16, rfl⟩, trivial⟩⟩⟩⟩⟩ rfl ?_
     exact st_addNil (hk _ _ (Sto.Le.refl _) rfl)
    ·intro ρ' τ pool rs hl hd hout hk
     refine o_alloc rfl rfl rfl z_zero76 (fun b25 => ?_)
     exact hk _ _ (Sto.Le.refl _) ⟨b25, rfl⟩
    intro ρ' τ26 vals hl26 hv hout
    obtain ⟨l18, b25, t18⟩ := hv 18 (by decide)
    replace l18 : Eng.look ρ' 6 = some (.pointer (some ⟨b25, 0, none⟩)) := l18.trans (congrArg some (Eq.symm t18))
    refine st_gs [[(b3, .cells #[.int .i64 0, .int .i64 0, .int .u32 0, .int .i64 0, .int .i64 0] 76 (0, 0))], [(b25, .cells #[.int .i64 0, .int .i64 0, .int .u32 0, .int .i64 0, .int .i64 0] 76 (0, 0))]] (by rw [oneG_flat (by decide) (Eq.symm t18)]; rfl) ?_
    refine st_env (ρ' := [(44, .agg #[.int .i64 (IntKind.i64.wrap q5), .int .i64 (IntKind.i64.wrap q10), .int .u32 s4, .int .i64 (IntKind.i64.wrap q15), .int .i64 (IntKind.i64.wrap q20)]), (6, .pointer (some ⟨b25, 0, none⟩)), (2, .pointer (some ⟨b3, 0, none⟩)), (3, .int .i64 0)]) ⟨(lv1 hv 17 rfl rfl), l18, (hout 2 rfl).trans rfl, (hout 3 rfl).trans rfl, trivial⟩ ?_
    refine ZZ 6 [1, 1] rfl rfl ?_
    obtain ⟨r27, hr28, h⟩ := h
    refine st_call (foot := []) rfl rfl rfl rfl rfl rfl (callV_fn z_en97 (ref07_Check_ok hr28 τ26)) ?_
    rintro vτ29 τ29 gsτ29 hl30 ⟨rfl, rfl⟩
    refine Z 2 rfl ?_
    refine st_if rfl h (fun h => ?_) (fun h => ?_)
    ·refine ZZ 4 [1] rfl rfl ?_
     obtain ⟨r31, hr32, h⟩ := h
     refine st_call (foot := []) rfl rfl rfl rfl rfl rfl (callV_fn z_en97 (ref07_Check_ok hr32 τ29)) ?_
     rintro vτ33 τ33 gsτ33 hl34 ⟨rfl, rfl⟩
     refine ZZ 3 [0] rfl rfl ?_
     obtain rfl := Eq.symm h
     exact st_retC (gs' := []) [.agg #[.int .i64 0, .int .i64 0, .int .u32 0, .int .i64 0, .int .i64 0], .int .i64 r31] Tryz.func59 ⟨⟨_, _, _, _, rfl, mem_flat 0 rfl, fun w hw => cellOfN (vs := [.int .i64 0, .int .i64 0, .int .u32 0, .int .i64 0, .int .i64 0]) z_agg76 rfl w hw⟩, rfl, trivial⟩ (by simp) (((hl4.trans hl26).trans hl30).trans hl34) ⟨rfl, rfl⟩
    ·refine ZZ 7 [1, 0] rfl rfl ?_
     obtain rfl := Eq.symm h
     exact st_retC (gs' := []) [.agg #[.int .i64 (IntKind.i64.wrap q5), .int .i64 (IntKind.i64.wrap q10), .int .u32 s4, .int .i64 (IntKind.i64.wrap q15), .int .i64 (IntKind.i64.wrap q20)], .int .i64 0] Tryz.func59 ⟨⟨_, _, _, _, rfl, mem_flat 0 rfl, fun w hw => cellOfN (vs := [.int .i64 (IntKind.i64.wrap q5), .int .i64 (IntKind.i64.wrap q10), .int .u32 s4, .int .i64 (IntKind.i64.wrap q15), .int .i64 (IntKind.i64.wrap q20)]) z_agg76 rfl w hw⟩, rfl, trivial⟩ (by simp) ((hl4.trans hl26).trans hl30) ⟨rfl, rfl⟩
   refine Z 4 rfl ?_
   obtain ⟨e35, hL35, hA35⟩ := h
   refine st_loop hL35 (fun (s35 : Int × Int) ρ τ35 gs => σ.Le τ35 ∧ ESub ρ [(0, v1), (2, .pointer (some ⟨b3, 0, none⟩)), (3, .int .i64 0), (4, .int .u32 s35.1), (5, .int .i64 s35.2)] ∧ gs = [[(b3, .cells #[.int .i64 0, .int .i64 0, .int .u32 0, .int .i64 0, .int .i64 0] 76 (0, 0))]]) ⟨Sto.Le.refl _, rfl, rfl⟩ ?_
   rintro s35 o35 h he35 ρ35 τ35 gs35 ⟨hl35, hρ, rfl⟩ hn35
   refine st_es hρ ?_
   refine Z 6 rfl ?_
   refine st_if rfl h (fun h => ?_) (fun h => ?_)
   ·refine Z 8 rfl ?_
    obtain ⟨q36, hf37, h⟩ := h
    refine o_index rfl rfl rfl z_slT23 rfl rfl (hs2.up hl35) rfl hf37 (fun b38 of39 vs hc40 hrep => ?_)
    obtain rfl := hrep
    refine o_loadI (v := .int .u8 q36) rfl rfl rfl z_sc5 rfl (hc40 0 _ rfl) ?_
    refine Z 10 rfl ?_
    exact hn35 _ _ _ _ h ⟨hl35, rfl, rfl⟩
   ·refine st_exit rfl ?_
    obtain rfl := he35 _ h
    replace h := hA35
    exact hk4 _ _ _ ⟨s35.1, h, hl35, rfl, rfl⟩
theorem ref08_Unpack_ok {a0 : List Int} {v1 : Value} {r : ((Int × Int × Int × Int × Int) × List Int) × Int} (h : ref08_Unpack a0 r) (σ : Sto) (hs2 : Sl (kI .u8) σ v1 a0) :
    Does Tryz.prog 27 [v1] σ [] (fun v τ gs => ∃ (v51 : Value), gs = [] ∧ .tuple [.agg [.int .i64 r.1.1.1, .int .i64 r.1.1.2.1, .int .u32 r.1.1.2.2.1, .int .i64 r.1.1.2.2.2.1, .int .i64 r.1.1.2.2.2.2, v51].toArray, .int .i64 r.2].toArray = v ∧ Sl (kI .u8) τ v51 r.1.2) := by
 refine call_of Tryz.func27 Tryz.ntmps27 rfl rfl (fun cs fs => ?_)
 refine Z 2 rfl ?_
 refine o_alloc rfl rfl rfl z_zero78 (fun b3 => ?_)
 refine Z 6 rfl ?_
 refine o_lenI rfl rfl rfl z_slT23 rfl hs2 ?_
 refine Z 2 rfl ?_
 refine st_if rfl h (fun h => ?_) (fun h => ?_)
 ·refine ZZ 6 [0] rfl rfl ?_
  obtain rfl := Eq.symm h
  exact st_retC (gs' := []) [.agg #[.int .i64 0, .int .i64 0, .int .u32 0, .int .i64 0, .int .i64 0, .slice none 0 0], .int .i64 2] Tryz.func27 ⟨⟨_, _, _, _, rfl, mem_flat 0 rfl, fun w hw => cellOfN (vs := [.int .i64 0, .int .i64 0, .int .u32 0, .int .i64 0, .int .i64 0, .slice none 0 0]) z_agg78 rfl w hw⟩, rfl, trivial⟩ (by simp) (Sto.Le.refl _) ⟨_, rfl, rfl, Sl.nil⟩
 ·refine Z 4 rfl ?_
  obtain ⟨r4, hr5, h⟩ := h
  refine st_call (foot := []) rfl rfl rfl rfl rfl rfl (callV_fn z_en57 (ref05_Decode_ok hr5 σ hs2)) ?_
  rintro vτ6 τ6 gsτ6 hl7 ⟨v8, rfl, rfl, hs9⟩
  refine Z 12 rfl ?_
  refine st_if rfl h (fun h => ?_) (fun h => ?_)
  ·refine ZZ 7 [0] rfl rfl ?_
   obtain rfl := Eq.symm h
   exact st_retC (gs' := []) [.agg #[.int .i64 0, .int .i64 0, .int .u32 0, .int .i64 0, .int .i64 0, .slice none 0 0], .int .i64 r4.2] Tryz.func27 ⟨⟨_, _, _, _, rfl, mem_flat 0 rfl, fun w hw => cellOfN (vs := [.int .i64 0, .int .i64 0, .int .u32 0, .int .i64 0, .int .i64 0, .slice none 0 0]) z_agg78 rfl w hw⟩, rfl, trivial⟩ (by simp) hl7 ⟨_, rfl, rfl, Sl.nil⟩
  ·refine Z 5 rfl ?_
   refine o_lenI rfl rfl rfl z_slT23 rfl hs9 ?_
   refine Z 2 rfl ?_
   refine st_if rfl h (fun h => ?_) (fun h => ?_)
   ·refine ZZ 6 [0] rfl rfl ?_
    obtain rfl := Eq.symm h
    exact st_retC (gs' := []) [.agg #[.int .i64 0, .int .i64 0, .int .u32 0, .int .i64 0, .int .i64 0, .slice none 0 0], .int .i64 13] Tryz.func27 ⟨⟨_, _, _, _, rfl, mem_flat 0 rfl, fun w hw => cellOfN (vs := [.int .i64 0, .int .i64 0, .int .u32 0, .int .i64 0, .int .i64 0, .slice none 0 0]) z_agg78 rfl w hw⟩, rfl, trivial⟩ (by simp) hl7 ⟨_, rfl, rfl, Sl.nil⟩
   ·refine Z 4 rfl ?_
    obtain ⟨r10, hr11, h⟩ := h
    refine st_call (foot := []) rfl rfl rfl rfl rfl rfl (callV_fn z_en58 (ref04_Open_ok hr11 τ6 hs9)) ?_
    rintro vτ12 τ12 gsτ12 hl13 ⟨v14, rfl, rfl, hs15⟩
    refine Z 12 rfl ?_
    refine st_if rfl h (fun h => ?_) (fun h => ?_)
    ·refine ZZ 7 [0] rfl rfl ?_
     obtain rfl := Eq.symm h
     exact st_retC (gs' := []) [.agg #[.int .i64 0, .int .i64 0, .int .u32 0, .int .i64 0, .int .i64 0, .slice none 0 0], .int .i64 r10.2] Tryz.func27 ⟨⟨_, _, _, _, rfl, mem_flat 0 rfl, fun w hw => cellOfN (vs := [.int .i64 0, .int .i64 0, .int .u32 0, .int .i64 0, .int .i64 0, .slice none 0 0]) z_agg78 rfl w hw⟩, rfl, trivial⟩ (by simp) (hl7.trans hl13) ⟨_, rfl, rfl, Sl.nil⟩
    ·refine Z 4 rfl ?_
     obtain ⟨hf16, h⟩ := h
     refine o_slice (L := 0) (H := 8) rfl rfl rfl z_slT23 rfl rfl hs15 rfl ⟨_, rfl⟩ (by decide) (by decide) hf16 trivial (by simp) (fun v17 hs18 => ?_)
     obtain ⟨r19, hr20, h⟩ := h
     refine st_call (foot := []) rfl rfl rfl rfl rfl rfl (callV_fn z_en59 (ref07_Parse_ok hr20 τ12 hs18)) ?_
     rintro vτ21 τ21 gsτ21 hl22 ⟨rfl, rfl⟩
     refine Z 3 rfl ?_
     refine o_alloc rfl rfl rfl z_zero76 (fun b23 => ?_)
     refine ZZ 9 [0] rfl rfl ?_
     refine st_if rfl h (fun h => ?_) (fun h => ?_)
     ·refine ZZ 7 [1] rfl rfl ?_
      obtain rfl := Eq.symm h
      exact st_retC (gs' := []) [.agg #[.int .i64 0, .int .i64 0, .int .u32 0, .int .i64 0, .int .i64 0, .slice none 0 0], .int .i64 r19.2] Tryz.func27 ⟨⟨_, _, _, _, rfl, mem_flat 1 rfl, fun w hw => cellOfN (vs := [.int .i64 0, .int .i64 0, .int .u32 0, .int .i64 0, .int .i64 0, .slice none 0 0]) z_agg78 rfl w hw⟩, rfl, trivial⟩ (by simp) ((hl7.trans hl13).trans hl22) ⟨_, rfl, rfl, Sl.nil⟩
     ·refine Z 2 rfl ?_
      obtain ⟨hf30, hf31, hf37, hf38, h⟩ := h
      refine st_d41 [[(b23, .cells #[.int .i64 r19.1.1, .int .i64 r19.1.2.1, .int .u32 r19.1.2.2.1, .int .i64 r19.1.2.2.2.1, .int .i64 r19.1.2.2.2.2] 76 (0, 0))], [(b3, .cells #[.int .i64 0, .int .i64 0, .int .u32 0, .int .i64 0, .int .i64 0, .slice none 0 0] 78 (0, 0))]] [] 6 3 [none, some (0, 0), none, none, some (0, 1), some (0, 2)] [none, none, none, none, none, none] [[none, some 44, some 47, some 48]] [.v (.agg #[.int .i64 r19.1.1, .int .i64 r19.1.2.1, .int .u32 r19.1.2.2.1, .int .i64 r19.1.2.2.2.1, .int .i64 r19.1.2.2.2.2]), .t fun _ _ => True, .v (v14), .t fun τ v => ∃ (v32 : Value), (v32 : Value) = v ∧ Sl (kI .u8) τ v32 ((r10.1.drop (8 : Int).toNat).take (((r10.1.length : Int) : Int) - 8).toNat), .t fun _ _ => True, .t fun _ _ => True] [[fun τ u F => F = [], fun τ u F => ∃ (v27 : Value) (g28 : Grp), F = [g28] ∧ v27 = u ∧ Ow (kI .u8) 5 τ v27 ([] : List Int) g28, fun τ u F => ∃ (v39 : Value) (g40 : Grp), F = [g40] ∧ v39 = u ∧ Ow (kI .u8) 5 τ v39 (([] : List Int) ++ ((r10.1.drop (8 : Int).toNat).take (((r10.1.length : Int) : Int) - 8).toNat)) g40, fun τ u F => ∃ (v42 : Value) (g43 : Grp), F = [g43] ∧ .agg #[.int .i64 r19.1.1, .int .i64 r19.1.2.1, .int .u32 r19.1.2.2.1, .int .i64 r19.1.2.2.2.1, .int .i64 r19.1.2.2.2.2, v42] = u ∧ Ow (kI .u8) 5 τ v42 (([] : List Int) ++ ((r10.1.drop (8 : Int).toNat).take (((r10.1.length : Int) : Int) - 8).toNat)) g43]] rfl z_mix rfl ⟨fun _ _ _ _ _ => trivial, ⟨fun _ _ _ hl ⟨v32, hv, hs33⟩ => ⟨v32, hv, hs33.up hl⟩, ⟨fun _ _ _ _ _ => trivial, ⟨fun _ _ _ _ _ => trivial, trivial⟩⟩⟩⟩ ⟨⟨fun _ _ _ _ hl h => h, ⟨fun _ _ _ _ hl h => (let ⟨v27, g28, hF, hU, ho29⟩ := h; ⟨v27, g28, hF, hU, ho29.up hl⟩), ⟨fun _ _ _ _ hl h => (let ⟨v39, g40, hF, hU, ho41⟩ := h; ⟨v39, g40, hF, hU, ho41.up hl⟩), ⟨fun _ _ _ _ hl h => (let ⟨v42, g43, hF, hU, ho44⟩ := h; ⟨v42, g43, hF, hU, ho44.up hl⟩), trivial⟩⟩⟩⟩, trivial⟩ rfl rfl ?_ (allB_cons (allB_cons (allB_cons (allB_cons (allB_cons (allB_cons allB_nil ?_) ?_) (p4 dA)) ?_) ?_) ?_) ?_
      ·exact rfl
      ·intro ρ' τ pool rs hl hd hout hw hk
       refine o_loadN (j := 0) (vs := [.int .i64 r19.1.1, .int .i64 r19.1.2.1, .int .u32 r19.1.2.2.1, .int .i64 r19.1.2.2.2.1, .int .i64 r19.1.2.2.2.2]) rfl rfl rfl z_agg76 ((hout 6 rfl).trans rfl) rfl rfl ?_
       exact hk _ _ (Sto.Le.refl _) rfl
      ·intro ρ' τ u Fv pool rs hl hI hu hd hout hw hk
       have hI0 := hI
       obtain rfl := hI
       refine st_gs [[(b23, .cells #[.int .i64 r19.1.1, .int .i64 r19.1.2.1, .int .u32 r19.1.2.2.1, .int .i64 r19.1.2.2.2.1, .int .i64 r19.1.2.2.2.2] 76 (0, 0))], [(b3, .cells #[.int .i64 0, .int .i64 0, .int .u32 0, .int .i64 0, .int .i64 0, .slice none 0 0] 78 (0, 0))], pool] rfl ?_
       refine o_lit (dk := (kI .u8)) (xs := ([] : List Int)) (ps := []) (cs := []) rfl rfl rfl z_slT23 z_zero5 trivial rfl rfl rfl rfl Kd.Many.nil (fun v24 g25 ho26 => ?_)
       refine st_ord [1, 1, 0, 0] _ rfl ?_
       exact hk _ _ [g25] (Sto.Le.refl _) trivial (by exact ⟨v24, g25, rfl, rfl, ho26⟩)
      ·intro ρ' τ pool rs hl hd hout hw hk
       obtain ⟨_, e2, rfl⟩ := hd 2 rfl _ rfl
       refine o_slice (L := 8) (H := (r10.1.length : Int)) rfl rfl rfl z_slT23 rfl e2 (hs15.up (hl22.trans hl)) ⟨_, rfl⟩ rfl (by decide) hf30 hf31 trivial (by simp) (fun v32 hs33 => ?_)
       exact hk _ _ (Sto.Le.refl _) ⟨v32, rfl, hs33⟩
      ·intro ρ' τ u Fv pool rs hl hI hu hd hout hw hk
       obtain ⟨_, e3, v32, rfl, hs33⟩ := hd 3 rfl _ rfl
       obtain ⟨v27, g28, rfl, rfl, ho29⟩ := hI
       refine st_gs [[(b23, .cells #[.int .i64 r19.1.1, .int .i64 r19.1.2.1, .int .u32 r19.1.2.2.1, .int .i64 r19.1.2.2.2.1, .int .i64 r19.1.2.2.2.2] 76 (0, 0))], [(b3, .cells #[.int .i64 0, .int .i64 0, .int .u32 0, .int .i64 0, .int .i64 0, .slice none 0 0] 78 (0, 0))], g28, pool] rfl ?_
       refine st_ord [2, 0, 0, 0] _ rfl ?_
       refine o_append (dk := (kI .u8)) (xs := ([] : List Int)) (ys := ((r10.1.drop (8 : Int).toNat).take (((r10.1.length : Int) : Int) - 8).toNat)) rfl rfl rfl rfl z_slT23 (hu (by decide) _ rfl) ho29 e3 (Sl.src hs33) hf37 hf38 (fun v34 g35 ho36 => ?_)
       refine st_ord [1, 1, 0, 0] _ rfl ?_
       exact hk _ _ [g35] (Sto.Le.refl _) trivial (by exact ⟨v34, g35, rfl, rfl, ho36⟩)
      ·intro ρ' τ u Fv pool rs hl hI hu hd hout hw hk
       obtain ⟨_, e0, rfl⟩ := hd 0 rfl _ rfl
       obtain ⟨v39, g40, rfl, rfl, ho41⟩ := hI
       refine st_gs [[(b23, .cells #[.int .i64 r19.1.1, .int .i64 r19.1.2.1, .int .u32 r19.1.2.2.1, .int .i64 r19.1.2.2.2.1, .int .i64 r19.1.2.2.2.2] 76 (0, 0))], [(b3, .cells #[.int .i64 0, .int .i64 0, .int .u32 0, .int .i64 0, .int .i64 0, .slice none 0 0] 78 (0, 0))], g40, pool] rfl ?_
       refine o_build (ps := [(0, [.int .i64 r19.1.1, .int .i64 r19.1.2.1, .int .u32 r19.1.2.2.1, .int .i64 r19.1.2.2.2.1, .int .i64 r19.1.2.2.2.2]), (1, [v39])]) (cs := [.int .i64 r19.1.1, .int .i64 r19.1.2.1, .int .u32 r19.1.2.2.1, .int .i64 r19.1.2.2.2.1, .int .i64 r19.1.2.2.2.2, v39]) rfl rfl rfl z_struct78 ⟨rfl, ⟨_, e0, rfl⟩, ⟨rfl, ⟨_, (hu (by decide) _ rfl), (oneL_ow ho41)⟩, trivial⟩⟩ rfl ?_
       exact hk _ _ [g40] (Sto.Le.refl _) trivial (by exact ⟨v39, g40, rfl, rfl, ho41⟩)
      intro ρ' τ45 vals u Fv hl45 hI hu hv hout
      obtain ⟨v42, g43, rfl, rfl, ho44⟩ := hI
      refine st_gs [[(b23, .cells #[.int .i64 r19.1.1, .int .i64 r19.1.2.1, .int .u32 r19.1.2.2.1, .int .i64 r19.1.2.2.2.1, .int .i64 r19.1.2.2.2.2] 76 (0, 0))], [(b3, .cells #[.int .i64 0, .int .i64 0, .int .u32 0, .int .i64 0, .int .i64 0, .slice none 0 0] 78 (0, 0))], g43] rfl ?_
      refine st_env (ρ' := [(2, .pointer (some ⟨b3, 0, none⟩)), (3, .int .i64 0), (48, .agg #[.int .i64 r19.1.1, .int .i64 r19.1.2.1, .int .u32 r19.1.2.2.1, .int .i64 r19.1.2.2.2.1, .int .i64 r19.1.2.2.2.2, v42])]) ⟨(hout 2 rfl).trans rfl, (hout 3 rfl).trans rfl, (by exact hu _ rfl), trivial⟩ ?_
      refine o_store (j := 1) (vs := [.int .i64 r19.1.1, .int .i64 r19.1.2.1, .int .u32 r19.1.2.2.1, .int .i64 r19.1.2.2.2.1, .int .i64 r19.1.2.2.2.2, v42]) (cs' := [.int .i64 r19.1.1, .int .i64 r19.1.2.1, .int .u32 r19.1.2.2.1, .int .i64 r19.1.2.2.2.1, .int .i64 r19.1.2.2.2.2, v42]) rfl rfl rfl z_size78 rfl rfl rfl (ones_cons rfl (ones_cons rfl (ones_cons rfl (ones_cons rfl (ones_cons rfl (ones_cons ho44.one' ones_nil)))))) rfl rfl rfl ?_
      refine st_gs [[(b23, .cells #[.int .i64 r19.1.1, .int .i64 r19.1.2.1, .int .u32 r19.1.2.2.1, .int .i64 r19.1.2.2.2.1, .int .i64 r19.1.2.2.2.2] 76 (0, 0))], [(b3, .cells #[.int .i64 r19.1.1, .int .i64 r19.1.2.1, .int .u32 r19.1.2.2.1, .int .i64 r19.1.2.2.2.1, .int .i64 r19.1.2.2.2.2, v42] 78 (0, 0))], g43] rfl ?_
      refine Z 2 rfl ?_
      refine st_ord [2, 0, 0] _ rfl ?_
      refine st_freeze (fun τ46 hl47 hg48 => ?_)
      have hs49 := ho44.freeze hl47 hg48
      obtain rfl := Eq.symm h
      exact st_retC (gs' := []) [.agg #[.int .i64 r19.1.1, .int .i64 r19.1.2.1, .int .u32 r19.1.2.2.1, .int .i64 r19.1.2.2.2.1, .int .i64 r19.1.2.2.2.2, v42], .int .i64 0] Tryz.func27 ⟨⟨_, _, _, _, rfl, mem_flat 1 rfl, fun w hw => cellOfN (vs := [.int .i64 r19.1.1, .int .i64 r19.1.2.1, .int .u32 r19.1.2.2.1, .int .i64 r19.1.2.2.2.1, .int .i64 r19.1.2.2.2.2, v42]) z_agg78 rfl w hw⟩, rfl, trivial⟩ (by simp) ((((hl7.trans hl13).trans hl22).trans hl45).trans hl47) ⟨_, rfl, rfl, hs49⟩
theorem ref26_Forged_ok {a0 : List (List Int)} {a1 : List Int} {v1 : Value} {v3 : Value} {r : List Int} (h : ref26_Forged a0 a1 r) (σ : Sto) (hs2 : Sl (kSl (kI .u8)) σ v1 a0) (hs4 : Sl (kI .u8) σ v3 a1) :
    Does Tryz.prog 9 [v1, v3] σ [] (fun v τ gs => ∃ (v107 : Value), gs = [] ∧ v107 = v ∧ Sl (kI .i64) τ v107 r) := by
 refine call_of Tryz.func9 Tryz.ntmps9 rfl rfl (fun cs fs => ?_)
 refine Z 7 rfl ?_
 obtain ⟨r5, hr6, h⟩ := h
 refine st_call (foot := []) rfl rfl rfl rfl rfl rfl (callV_fn z_en26 (ref06_Split_ok hr6 σ hs4)) ?_
 rintro vτ7 τ7 gsτ7 hl8 ⟨v9, v11, v13, rfl, rfl, hs10, hs12, hs14⟩
 refine Z 13 rfl ?_
 refine st_cut (fun ρ τ15 gs => ∃ (s15 : List Int) (v16 : Value) (g17 : Grp), ref26_Forged_j1 s15 r ∧ τ7.Le τ15 ∧ ESub ρ [(4, .slice none 0 0), (8, v16)] ∧ gs = [g17] ∧ Ow (kI .i64) 3 τ15 v16 s15 g17) ?_ (fun hk15 => ?_)
 ·rintro ρ15 τ15 gs15 ⟨s15, v16, g17, h, hl15, hρ, rfl, ho18⟩
  refine st_es hρ ?_
  refine Z 5 rfl ?_
  refine st_freeze (fun τ19 hl20 hg21 => ?_)
  have hs22 := ho18.freeze hl20 hg21
  obtain rfl := Eq.symm h
  exact st_ret (gs' := []) Tryz.func9 rfl (List.Sublist.refl _) ((hl8.trans hl15).trans hl20) ⟨_, rfl, rfl, hs22⟩
 refine Z 4 rfl ?_
 obtain ⟨e25, hL25, hA25⟩ := h
 refine st_addNil ?_
 refine st_loop hL25 (fun (s25 : List Int × Int) ρ τ25 gs => τ7.Le τ25 ∧ ∃ (v26 : Value) (g27 : Grp), ESub ρ [(0, v1), (4, .slice none 0 0), (5, v9), (6, v11), (8, v26), (9, .int .i64 s25.2)] ∧ gs = [g27] ∧ Ow (kI .i64) 3 τ25 v26 s25.1 g27) ⟨Sto.Le.refl _, _, _, rfl, rfl, Ow.nil⟩ ?_
 rintro s25 o25 h he25 ρ25 τ25 gs25 ⟨hl25, v26, g27, hρ, rfl, ho28⟩ hn25
 refine st_es hρ ?_
 refine Z 5 rfl ?_
 refine o_lenI rfl rfl rfl z_slT22 rfl (hs10.up hl25) ?_
 refine Z 2 rfl ?_
 refine st_if rfl h (fun h => ?_) (fun h => ?_)
 ·refine Z 2 rfl ?_
  refine st_cut (fun ρ τ29 gs => ∃ (s29 : List Int) (v30 : Value) (g31 : Grp), ref26_Forged_j3 s25 s29 o25 ∧ τ25.Le τ29 ∧ ESub ρ [(0, v1), (4, .slice none 0 0), (5, v9), (6, v11), (8, v30), (9, .int .i64 s25.2)] ∧ gs = [g31] ∧ Ow (kI .i64) 3 τ29 v30 s29 g31) ?_ (fun hk29 => ?_)
  ·rintro ρ29 τ29 gs29 ⟨s29, v30, g31, h, hl29, hρ, rfl, ho32⟩
   refine st_es hρ ?_
   refine Z 5 rfl ?_
   exact hn25 _ _ _ _ h ⟨(hl25.trans hl29), _, _, rfl, rfl, ho32⟩
  refine Z 5 rfl ?_
  obtain ⟨q33, hf34, h⟩ := h
  refine o_index rfl rfl rfl z_slT22 rfl rfl (hs10.up hl25) rfl hf34 (fun b35 of36 vs hc38 hrep => ?_)
  obtain ⟨v37, rfl, hs39⟩ := hrep
  refine o_loadI (v := v37) rfl rfl rfl z_sc23 rfl (hc38 0 _ rfl) ?_
  obtain ⟨r40, hr41, h⟩ := h
  refine st_call (foot := []) rfl rfl rfl rfl rfl rfl (callV_fn z_en27 (ref08_Unpack_ok hr41 τ25 hs39)) ?_
  rintro vτ42 τ42 gsτ42 hl43 ⟨v44, rfl, rfl, hs45⟩
  refine Z 3 rfl ?_
  refine o_alloc rfl rfl rfl z_zero78 (fun b46 => ?_)
  refine o_store (j := 0) (vs := [.int .i64 r40.1.1.1, .int .i64 r40.1.1.2.1, .int .u32 r40.1.1.2.2.1, .int .i64 r40.1.1.2.2.2.1, .int .i64 r40.1.1.2.2.2.2, v44]) (cs' := [.int .i64 r40.1.1.1, .int .i64 r40.1.1.2.1, .int .u32 r40.1.1.2.2.1, .int .i64 r40.1.1.2.2.2.1, .int .i64 r40.1.1.2.2.2.2, v44]) rfl rfl rfl z_size78 rfl rfl rfl (ones_cons rfl (ones_cons rfl (ones_cons rfl (ones_cons rfl (ones_cons rfl (ones_cons hs45.one' ones_nil)))))) rfl rfl rfl ?_
  refine st_gs [[(b46, .cells #[.int .i64 r40.1.1.1, .int .i64 r40.1.1.2.1, .int .u32 r40.1.1.2.2.1, .int .i64 r40.1.1.2.2.2.1, .int .i64 r40.1.1.2.2.2.2, v44] 78 (0, 0))], g27] rfl ?_
  refine Z 9 rfl ?_
  refine st_cut (fun ρ τ47 gs => ∃ (s47 : Bool), ref26_Forged_j4 r5 s25 s47 o25 ∧ τ42.Le τ47 ∧ ESub ρ [(0, v1), (4, .slice none 0 0), (5, v9), (6, v11), (8, v26), (9, .int .i64 s25.2), (12, .bool s47)] ∧ gs = [g27]) ?_ (fun hk47 => ?_)
  ·rintro ρ47 τ47 gs47 ⟨s47, h, hl47, hρ, rfl⟩
   refine st_es hρ ?_
   refine Z 5 rfl ?_
   refine st_if rfl h (fun h => ?_) (fun h => ?_)
   ·refine Z 4 rfl ?_
    obtain ⟨q48, hf49, h⟩ := h
    refine o_index rfl rfl rfl z_slT27 rfl rfl (hs12.up ((hl25.trans hl43).trans hl47)) rfl hf49 (fun b50 of51 vs hc52 hrep => ?_)
    obtain rfl := hrep
    refine o_loadI (v := .int .i64 q48) rfl rfl rfl z_sc3 rfl (hc52 0 _ rfl) ?_
    refine o_litE (eI .i64) [q48] rfl rfl rfl z_slT27 z_zero3 ⟨rfl, ⟨_, rfl, rfl⟩, trivial⟩ rfl rfl rfl rfl (fun v53 g54 ho55 => ?_)
    obtain ⟨hf59, hf60, h⟩ := h
    refine st_ord [1, 0] _ rfl ?_
    refine o_append (dk := (kI .i64)) (xs := s25.1) (ys := [q48]) rfl rfl rfl rfl z_slT27 rfl (ho28.up (hl43.trans hl47)) rfl (Ow.src (j := 1) ho55 rfl) hf59 hf60 (fun v56 g57 ho58 => ?_)
    refine Z 3 rfl ?_
    refine st_ord [0] _ rfl ?_
    exact hk29 _ _ _ ⟨(s25.1 ++ [q48]), _, _, h, (hl43.trans hl47), rfl, rfl, ho58⟩
   ·refine Z 2 rfl ?_
    exact hk29 _ _ _ ⟨s25.1, _, _, h, (hl43.trans hl47), rfl, rfl, (ho28.up (hl43.trans hl47))⟩
  refine Z 4 rfl ?_
  obtain ⟨e61, hL61, hA61⟩ := h
  refine st_ord [1] _ rfl ?_
  refine st_loop hL61 (fun (s61 : Bool × Int) ρ τ61 gs => τ42.Le τ61 ∧ ESub ρ [(0, v1), (4, .slice none 0 0), (5, v9), (6, v11), (8, v26), (9, .int .i64 s25.2), (12, .bool s61.1), (13, .int .i64 s61.2)] ∧ gs = [g27]) ⟨Sto.Le.refl _, rfl, rfl⟩ ?_
  rintro s61 o61 h he61 ρ61 τ61 gs61 ⟨hl61, hρ, rfl⟩ hn61
  refine st_es hρ ?_
  refine Z 2 rfl ?_
  refine st_cut (fun ρ τ62 gs => ∃ (s62 : Bool), ref26_Forged_j6 a0 r5 s25 s61 s62 o61 ∧ τ61.Le τ62 ∧ ESub ρ [(0, v1), (4, .slice none 0 0), (5, v9), (6, v11), (8, v26), (9, .int .i64 s25.2), (12, .bool s61.1), (13, .int .i64 s61.2), (47, .bool s62)] ∧ gs = [g27]) ?_ (fun hk62 => ?_)
  ·rintro ρ62 τ62 gs62 ⟨s62, h, hl62, hρ, rfl⟩
   refine st_es hρ ?_
   refine st_if rfl h (fun h => ?_) (fun h => ?_)
   ·refine Z 2 rfl ?_
    refine st_cut (fun ρ τ63 gs => ∃ (s63 : Bool), ref26_Forged_j7 s61 s63 o61 ∧ τ62.Le τ63 ∧ ESub ρ [(0, v1), (4, .slice none 0 0), (5, v9), (6, v11), (8, v26), (9, .int .i64 s25.2), (12, .bool s63), (13, .int .i64 s61.2)] ∧ gs = [g27]) ?_ (fun hk63 => ?_)
    ·rintro ρ63 τ63 gs63 ⟨s63, h, hl63, hρ, rfl⟩
     refine st_es hρ ?_
     refine Z 5 rfl ?_
     exact hn61 _ _ _ _ h ⟨((hl61.trans hl62).trans hl63), rfl, rfl⟩
    refine Z 5 rfl ?_
    obtain ⟨q64, hf65, h⟩ := h
    refine o_index rfl rfl rfl z_slT22 rfl rfl (hs2.up ((((hl8.trans hl25).trans hl43).trans hl61).trans hl62)) rfl hf65 (fun b66 of67 vs hc69 hrep => ?_)
    obtain ⟨v68, rfl, hs70⟩ := hrep
    refine o_loadI (v := v68) rfl rfl rfl z_sc23 rfl (hc69 0 _ rfl) ?_
    obtain ⟨r71, hr72, h⟩ := h
    refine st_call (foot := []) rfl rfl rfl rfl rfl rfl (callV_fn z_en26 (ref06_Split_ok hr72 τ62 hs70)) ?_
    rintro vτ73 τ73 gsτ73 hl74 ⟨v75, v77, v79, rfl, rfl, hs76, hs78, hs80⟩
    refine Z 12 rfl ?_
    obtain ⟨e81, hL81, hA81⟩ := h
    refine st_loop hL81 (fun (s81 : Bool × Int) ρ τ81 gs => τ73.Le τ81 ∧ ESub ρ [(0, v1), (4, .slice none 0 0), (5, v9), (6, v11), (8, v26), (9, .int .i64 s25.2), (12, .bool s81.1), (13, .int .i64 s61.2), (14, v75), (17, .int .i64 s81.2)] ∧ gs = [g27]) ⟨Sto.Le.refl _, rfl, rfl⟩ ?_
    rintro s81 o81 h he81 ρ81 τ81 gs81 ⟨hl81, hρ, rfl⟩ hn81
    refine st_es hρ ?_
    refine Z 5 rfl ?_
    refine o_lenI rfl rfl rfl z_slT22 rfl (hs76.up hl81) ?_
    refine Z 2 rfl ?_
    refine st_if rfl h (fun h => ?_) (fun h => ?_)
    ·refine Z 3 rfl ?_
     obtain ⟨q83, hf84, q91, hf92, r99, hr100, h⟩ := h
     let cc82 : Prop := s81.1 = false
     refine st_draw 12 (dl [.v (.bool s81.1), .v (.bool s81.1), .g cc82 (v75), .g cc82 (.int .i64 s81.2), .h cc82 fun τ v => ∃ (b85 : Nat) (of86 : Nat) (vsb85 : List Value), (.pointer (some ⟨b85, of86, none⟩) : Value) = v ∧ CelN τ ⟨b85, of86, none⟩ vsb85 ∧ (kSl (kI .u8)).rep τ vsb85 q83, .h cc82 fun τ v => ∃ (v87 : Value), (v87 : Value) = v ∧ Sl (kI .u8) τ v87 q83, .g cc82 (v9), .g cc82 (.int .i64 s25.2), .h cc82 fun τ v => ∃ (b93 : Nat) (of94 : Nat) (vsb93 : List Value), (.pointer (some ⟨b93, of94, none⟩) : Value) = v ∧ CelN τ ⟨b93, of94, none⟩ vsb93 ∧ (kSl (kI .u8)).rep τ vsb93 q91, .h cc82 fun τ v => ∃ (v95 : Value), (v95 : Value) = v ∧ Sl (kI .u8) τ v95 q91, .g cc82 (.bool r99), .v (.bool (s81.1 || r99))]) (fun _ _ => []) z_mix rfl (dl_mono ⟨fun _ _ _ hl ⟨b85, of86, vsb85, hv, hc88, hrepb85⟩ => ⟨b85, of86, vsb85, hv, hc88.up hl, Kd.mono _ hl hrepb85⟩, ⟨fun _ _ _ hl ⟨v87, hv, hs90⟩ => ⟨v87, hv, hs90.up hl⟩, ⟨fun _ _ _ hl ⟨b93, of94, vsb93, hv, hc96, hrepb93⟩ => ⟨b93, of94, vsb93, hv, hc96.up hl, Kd.mono _ hl hrepb93⟩, ⟨fun _ _ _ hl ⟨v95, hv, hs98⟩ => ⟨v95, hv, hs98.up hl⟩, trivial⟩⟩⟩⟩) (allB_cons (allB_cons (allB_cons (allB_cons (allB_cons (allB_cons (allB_cons (allB_cons (allB_cons (allB_cons (allB_cons (allB_cons allB_nil (p1 dA)) (p1 dA)) (p1 (dG []))) (p1 (dG []))) ?_) ?_) (p1 (dG []))) (p1 (dG []))) ?_) ?_) ?_) (p1 dO)) ?_
     ·intro ρ' τ pool rs hl hd hout hk
      obtain ⟨_, e1, rfl⟩ := hd 1 rfl
      obtain ⟨w2, e2, t2⟩ := hd 2 rfl
      obtain ⟨w3, e3, t3⟩ := hd 3 rfl
      by_cases hG : s81.1 = false
      ·have hC := hG
       replace hf84 := hf84 hC
       obtain ⟨rfl⟩ := t2.1 hC
       obtain ⟨rfl⟩ := t3.1 hC
       refine o_index rfl (wants_of rfl e1 hG) rfl z_slT22 rfl e2 (hs76.up (hl81.trans hl)) e3 hf84 (fun b85 of86 vsb85 hc88 hrepb85 => ?_)
       exact st_addNil (hk _ _ (Sto.Le.refl _) ⟨fun _ => ⟨b85, of86, _, rfl, hc88, hrepb85⟩, fun hn => absurd hC hn⟩)
      ·refine st_pass rfl rfl rfl e1 (beq_off hG) rfl ?_
       exact st_addNil (hk _ _ (Sto.Le.refl _) ⟨fun h => absurd h hG, fun _ => rfl⟩)
     ·intro ρ' τ pool rs hl hd hout hk
      obtain ⟨_, e1, rfl⟩ := hd 1 rfl
      obtain ⟨w4, e4, t4⟩ := hd 4 rfl
      by_cases hG : s81.1 = false
      ·have hC := hG
       obtain ⟨b85, of86, vsb85, rfl, hc88, hrepb85⟩ := t4.1 hC
       have hrepb85 := hrepb85
       obtain ⟨v87, rfl, hs90⟩ := hrepb85
       refine o_loadI (v := v87) rfl (wants_of rfl e1 hG) rfl z_sc23 e4 (hc88 0 _ rfl) ?_
       exact st_addNil (hk _ _ (Sto.Le.refl _) ⟨fun _ => ⟨v87, rfl, hs90⟩, fun hn => absurd hC hn⟩)
      ·refine st_pass rfl rfl rfl e1 (beq_off hG) rfl ?_
       exact st_addNil (hk _ _ (Sto.Le.refl _) ⟨fun h => absurd h hG, fun _ => rfl⟩)
     ·intro ρ' τ pool rs hl hd hout hk
      obtain ⟨_, e1, rfl⟩ := hd 1 rfl
      obtain ⟨w6, e6, t6⟩ := hd 6 rfl
      obtain ⟨w7, e7, t7⟩ := hd 7 rfl
      by_cases hG : s81.1 = false
      ·have hC := hG
       replace hf92 := hf92 hC
       obtain ⟨rfl⟩ := t7.1 hC
       obtain ⟨rfl⟩ := t6.1 hC
       refine o_index rfl (wants_of rfl e1 hG) rfl z_slT22 rfl e6 (hs10.up ((((((hl25.trans hl43).trans hl61).trans hl62).trans hl74).trans hl81).trans hl)) e7 hf92 (fun b93 of94 vsb93 hc96 hrepb93 => ?_)
       exact st_addNil (hk _ _ (Sto.Le.refl _) ⟨fun _ => ⟨b93, of94, _, rfl, hc96, hrepb93⟩, fun hn => absurd hC hn⟩)
      ·refine st_pass rfl rfl rfl e1 (beq_off hG) rfl ?_
       exact st_addNil (hk _ _ (Sto.Le.refl _) ⟨fun h => absurd h hG, fun _ => rfl⟩)
     ·intro ρ' τ pool rs hl hd hout hk
      obtain ⟨_, e1, rfl⟩ := hd 1 rfl
      obtain ⟨w8, e8, t8⟩ := hd 8 rfl
      by_cases hG : s81.1 = false
      ·have hC := hG
       obtain ⟨b93, of94, vsb93, rfl, hc96, hrepb93⟩ := t8.1 hC
       have hrepb93 := hrepb93
       obtain ⟨v95, rfl, hs98⟩ := hrepb93
       refine o_loadI (v := v95) rfl (wants_of rfl e1 hG) rfl z_sc23 e8 (hc96 0 _ rfl) ?_
       exact st_addNil (hk _ _ (Sto.Le.refl _) ⟨fun _ => ⟨v95, rfl, hs98⟩, fun hn => absurd hC hn⟩)
      ·refine st_pass rfl rfl rfl e1 (beq_off hG) rfl ?_
       exact st_addNil (hk _ _ (Sto.Le.refl _) ⟨fun h => absurd h hG, fun _ => rfl⟩)
     ·intro ρ' τ pool rs hl hd hout hk
      obtain ⟨_, e1, rfl⟩ := hd 1 rfl
      obtain ⟨w5, e5, t5⟩ := hd 5 rfl
      obtain ⟨w9, e9, t9⟩ := hd 9 rfl
      by_cases hG : s81.1 = false
      ·have hC := hG
       replace hr100 := hr100 hC
       obtain ⟨v95, rfl, hs98⟩ := t9.1 hC
       obtain ⟨v87, rfl, hs90⟩ := t5.1 hC
       refine st_call (foot := []) rfl (wants_of rfl e1 hG) rfl rfl (evs_cons e5 (evs_cons e9 rfl)) rfl (callV_fn z_en28 (ref01_Same_ok hr100 τ hs90 hs98)) ?_
       rintro vτ101 τ101 gsτ101 hl102 ⟨rfl, rfl⟩
       exact st_addNil (hk _ _ hl102 ⟨fun _ => rfl, fun hn => absurd hC hn⟩)
      ·refine st_pass rfl rfl rfl e1 (beq_off hG) rfl ?_
       exact st_addNil (hk _ _ (Sto.Le.refl _) ⟨fun h => absurd h hG, fun _ => rfl⟩)
     intro ρ' τ103 vals hl103 hv hout
     refine st_ord [0] _ rfl ?_
     refine st_env (ρ' := [(76, .bool (s81.1 || r99)), (0, v1), (4, .slice none 0 0), (5, v9), (6, v11), (8, v26), (9, .int .i64 s25.2), (13, .int .i64 s61.2), (14, v75), (17, .int .i64 s81.2)]) ⟨(lv1 hv 11 rfl rfl), (hout 0 rfl).trans rfl, (hout 4 rfl).trans rfl, (hout 5 rfl).trans rfl, (hout 6 rfl).trans rfl, (hout 8 rfl).trans rfl, (hout 9 rfl).trans rfl, (hout 13 rfl).trans rfl, (hout 14 rfl).trans rfl, (hout 17 rfl).trans rfl, trivial⟩ ?_
     refine Z 8 rfl ?_
     exact hn81 _ _ _ _ h ⟨(hl81.trans hl103), rfl, rfl⟩
    ·refine Z 2 rfl ?_
     obtain rfl := he81 _ h
     replace h := hA81
     exact hk63 _ _ _ ⟨s81.1, h, (hl74.trans hl81), rfl, rfl⟩
   ·refine st_exit rfl ?_
    obtain rfl := he61 _ h
    replace h := hA61
    exact hk47 _ _ _ ⟨s61.1, h, (hl61.trans hl62), rfl, rfl⟩
  refine Z 3 rfl ?_
  refine o_lenI rfl rfl rfl z_slT22 rfl (hs2.up (((hl8.trans hl25).trans hl43).trans hl61)) ?_
  refine o_ibin (v := .bool (decide (s61.2 < (a0.length : Int)))) rfl rfl rfl rfl rfl rfl ?_
  refine o_mif rfl rfl rfl rfl h (fun h => ?_) (fun h => ?_)
  ·refine Z 4 rfl ?_
   exact hk62 _ _ _ ⟨(!s61.1), h, (Sto.Le.refl _), rfl, rfl⟩
  ·refine Z 4 rfl ?_
   exact hk62 _ _ _ ⟨false, h, (Sto.Le.refl _), rfl, rfl⟩
 ·refine st_exit rfl ?_
  obtain rfl := he25 _ h
  replace h := hA25
  exact hk15 _ _ _ ⟨s25.1, _, _, h, hl25, rfl, rfl, ho28⟩
theorem fence_Segments_1_ok {c0 : List Int} {bc0 : Nat} {v1 : Value} {σ0 : Sto} (hc0_0 : Cel σ0 ⟨bc0, 0, none⟩ (v1)) (hs2 : Sl (kI .u8) σ0 v1 c0) :
    IterV Tryz.prog (fun τ x vx => ∃ (v2 : Value), vx = [.int .i64 x.1, v2] ∧ Sl (kI .u8) τ v2 x.2) (.func (.func 60) #[] [.pointer (some ⟨bc0, 0, none⟩)].toArray) σ0 [] (fun (_ : Unit) _ f => f = []) (fence_Segments_1 c0) := by
 intro S Y I y hyc hyo hIm hY s s' o hR σ g hle hIg
 obtain ⟨r, hr0⟩ : ∃ r, r = (s', o) := ⟨_, rfl⟩
 rw [← hr0] at hR
 have h := hR
 refine callV_of (caps := [.pointer (some ⟨bc0, 0, none⟩)]) z_en60 ?_
 refine call_of Tryz.func60 Tryz.ntmps60 rfl rfl (fun cs fs => ?_)
 refine st_ord [0] _ rfl ?_
 refine Z 9 rfl ?_
 refine o_loadI (v := v1) rfl rfl rfl z_sc23 rfl (Cel.up hc0_0 hle) ?_
 refine o_lenI rfl rfl rfl z_slT23 rfl (hs2.up hle) ?_
 refine Z 2 rfl ?_
 obtain ⟨e3, hL3, hA3⟩ := h
 refine st_loop hL3 (fun (s3 : S × Int × Int) ρ τ3 gs => σ.Le τ3 ∧ ∃ (g4 : Grp), ESub ρ [(0, y), (1, .pointer (some ⟨bc0, 0, none⟩)), (3, .int .i64 s3.2.1), (6, v1), (7, .int .i64 (c0.length : Int)), (8, .int .i64 s3.2.2)] ∧ gs = [g4] ∧ I s3.1 τ3 g4) ⟨Sto.Le.refl _, g, rfl, rfl, hIg⟩ ?_
 rintro s3 o3 h he3 ρ3 τ3 gs3 ⟨hl3, g4, hρ, rfl, hI5⟩ hn3
 refine st_es hρ ?_
 refine Z 5 rfl ?_
 refine st_if rfl h (fun h => ?_) (fun h => ?_)
 ·refine Z 2 rfl ?_
  refine st_cut (fun ρ τ6 gs => ∃ (s6 : S × Int) (g7 : Grp), fence_Segments_1_j2 S Y s3 s6 o3 ∧ τ3.Le τ6 ∧ ESub ρ [(0, y), (1, .pointer (some ⟨bc0, 0, none⟩)), (3, .int .i64 s6.2), (6, v1), (7, .int .i64 (c0.length : Int)), (8, .int .i64 s3.2.2)] ∧ gs = [g7] ∧ I s6.1 τ6 g7) ?_ (fun hk6 => ?_)
  ·rintro ρ6 τ6 gs6 ⟨s6, g7, h, hl6, hρ, rfl, hI8⟩
   refine st_es hρ ?_
   refine Z 4 rfl ?_
   exact hn3 _ _ _ _ h ⟨(hl3.trans hl6), g7, rfl, rfl, hI8⟩
  refine Z 4 rfl ?_
  obtain ⟨q9, hf10, h⟩ := h
  refine o_index rfl rfl rfl z_slT23 rfl rfl (hs2.up (hle.trans hl3)) rfl hf10 (fun b11 of12 vs hc13 hrep => ?_)
  obtain rfl := hrep
  refine o_loadI (v := .int .u8 q9) rfl rfl rfl z_sc5 rfl (hc13 0 _ rfl) ?_
  refine Z 9 rfl ?_
  refine st_if rfl h (fun h => ?_) (fun h => ?_)
  ·refine st_exit rfl ?_
   exact hk6 _ _ _ ⟨(s3.1, s3.2.1), g4, h, (Sto.Le.refl _), rfl, rfl, hI5⟩
  ·refine Z 3 rfl ?_
   refine st_cut (fun ρ τ14 gs => ∃ (s14 : S × Bool) (g15 : Grp), fence_Segments_1_j3 S Y s3 s14 o3 ∧ τ3.Le τ14 ∧ ESub ρ [(0, y), (1, .pointer (some ⟨bc0, 0, none⟩)), (6, v1), (7, .int .i64 (c0.length : Int)), (8, .int .i64 s3.2.2), (4, .int .i64 s3.2.2), (30, .bool s14.2)] ∧ gs = [g15] ∧ I s14.1 τ14 g15) ?_ (fun hk14 => ?_)
   ·rintro ρ14 τ14 gs14 ⟨s14, g15, h, hl14, hρ, rfl, hI16⟩
    refine st_es hρ ?_
    refine st_if rfl h (fun h => ?_) (fun h => ?_)
    ·obtain rfl := he3 _ h
     replace h := hA3
     obtain rfl := Eq.symm h
     cases hr0
     exact st_ret (gs' := [g15, []]) Tryz.func60 rfl (by simp) (hl3.trans hl14) ⟨g15, _, rfl, hI16, rfl⟩
    ·refine Z 7 rfl ?_
     exact hk6 _ _ _ ⟨(s14.1, (IntKind.i64.wrap (s3.2.2 + 1))), g15, h, hl14, rfl, rfl, hI16⟩
   refine Z 4 rfl ?_
   refine o_mif rfl rfl rfl rfl h (fun h => ?_) (fun h => ?_)
   ·refine Z 2 rfl ?_
    refine o_lit (dk := (kI .u8)) (xs := ([] : List Int)) (ps := []) (cs := []) rfl rfl rfl z_slT23 z_zero5 trivial rfl rfl rfl rfl Kd.Many.nil (fun v17 g18 ho19 => ?_)
    refine o_loadI (v := v1) rfl rfl rfl z_sc23 rfl (Cel.up hc0_0 (hle.trans hl3)) ?_
    refine Z 3 rfl ?_
    obtain ⟨hf20, hf21, hf22, hf23, hf24, h⟩ := h
    refine o_slice (L := s3.2.1) (H := s3.2.2) rfl rfl rfl z_slT23 rfl rfl (hs2.up (hle.trans hl3)) ⟨_, rfl⟩ ⟨_, rfl⟩ hf20 hf21 hf22 ⟨_, _, rfl, hf23, hf24⟩ (by simp) (fun v25 hs26 => ?_)
    obtain ⟨hf30, hf31, h⟩ := h
    refine o_append (dk := (kI .u8)) (xs := ([] : List Int)) (ys := ((c0.drop s3.2.1.toNat).take ((s3.2.2 : Int) - s3.2.1).toNat)) rfl rfl rfl rfl z_slT23 rfl ho19 rfl (Sl.src hs26) hf30 hf31 (fun v27 g28 ho29 => ?_)
    obtain ⟨y36, u37, hy38, h⟩ := h
    refine st_freeze (fun τ32 hl33 hg34 => ?_)
    have hs35 := ho29.freeze hl33 hg34
    refine st_call (foot := [g4]) rfl rfl rfl rfl rfl rfl (hY (s3.2.1, (([] : List Int) ++ ((c0.drop s3.2.1.toNat).take ((s3.2.2 : Int) - s3.2.1).toNat))) s3.1 _ _ _ _ _ (hle.trans (hl3.trans hl33)) hy38 ⟨_, rfl, hs35⟩ (hIm _ _ _ _ hl33 hI5)) ?_
    rintro vτ39 τ39 gsτ39 hl40 ⟨rfl, g41, rfl, hI42⟩
    refine Z 3 rfl ?_
    exact hk14 _ _ _ ⟨(u37, (!y36)), g41, h, (hl33.trans hl40), rfl, rfl, hI42⟩
   ·refine Z 13 rfl ?_
    exact hk14 _ _ _ ⟨(s3.1, false), g4, h, (Sto.Le.refl _), rfl, rfl, hI5⟩
 ·refine Z 2 rfl ?_
  obtain rfl := he3 _ h
  replace h := hA3
  obtain rfl := Eq.symm h
  cases hr0
  exact st_fin (gs' := [g4, []]) Tryz.func60 rfl (by simp) hl3 ⟨g4, _, rfl, hI5, rfl⟩
theorem fence_Segments_ok {a0 : List Int} {v1 : Value} {r : (((S : Type) → ((Int × List Int) → S → Bool × S → Prop) → S → S × Unit → Prop))} (h : fence_Segments a0 r) (σ : Sto) (hs2 : Sl (kI .u8) σ v1 a0) :
    Does Tryz.prog 30 [v1] σ [] (fun v τ gs => ∃ (f7 : Nat) (q8 : Array Value), gs = [] ∧ .func (.func f7) #[] q8 = v ∧ IterV Tryz.prog (fun τ x vx => ∃ (v4 : Value), vx = [.int .i64 x.1, v4] ∧ Sl (kI .u8) τ v4 x.2) (.func (.func f7) #[] q8) τ [] (fun (_ : Unit) _ f => f = []) r) := by
 refine call_of Tryz.func30 Tryz.ntmps30 rfl rfl (fun cs fs => ?_)
 refine Z 2 rfl ?_
 refine o_box (cs := [v1]) rfl rfl rfl rfl (oneL_sl hs2) (fun b3 => ?_)
 refine Z 4 rfl ?_
 refine st_freeze (fun τ4 hl5 hg6 => ?_)
 refine Z 3 rfl ?_
 obtain rfl := Eq.symm h
 exact st_ret (gs' := []) Tryz.func30 rfl (List.Sublist.refl _) hl5 ⟨_, _, rfl, rfl, (fence_Segments_1_ok (cel_of hg6 rfl) (hs2.up hl5))⟩
theorem cobs_Decode_ok {a0 : List Int} {v1 : Value} {r : List Int × Int} (h : cobs_Decode a0 r) (σ : Sto) (hs2 : Sl (kI .u8) σ v1 a0) :
    Does Tryz.prog 61 [v1] σ [] (fun v τ gs => ∃ (v64 : Value), gs = [] ∧ .tuple [v64, .int .i64 r.2].toArray = v ∧ Sl (kI .u8) τ v64 r.1) := by
 refine call_of Tryz.func61 Tryz.ntmps61 rfl rfl (fun cs fs => ?_)
 refine Z 6 rfl ?_
 refine st_lcut (l := 0) rfl (fun ρ τ3 gs => ∃ (s3 : Unit), cobs_Decode_j1 s3 r ∧ σ.Le τ3 ∧ ESub ρ [(2, .slice none 0 0), (3, .int .i64 0)] ∧ gs = []) ?_ (fun hk3 => ?_)
 ·rintro ρ3 τ3 gs3 ⟨s3, h, hl3, hρ, rfl⟩
  refine st_es hρ ?_
  refine Z 7 rfl ?_
  obtain rfl := Eq.symm h
  exact st_ret (gs' := []) Tryz.func61 rfl (List.Sublist.refl _) hl3 ⟨_, rfl, rfl, Sl.nil⟩
 refine Z 14 rfl ?_
 refine o_lenI rfl rfl rfl z_slT23 rfl hs2 ?_
 refine Z 2 rfl ?_
 refine st_if rfl h (fun h => ?_) (fun h => ?_)
 ·refine st_goto rfl ?_
  exact hk3 _ _ _ ⟨(), h, (Sto.Le.refl _), rfl, rfl⟩
 ·refine Z 4 rfl ?_
  refine st_cut (fun ρ τ4 gs => ∃ (s4 : List Int) (v5 : Value) (g6 : Grp), cobs_Decode_j2 s4 r ∧ σ.Le τ4 ∧ ESub ρ [(2, .slice none 0 0), (3, .int .i64 0), (4, v5)] ∧ gs = [g6] ∧ Ow (kI .u8) 5 τ4 v5 s4 g6) ?_ (fun hk4 => ?_)
  ·rintro ρ4 τ4 gs4 ⟨s4, v5, g6, h, hl4, hρ, rfl, ho7⟩
   refine st_es hρ ?_
   refine Z 7 rfl ?_
   refine st_freeze (fun τ8 hl9 hg10 => ?_)
   have hs11 := ho7.freeze hl9 hg10
   obtain rfl := Eq.symm h
   exact st_ret (gs' := []) Tryz.func61 rfl (List.Sublist.refl _) (hl4.trans hl9) ⟨_, rfl, rfl, hs11⟩
  obtain ⟨e14, hL14, hA14⟩ := h
  refine st_addNil ?_
  refine st_loop hL14 (fun (s14 : List Int × List Int × Bool) ρ τ14 gs => σ.Le τ14 ∧ ∃ (v15 : Value) (g16 : Grp) (v18 : Value), ESub ρ [(2, .slice none 0 0), (3, .int .i64 0), (4, v15), (5, v18), (6, .bool s14.2.2)] ∧ gs = [g16] ∧ Ow (kI .u8) 5 τ14 v15 s14.1 g16 ∧ Sl (kI .u8) τ14 v18 s14.2.1) ⟨Sto.Le.refl _, _, _, _, rfl, rfl, Ow.nil, hs2⟩ ?_
  rintro s14 o14 h he14 ρ14 τ14 gs14 ⟨hl14, v15, g16, v18, hρ, rfl, ho17, hs19⟩ hn14
  refine st_es hρ ?_
  refine Z 4 rfl ?_
  obtain ⟨q20, hf21, h⟩ := h
  refine o_index rfl rfl rfl z_slT23 rfl rfl hs19 rfl hf21 (fun b22 of23 vs hc24 hrep => ?_)
  obtain rfl := hrep
  refine o_loadI (v := .int .u8 q20) rfl rfl rfl z_sc5 rfl (hc24 0 _ rfl) ?_
  refine Z 6 rfl ?_
  refine st_cut (fun ρ τ25 gs => ∃ (s25 : Bool), cobs_Decode_j4 s14 q20 s25 o14 ∧ τ14.Le τ25 ∧ ESub ρ [(2, .slice none 0 0), (3, .int .i64 0), (4, v15), (5, v18), (6, .bool s14.2.2), (7, .int .i64 (IntKind.i64.wrap ((IntKind.i64.wrap q20) - 1))), (27, .bool s25)] ∧ gs = [g16]) ?_ (fun hk25 => ?_)
  ·rintro ρ25 τ25 gs25 ⟨s25, h, hl25, hρ, rfl⟩
   refine st_es hρ ?_
   refine st_if rfl h (fun h => ?_) (fun h => ?_)
   ·refine st_goto rfl ?_
    obtain rfl := he14 _ h
    replace h := hA14
    refine st_ord [] _ rfl ?_
    exact hk3 _ _ _ ⟨(), h, (hl14.trans hl25), rfl, rfl⟩
   ·refine Z 2 rfl ?_
    refine st_cut (fun ρ τ26 gs => ∃ (s26 : Unit), cobs_Decode_j5 s14 q20 s26 o14 ∧ τ25.Le τ26 ∧ ESub ρ [(2, .slice none 0 0), (3, .int .i64 0), (4, v15), (5, v18), (6, .bool s14.2.2), (7, .int .i64 (IntKind.i64.wrap ((IntKind.i64.wrap q20) - 1)))] ∧ gs = [g16]) ?_ (fun hk26 => ?_)
    ·rintro ρ26 τ26 gs26 ⟨s26, h, hl26, hρ, rfl⟩
     refine st_es hρ ?_
     refine Z 6 rfl ?_
     obtain ⟨hf27, hf28, h⟩ := h
     refine o_slice (L := 1) (H := (IntKind.i64.wrap ((IntKind.i64.wrap ((IntKind.i64.wrap q20) - 1)) + 1))) rfl rfl rfl z_slT23 rfl rfl (hs19.up (hl25.trans hl26)) ⟨_, rfl⟩ ⟨_, rfl⟩ (by decide) hf27 hf28 trivial (by simp) (fun v29 hs30 => ?_)
     obtain ⟨hf34, hf35, h⟩ := h
     refine o_append (dk := (kI .u8)) (xs := s14.1) (ys := ((s14.2.1.drop (1 : Int).toNat).take (((IntKind.i64.wrap ((IntKind.i64.wrap ((IntKind.i64.wrap q20) - 1)) + 1)) : Int) - 1).toNat)) rfl rfl rfl rfl z_slT23 rfl (ho17.up (hl25.trans hl26)) rfl (Sl.src hs30) hf34 hf35 (fun v31 g32 ho33 => ?_)
     refine Z 7 rfl ?_
     obtain ⟨hf36, hf37, hf38, h⟩ := h
     refine o_slice (L := (IntKind.i64.wrap ((IntKind.i64.wrap ((IntKind.i64.wrap q20) - 1)) + 1))) (H := (s14.2.1.length : Int)) rfl rfl rfl z_slT23 rfl rfl (hs19.up (hl25.trans hl26)) ⟨_, rfl⟩ rfl hf36 hf37 hf38 trivial (by simp) (fun v39 hs40 => ?_)
     refine Z 15 rfl ?_
     refine st_cut (fun ρ τ41 gs => ∃ (s41 : Bool), cobs_Decode_j6 s14 q20 s41 o14 ∧ τ26.Le τ41 ∧ ESub ρ [(2, .slice none 0 0), (3, .int .i64 0), (4, v31), (5, v39), (6, .bool (decide ((IntKind.i64.wrap ((IntKind.i64.wrap q20) - 1)) = 254))), (53, .bool s41)] ∧ gs = [g32]) ?_ (fun hk41 => ?_)
     ·rintro ρ41 τ41 gs41 ⟨s41, h, hl41, hρ, rfl⟩
      refine st_es hρ ?_
      refine st_if rfl h (fun h => ?_) (fun h => ?_)
      ·refine st_goto rfl ?_
       obtain rfl := he14 _ h
       replace h := hA14
       refine st_ord [] _ rfl ?_
       exact hk3 _ _ _ ⟨(), h, (((hl14.trans hl25).trans hl26).trans hl41), rfl, rfl⟩
      ·refine Z 3 rfl ?_
       refine o_lenI rfl rfl rfl z_slT23 rfl (hs40.up hl41) ?_
       refine Z 3 rfl ?_
       refine st_if rfl h (fun h => ?_) (fun h => ?_)
       ·refine st_exit rfl ?_
        obtain rfl := he14 _ h
        replace h := hA14
        exact hk4 _ _ _ ⟨(s14.1 ++ ((s14.2.1.drop (1 : Int).toNat).take (((IntKind.i64.wrap ((IntKind.i64.wrap ((IntKind.i64.wrap q20) - 1)) + 1)) : Int) - 1).toNat)), _, _, h, (((hl14.trans hl25).trans hl26).trans hl41), rfl, rfl, (ho33.up hl41)⟩
       ·refine Z 6 rfl ?_
        refine st_if rfl h (fun h => ?_) (fun h => ?_)
        ·refine Z 2 rfl ?_
         refine o_litE (eI .u8) [0] rfl rfl rfl z_slT23 z_zero5 ⟨rfl, ⟨_, rfl, rfl⟩, trivial⟩ rfl rfl rfl rfl (fun v42 g43 ho44 => ?_)
         obtain ⟨hf48, hf49, h⟩ := h
         refine st_ord [1, 0] _ rfl ?_
         refine o_append (dk := (kI .u8)) (xs := (s14.1 ++ ((s14.2.1.drop (1 : Int).toNat).take (((IntKind.i64.wrap ((IntKind.i64.wrap ((IntKind.i64.wrap q20) - 1)) + 1)) : Int) - 1).toNat))) (ys := [0]) rfl rfl rfl rfl z_slT23 rfl (ho33.up hl41) rfl (Ow.src (j := 1) ho44 rfl) hf48 hf49 (fun v45 g46 ho47 => ?_)
         refine Z 4 rfl ?_
         refine st_ord [0] _ rfl ?_
         exact hn14 _ _ _ _ h ⟨(((hl14.trans hl25).trans hl26).trans hl41), _, _, _, rfl, rfl, ho47, (hs40.up hl41)⟩
        ·refine Z 3 rfl ?_
         exact hn14 _ _ _ _ h ⟨(((hl14.trans hl25).trans hl26).trans hl41), _, _, _, rfl, rfl, (ho33.up hl41), (hs40.up hl41)⟩
     refine Z 2 rfl ?_
     refine o_lenI rfl rfl rfl z_slT23 rfl hs40 ?_
     refine o_ibin (v := .bool (decide ((((s14.2.1.drop (IntKind.i64.wrap ((IntKind.i64.wrap ((IntKind.i64.wrap q20) - 1)) + 1)).toNat).take (((s14.2.1.length : Int) : Int) - (IntKind.i64.wrap ((IntKind.i64.wrap ((IntKind.i64.wrap q20) - 1)) + 1))).toNat).length : Int) = 0))) rfl rfl rfl rfl rfl rfl ?_
     refine o_mif rfl rfl rfl rfl h (fun h => ?_) (fun h => ?_)
     ·refine Z 2 rfl ?_
      refine o_mif rfl rfl rfl rfl h (fun h => ?_) (fun h => ?_)
      ·refine Z 5 rfl ?_
       exact hk41 _ _ _ ⟨(decide ((IntKind.i64.wrap ((IntKind.i64.wrap q20) - 1)) = 0)), h, (Sto.Le.refl _), rfl, rfl⟩
      ·refine Z 5 rfl ?_
       exact hk41 _ _ _ ⟨false, h, (Sto.Le.refl _), rfl, rfl⟩
     ·refine Z 8 rfl ?_
      exact hk41 _ _ _ ⟨false, h, (Sto.Le.refl _), rfl, rfl⟩
    refine Z 5 rfl ?_
    obtain ⟨hf50, hf51, h⟩ := h
    refine o_slice (L := 1) (H := (IntKind.i64.wrap ((IntKind.i64.wrap ((IntKind.i64.wrap q20) - 1)) + 1))) rfl rfl rfl z_slT23 rfl rfl (hs19.up hl25) ⟨_, rfl⟩ ⟨_, rfl⟩ (by decide) hf50 hf51 trivial (by simp) (fun v52 hs53 => ?_)
    refine o_lenI rfl rfl rfl z_slT23 rfl hs53 ?_
    refine Z 2 rfl ?_
    obtain ⟨e54, hL54, hA54⟩ := h
    refine st_loop hL54 (fun (s54 : Int) ρ τ54 gs => τ25.Le τ54 ∧ ESub ρ [(2, .slice none 0 0), (3, .int .i64 0), (4, v15), (5, v18), (6, .bool s14.2.2), (7, .int .i64 (IntKind.i64.wrap ((IntKind.i64.wrap q20) - 1))), (31, v52), (32, .int .i64 (((s14.2.1.drop (1 : Int).toNat).take (((IntKind.i64.wrap ((IntKind.i64.wrap ((IntKind.i64.wrap q20) - 1)) + 1)) : Int) - 1).toNat).length : Int)), (33, .int .i64 s54)] ∧ gs = [g16]) ⟨Sto.Le.refl _, rfl, rfl⟩ ?_
    rintro s54 o54 h he54 ρ54 τ54 gs54 ⟨hl54, hρ, rfl⟩ hn54
    refine st_es hρ ?_
    refine Z 5 rfl ?_
    refine st_if rfl h (fun h => ?_) (fun h => ?_)
    ·refine Z 5 rfl ?_
     obtain ⟨q55, hf56, h⟩ := h
     refine o_index rfl rfl rfl z_slT23 rfl rfl (hs53.up hl54) rfl hf56 (fun b57 of58 vs hc59 hrep => ?_)
     obtain rfl := hrep
     refine o_loadI (v := .int .u8 q55) rfl rfl rfl z_sc5 rfl (hc59 0 _ rfl) ?_
     refine Z 7 rfl ?_
     refine st_if rfl h (fun h => ?_) (fun h => ?_)
     ·refine st_goto rfl ?_
      obtain rfl := he54 _ h
      replace h := hA54
      obtain rfl := he14 _ h
      replace h := hA14
      refine st_ord [] _ rfl ?_
      exact hk3 _ _ _ ⟨(), h, ((hl14.trans hl25).trans hl54), rfl, rfl⟩
     ·refine Z 6 rfl ?_
      exact hn54 _ _ _ _ h ⟨hl54, rfl, rfl⟩
    ·refine st_exit rfl ?_
     obtain rfl := he54 _ h
     replace h := hA54
     exact hk26 _ _ _ ⟨(), h, hl54, rfl, rfl⟩
  refine Z 3 rfl ?_
  refine o_mif rfl rfl rfl rfl h (fun h => ?_) (fun h => ?_)
  ·refine Z 6 rfl ?_
   exact hk25 _ _ _ ⟨true, h, (Sto.Le.refl _), rfl, rfl⟩
  ·refine Z 2 rfl ?_
   refine o_lenI rfl rfl rfl z_slT23 rfl hs19 ?_
   refine Z 3 rfl ?_
   exact hk25 _ _ _ ⟨(decide ((s14.2.1.length : Int) ≤ (IntKind.i64.wrap ((IntKind.i64.wrap q20) - 1)))), h, (Sto.Le.refl _), rfl, rfl⟩
theorem crc_Table_Begin_ok {a0 : List Int} {bi1 : Nat} {r : Int} (h : crc_Table_Begin a0 r) (σ : Sto) (hc2 : CelN σ ⟨bi1, 0, none⟩ (cellsN (Value.int .u32) 0 1024 a0)) :
    Does Tryz.prog 125 [.pointer (some ⟨bi1, 0, none⟩)] σ [] (fun v τ gs => gs = [] ∧ .int .u32 r = v) := by
 refine call_of Tryz.func125 Tryz.ntmps125 rfl rfl (fun cs fs => ?_)
 refine Z 16 rfl ?_
 obtain rfl := Eq.symm h
 exact st_ret (gs' := []) Tryz.func125 rfl (List.Sublist.refl _) (Sto.Le.refl _) ⟨rfl, rfl⟩
theorem crc_Table_Add_ok {a0 : List Int} {a1 : Int} {a2 : List Int} {bi1 : Nat} {v3 : Value} {r : Int} (h : crc_Table_Add a0 a1 a2 r) (σ : Sto) (hc2 : CelN σ ⟨bi1, 0, none⟩ (cellsN (Value.int .u32) 0 1024 a0)) (hs4 : Sl (kI .u8) σ v3 a2) :
    Does Tryz.prog 126 [.pointer (some ⟨bi1, 0, none⟩), .int .u32 a1, v3] σ [] (fun v τ gs => gs = [] ∧ .int .u32 r = v) := by
 refine call_of Tryz.func126 Tryz.ntmps126 rfl rfl (fun cs fs => ?_)
 refine Z 16 rfl ?_
 refine st_cut (fun ρ τ5 gs => ∃ (s5 : Int × List Int) (v6 : Value), crc_Table_Add_j1 a0 s5 r ∧ σ.Le τ5 ∧ ESub ρ [(0, .pointer (some ⟨bi1, 0, none⟩)), (1, .int .u32 s5.1), (2, v6), (6, .int .u32 0)] ∧ gs = [] ∧ Sl (kI .u8) τ5 v6 s5.2) ?_ (fun hk5 => ?_)
 ·rintro ρ5 τ5 gs5 ⟨s5, v6, h, hl5, hρ, rfl, hs7⟩
  refine st_es hρ ?_
  refine st_seq ?_
  refine st_cut (fun ρ τ8 gs => ∃ (s8 : Int), crc_Table_Add_j2 s8 r ∧ τ5.Le τ8 ∧ ESub ρ [(1, .int .u32 s8), (6, .int .u32 0)] ∧ gs = []) ?_ (fun hk8 => ?_)
  ·rintro ρ8 τ8 gs8 ⟨s8, h, hl8, hρ, rfl⟩
   refine st_es hρ ?_
   refine Z 5 rfl ?_
   obtain rfl := Eq.symm h
   exact st_ret (gs' := []) Tryz.func126 rfl (List.Sublist.refl _) (hl5.trans hl8) ⟨rfl, rfl⟩
  refine Z 3 rfl ?_
  refine o_lenI rfl rfl rfl z_slT23 rfl hs7 ?_
  refine Z 2 rfl ?_
  obtain ⟨e9, hL9, hA9⟩ := h
  refine st_loop hL9 (fun (s9 : Int × Int) ρ τ9 gs => τ5.Le τ9 ∧ ESub ρ [(0, .pointer (some ⟨bi1, 0, none⟩)), (1, .int .u32 s9.1), (6, .int .u32 0), (77, v6), (78, .int .i64 (s5.2.length : Int)), (79, .int .i64 s9.2)] ∧ gs = []) ⟨Sto.Le.refl _, rfl, rfl⟩ ?_
  rintro s9 o9 h he9 ρ9 τ9 gs9 ⟨hl9, hρ, rfl⟩ hn9
  refine st_es hρ ?_
  refine Z 5 rfl ?_
  refine st_if rfl h (fun h => ?_) (fun h => ?_)
  ·refine Z 5 rfl ?_
   obtain ⟨q10, hf11, h⟩ := h
   refine o_index rfl rfl rfl z_slT23 rfl rfl (hs7.up hl9) rfl hf11 (fun b12 of13 vs hc14 hrep => ?_)
   obtain rfl := hrep
   refine o_loadI (v := .int .u8 q10) rfl rfl rfl z_sc5 rfl (hc14 0 _ rfl) ?_
   refine Z 12 rfl ?_
   refine o_indexA rfl rfl rfl z_arr127 rfl rfl (by decide) (by decide) ?_
   obtain ⟨hf15, hf16, h⟩ := h
   refine o_indexA rfl rfl rfl z_arr126 rfl rfl hf15 hf16 ?_
   refine o_loadI (v := .int .u32 (a0.getD ((ixor .u8 (IntKind.u8.wrap s9.1) q10).toNat) 0)) rfl rfl rfl z_sc57 rfl (cel_big (q := (ixor .u8 (IntKind.u8.wrap s9.1) q10).toNat) (hc2.up (hl5.trans hl9)) (by omega) (by omega)) ?_
   refine Z 8 rfl ?_
   exact hn9 _ _ _ _ h ⟨hl9, rfl, rfl⟩
  ·refine st_exit rfl ?_
   obtain rfl := he9 _ h
   replace h := hA9
   exact hk8 _ _ _ ⟨s9.1, h, hl9, rfl, rfl⟩
 obtain ⟨e18, hL18, hA18⟩ := h
 refine st_loop hL18 (fun (s18 : Int × List Int) ρ τ18 gs => σ.Le τ18 ∧ ∃ (v19 : Value), ESub ρ [(0, .pointer (some ⟨bi1, 0, none⟩)), (1, .int .u32 s18.1), (2, v19), (6, .int .u32 0)] ∧ gs = [] ∧ Sl (kI .u8) τ18 v19 s18.2) ⟨Sto.Le.refl _, _, rfl, rfl, hs4⟩ ?_
 rintro s18 o18 h he18 ρ18 τ18 gs18 ⟨hl18, v19, hρ, rfl, hs20⟩ hn18
 refine st_es hρ ?_
 refine Z 5 rfl ?_
 refine o_lenI rfl rfl rfl z_slT23 rfl hs20 ?_
 refine Z 2 rfl ?_
 refine st_if rfl h (fun h => ?_) (fun h => ?_)
 ·refine st_exit rfl ?_
  obtain rfl := he18 _ h
  replace h := hA18
  exact hk5 _ _ _ ⟨(s18.1, s18.2), _, h, hl18, rfl, rfl, hs20⟩
 ·refine Z 2 rfl ?_
  obtain ⟨q21, hf22, q26, hf27, q31, hf32, q36, hf37, h⟩ := h
  refine st_draw 24 (dl [.v (.int .u32 s18.1), .v (v19), .t fun τ v => ∃ (b23 : Nat) (of24 : Nat) (vsb23 : List Value), (.pointer (some ⟨b23, of24, none⟩) : Value) = v ∧ CelN τ ⟨b23, of24, none⟩ vsb23 ∧ (kI .u8).rep τ vsb23 q21, .v (.int .u8 q21), .v (.int .u32 (IntKind.u32.wrap q21)), .v (v19), .t fun τ v => ∃ (b28 : Nat) (of29 : Nat) (vsb28 : List Value), (.pointer (some ⟨b28, of29, none⟩) : Value) = v ∧ CelN τ ⟨b28, of29, none⟩ vsb28 ∧ (kI .u8).rep τ vsb28 q26, .v (.int .u8 q26), .v (.int .u32 (IntKind.u32.wrap q26)), .v (.int .u32 (ishl .u32 (IntKind.u32.wrap q26) 8)), .v (.int .u32 (ior .u32 (IntKind.u32.wrap q21) (ishl .u32 (IntKind.u32.wrap q26) 8))), .v (v19), .t fun τ v => ∃ (b33 : Nat) (of34 : Nat) (vsb33 : List Value), (.pointer (some ⟨b33, of34, none⟩) : Value) = v ∧ CelN τ ⟨b33, of34, none⟩ vsb33 ∧ (kI .u8).rep τ vsb33 q31, .v (.int .u8 q31), .v (.int .u32 (IntKind.u32.wrap q31)), .v (.int .u32 (ishl .u32 (IntKind.u32.wrap q31) 16)), .v (.int .u32 (ior .u32 (ior .u32 (IntKind.u32.wrap q21) (ishl .u32 (IntKind.u32.wrap q26) 8)) (ishl .u32 (IntKind.u32.wrap q31) 16))), .v (v19), .t fun τ v => ∃ (b38 : Nat) (of39 : Nat) (vsb38 : List Value), (.pointer (some ⟨b38, of39, none⟩) : Value) = v ∧ CelN τ ⟨b38, of39, none⟩ vsb38 ∧ (kI .u8).rep τ vsb38 q36, .v (.int .u8 q36), .v (.int .u32 (IntKind.u32.wrap q36)), .v (.int .u32 (ishl .u32 (IntKind.u32.wrap q36) 24)), .v (.int .u32 (ior .u32 (ior .u32 (ior .u32 (IntKind.u32.wrap q21) (ishl .u32 (IntKind.u32.wrap q26) 8)) (ishl .u32 (IntKind.u32.wrap q31) 16)) (ishl .u32 (IntKind.u32.wrap q36) 24))), .v (.int .u32 (ixor .u32 s18.1 (ior .u32 (ior .u32 (ior .u32 (IntKind.u32.wrap q21) (ishl .u32 (IntKind.u32.wrap q26) 8)) (ishl .u32 (IntKind.u32.wrap q31) 16)) (ishl .u32 (IntKind.u32.wrap q36) 24))))]) (fun _ _ => []) z_mix rfl (dl_mono (by exact ⟨fun _ _ _ hl ⟨b23, of24, vsb23, hv, hc25, hrepb23⟩ => ⟨b23, of24, vsb23, hv, hc25.up hl, Kd.mono _ hl hrepb23⟩, ⟨fun _ _ _ hl ⟨b28, of29, vsb28, hv, hc30, hrepb28⟩ => ⟨b28, of29, vsb28, hv, hc30.up hl, Kd.mono _ hl hrepb28⟩, ⟨fun _ _ _ hl ⟨b33, of34, vsb33, hv, hc35, hrepb33⟩ => ⟨b33, of34, vsb33, hv, hc35.up hl, Kd.mono _ hl hrepb33⟩, ⟨fun _ _ _ hl ⟨b38, of39, vsb38, hv, hc40, hrepb38⟩ => ⟨b38, of39, vsb38, hv, hc40.up hl, Kd.mono _ hl hrepb38⟩, trivial⟩⟩⟩⟩)) (allB_cons (allB_cons (allB_cons (allB_cons (allB_cons (allB_cons (allB_cons (allB_cons (allB_cons (allB_cons (allB_cons (allB_cons (allB_cons (allB_cons (allB_cons (allB_cons (allB_cons (allB_cons (allB_cons (allB_cons (allB_cons (allB_cons (allB_cons (allB_cons allB_nil (p1 dA)) (p1 dA)) ?_) ?_) (p1 dA)) (p1 dA)) ?_) ?_) (p1 dA)) (p1 dA)) (p1 dA)) (p1 dA)) ?_) ?_) (p1 dA)) (p1 dA)) (p1 dA)) (p1 dA)) ?_) ?_) (p1 dA)) (p1 dA)) (p1 dA)) (p1 dA)) ?_
  ·intro ρ' τ pool rs hl hd hout hk
   obtain ⟨_, e1, rfl⟩ := hd 1 rfl
   refine o_index rfl rfl rfl z_slT23 rfl e1 (hs20.up hl) rfl hf22 (fun b23 of24 vsb23 hc25 hrepb23 => ?_)
   exact st_addNil (hk _ _ (Sto.Le.refl _) ⟨b23, of24, _, rfl, hc25, hrepb23⟩)
  ·intro ρ' τ pool rs hl hd hout hk
   obtain ⟨_, e2, b23, of24, vsb23, rfl, hc25, hrepb23⟩ := hd 2 rfl
   have hrepb23 := hrepb23
   obtain rfl := hrepb23
   refine o_loadI (v := .int .u8 q21) rfl rfl rfl z_sc5 e2 (hc25 0 _ rfl) ?_
   exact st_addNil (hk _ _ (Sto.Le.refl _) rfl)
  ·intro ρ' τ pool rs hl hd hout hk
   obtain ⟨_, e5, rfl⟩ := hd 5 rfl
   refine o_index rfl rfl rfl z_slT23 rfl e5 (hs20.up hl) rfl hf27 (fun b28 of29 vsb28 hc30 hrepb28 => ?_)
   exact st_addNil (hk _ _ (Sto.Le.refl _) ⟨b28, of29, _, rfl, hc30, hrepb28⟩)
  ·intro ρ' τ pool rs hl hd hout hk
   obtain ⟨_, e6, b28, of29, vsb28, rfl, hc30, hrepb28⟩ := hd 6 rfl
   have hrepb28 := hrepb28
   obtain rfl := hrepb28
   refine o_loadI (v := .int .u8 q26) rfl rfl rfl z_sc5 e6 (hc30 0 _ rfl) ?_
   exact st_addNil (hk _ _ (Sto.Le.refl _) rfl)
  ·intro ρ' τ pool rs hl hd hout hk
   obtain ⟨_, e11, rfl⟩ := hd 11 rfl
   refine o_index rfl rfl rfl z_slT23 rfl e11 (hs20.up hl) rfl hf32 (fun b33 of34 vsb33 hc35 hrepb33 => ?_)
   exact st_addNil (hk _ _ (Sto.Le.refl _) ⟨b33, of34, _, rfl, hc35, hrepb33⟩)
  ·intro ρ' τ pool rs hl hd hout hk
   obtain ⟨_, e12, b33, of34, vsb33, rfl, hc35, hrepb33⟩ := hd 12 rfl
   have hrepb33 := hrepb33
   obtain rfl := hrepb33
   refine o_loadI (v := .int .u8 q31) rfl rfl rfl z_sc5 e12 (hc35 0 _ rfl) ?_
   exact st_addNil (hk _ _ (Sto.Le.refl _) rfl)
  ·intro ρ' τ pool rs hl hd hout hk
   obtain ⟨_, e17, rfl⟩ := hd 17 rfl
   refine o_index rfl rfl rfl z_slT23 rfl e17 (hs20.up hl) rfl hf37 (fun b38 of39 vsb38 hc40 hrepb38 => ?_)
   exact st_addNil (hk _ _ (Sto.Le.refl _) ⟨b38, of39, _, rfl, hc40, hrepb38⟩)
  ·intro ρ' τ pool rs hl hd hout hk
   obtain ⟨_, e18, b38, of39, vsb38, rfl, hc40, hrepb38⟩ := hd 18 rfl
   have hrepb38 := hrepb38
   obtain rfl := hrepb38
   refine o_loadI (v := .int .u8 q36) rfl rfl rfl z_sc5 e18 (hc40 0 _ rfl) ?_
   exact st_addNil (hk _ _ (Sto.Le.refl _) rfl)
  intro ρ' τ41 vals hl41 hv hout
  refine st_ord [] _ rfl ?_
  refine st_env (ρ' := [(37, .int .u32 (ixor .u32 s18.1 (ior .u32 (ior .u32 (ior .u32 (IntKind.u32.wrap q21) (ishl .u32 (IntKind.u32.wrap q26) 8)) (ishl .u32 (IntKind.u32.wrap q31) 16)) (ishl .u32 (IntKind.u32.wrap q36) 24)))), (0, .pointer (some ⟨bi1, 0, none⟩)), (2, v19), (6, .int .u32 0)]) ⟨(lv1 hv 23 rfl rfl), (hout 0 rfl).trans rfl, (hout 2 rfl).trans rfl, (hout 6 rfl).trans rfl, trivial⟩ ?_
  refine Z 3 rfl ?_
  obtain ⟨hf42, hf43, hf44, hf45, hf46, hf47, hf48, hf49, h⟩ := h
  refine st_draw 37 (dl [.v (.pointer (some ⟨bi1, 0, none⟩)), .v (.int .u32 (ixor .u32 s18.1 (ior .u32 (ior .u32 (ior .u32 (IntKind.u32.wrap q21) (ishl .u32 (IntKind.u32.wrap q26) 8)) (ishl .u32 (IntKind.u32.wrap q31) 16)) (ishl .u32 (IntKind.u32.wrap q36) 24)))), .v (.int .u32 (iand .u32 (ixor .u32 s18.1 (ior .u32 (ior .u32 (ior .u32 (IntKind.u32.wrap q21) (ishl .u32 (IntKind.u32.wrap q26) 8)) (ishl .u32 (IntKind.u32.wrap q31) 16)) (ishl .u32 (IntKind.u32.wrap q36) 24))) 255)), .v (.pointer (some ⟨bi1, 0, none⟩)), .v (.pointer (some ⟨bi1, 0 + 0, none⟩)), .v (.pointer (some ⟨bi1, 0 + 0 + (3 : Int).toNat * 256, none⟩)), .v (.pointer (some ⟨bi1, 0 + 0 + (3 : Int).toNat * 256 + (iand .u32 (ixor .u32 s18.1 (ior .u32 (ior .u32 (ior .u32 (IntKind.u32.wrap q21) (ishl .u32 (IntKind.u32.wrap q26) 8)) (ishl .u32 (IntKind.u32.wrap q31) 16)) (ishl .u32 (IntKind.u32.wrap q36) 24))) 255).toNat * 1, none⟩)), .v (.int .u32 (a0.getD (768 + (iand .u32 (ixor .u32 s18.1 (ior .u32 (ior .u32 (ior .u32 (IntKind.u32.wrap q21) (ishl .u32 (IntKind.u32.wrap q26) 8)) (ishl .u32 (IntKind.u32.wrap q31) 16)) (ishl .u32 (IntKind.u32.wrap q36) 24))) 255).toNat) 0)), .v (.pointer (some ⟨bi1, 0, none⟩)), .v (.int .u32 (ixor .u32 s18.1 (ior .u32 (ior .u32 (ior .u32 (IntKind.u32.wrap q21) (ishl .u32 (IntKind.u32.wrap q26) 8)) (ishl .u32 (IntKind.u32.wrap q31) 16)) (ishl .u32 (IntKind.u32.wrap q36) 24)))), .v (.int .u32 (ishr .u32 (ixor .u32 s18.1 (ior .u32 (ior .u32 (ior .u32 (IntKind.u32.wrap q21) (ishl .u32 (IntKind.u32.wrap q26) 8)) (ishl .u32 (IntKind.u32.wrap q31) 16)) (ishl .u32 (IntKind.u32.wrap q36) 24))) 8)), .v (.int .u32 (iand .u32 (ishr .u32 (ixor .u32 s18.1 (ior .u32 (ior .u32 (ior .u32 (IntKind.u32.wrap q21) (ishl .u32 (IntKind.u32.wrap q26) 8)) (ishl .u32 (IntKind.u32.wrap q31) 16)) (ishl .u32 (IntKind.u32.wrap q36) 24))) 8) 255)), .v (.pointer (some ⟨bi1, 0, none⟩)), .v (.pointer (some ⟨bi1, 0 + 0, none⟩)), .v (.pointer (some ⟨bi1, 0 + 0 + (2 : Int).toNat * 256, none⟩)), .v (.pointer (some ⟨bi1, 0 + 0 + (2 : Int).toNat * 256 + (iand .u32 (ishr .u32 (ixor .u32 s18.1 (ior .u32 (ior .u32 (ior .u32 (IntKind.u32.wrap q21) (ishl .u32 (IntKind.u32.wrap q26) 8)) (ishl .u32 (IntKind.u32.wrap q31) 16)) (ishl .u32 (IntKind.u32.wrap q36) 24))) 8) 255).toNat * 1, none⟩)), .v (.int .u32 (a0.getD (512 + (iand .u32 (ishr .u32 (ixor .u32 s18.1 (ior .u32 (ior .u32 (ior .u32 (IntKind.u32.wrap q21) (ishl .u32 (IntKind.u32.wrap q26) 8)) (ishl .u32 (IntKind.u32.wrap q31) 16)) (ishl .u32 (IntKind.u32.wrap q36) 24))) 8) 255).toNat) 0)), .v (.int .u32 (ixor .u32 (a0.getD (768 + (iand .u32 (ixor .u32 s18.1 (ior .u32 (ior .u32 (ior .u32 (IntKind.u32.wrap q21) (ishl .u32 (IntKind.u32.wrap q26) 8)) (ishl .u32 (IntKind.u32.wrap q31) 16)) (ishl .u32 (IntKind.u32.wrap q36) 24))) 255).toNat) 0) (a0.getD (512 + (iand .u32 (ishr .u32 (ixor .u32 s18.1 (ior .u32 (ior .u32 (ior .u32 (IntKind.u32.wrap q21) (ishl .u32 (IntKind.u32.wrap q26) 8)) (ishl .u32 (IntKind.u32.wrap q31) 16)) (ishl .u32 (IntKind.u32.wrap q36) 24))) 8) 255).toNat) 0))), .v (.pointer (some ⟨bi1, 0, none⟩)), .v (.int .u32 (ixor .u32 s18.1 (ior .u32 (ior .u32 (ior .u32 (IntKind.u32.wrap q21) (ishl .u32 (IntKind.u32.wrap q26) 8)) (ishl .u32 (IntKind.u32.wrap q31) 16)) (ishl .u32 (IntKind.u32.wrap q36) 24)))), .v (.int .u32 (ishr .u32 (ixor .u32 s18.1 (ior .u32 (ior .u32 (ior .u32 (IntKind.u32.wrap q21) (ishl .u32 (IntKind.u32.wrap q26) 8)) (ishl .u32 (IntKind.u32.wrap q31) 16)) (ishl .u32 (IntKind.u32.wrap q36) 24))) 16)), .v (.int .u32 (iand .u32 (ishr .u32 (ixor .u32 s18.1 (ior .u32 (ior .u32 (ior .u32 (IntKind.u32.wrap q21) (ishl .u32 (IntKind.u32.wrap q26) 8)) (ishl .u32 (IntKind.u32.wrap q31) 16)) (ishl .u32 (IntKind.u32.wrap q36) 24))) 16) 255)), .v (.pointer (some ⟨bi1, 0, none⟩)), .v (.pointer (some ⟨bi1, 0 + 0, none⟩)), .v (.pointer (some ⟨bi1, 0 + 0 + (1 : Int).toNat * 256, none⟩)), .v (.pointer (some ⟨bi1, 0 + 0 + (1 : Int).toNat * 256 + (iand .u32 (ishr .u32 (ixor .u32 s18.1 (ior .u32 (ior .u32 (ior .u32 (IntKind.u32.wrap q21) (ishl .u32 (IntKind.u32.wrap q26) 8)) (ishl .u32 (IntKind.u32.wrap q31) 16)) (ishl .u32 (IntKind.u32.wrap q36) 24))) 16) 255).toNat * 1, none⟩)), .v (.int .u32 (a0.getD (256 + (iand .u32 (ishr .u32 (ixor .u32 s18.1 (ior .u32 (ior .u32 (ior .u32 (IntKind.u32.wrap q21) (ishl .u32 (IntKind.u32.wrap q26) 8)) (ishl .u32 (IntKind.u32.wrap q31) 16)) (ishl .u32 (IntKind.u32.wrap q36) 24))) 16) 255).toNat) 0)), .v (.int .u32 (ixor .u32 (ixor .u32 (a0.getD (768 + (iand .u32 (ixor .u32 s18.1 (ior .u32 (ior .u32 (ior .u32 (IntKind.u32.wrap q21) (ishl .u32 (IntKind.u32.wrap q26) 8)) (ishl .u32 (IntKind.u32.wrap q31) 16)) (ishl .u32 (IntKind.u32.wrap q36) 24))) 255).toNat) 0) (a0.getD (512 + (iand .u32 (ishr .u32 (ixor .u32 s18.1 (ior .u32 (ior .u32 (ior .u32 (IntKind.u32.wrap q21) (ishl .u32 (IntKind.u32.wrap q26) 8)) (ishl .u32 (IntKind.u32.wrap q31) 16)) (ishl .u32 (IntKind.u32.wrap q36) 24))) 8) 255).toNat) 0)) (a0.getD (256 + (iand .u32 (ishr .u32 (ixor .u32 s18.1 (ior .u32 (ior .u32 (ior .u32 (IntKind.u32.wrap q21) (ishl .u32 (IntKind.u32.wrap q26) 8)) (ishl .u32 (IntKind.u32.wrap q31) 16)) (ishl .u32 (IntKind.u32.wrap q36) 24))) 16) 255).toNat) 0))), .v (.pointer (some ⟨bi1, 0, none⟩)), .v (.int .u32 (ixor .u32 s18.1 (ior .u32 (ior .u32 (ior .u32 (IntKind.u32.wrap q21) (ishl .u32 (IntKind.u32.wrap q26) 8)) (ishl .u32 (IntKind.u32.wrap q31) 16)) (ishl .u32 (IntKind.u32.wrap q36) 24)))), .v (.int .u32 (ishr .u32 (ixor .u32 s18.1 (ior .u32 (ior .u32 (ior .u32 (IntKind.u32.wrap q21) (ishl .u32 (IntKind.u32.wrap q26) 8)) (ishl .u32 (IntKind.u32.wrap q31) 16)) (ishl .u32 (IntKind.u32.wrap q36) 24))) 24)), .v (.pointer (some ⟨bi1, 0, none⟩)), .v (.pointer (some ⟨bi1, 0 + 0, none⟩)), .v (.pointer (some ⟨bi1, 0 + 0 + (0 : Int).toNat * 256, none⟩)), .v (.pointer (some ⟨bi1, 0 + 0 + (0 : Int).toNat * 256 + (ishr .u32 (ixor .u32 s18.1 (ior .u32 (ior .u32 (ior .u32 (IntKind.u32.wrap q21) (ishl .u32 (IntKind.u32.wrap q26) 8)) (ishl .u32 (IntKind.u32.wrap q31) 16)) (ishl .u32 (IntKind.u32.wrap q36) 24))) 24).toNat * 1, none⟩)), .v (.int .u32 (a0.getD ((ishr .u32 (ixor .u32 s18.1 (ior .u32 (ior .u32 (ior .u32 (IntKind.u32.wrap q21) (ishl .u32 (IntKind.u32.wrap q26) 8)) (ishl .u32 (IntKind.u32.wrap q31) 16)) (ishl .u32 (IntKind.u32.wrap q36) 24))) 24).toNat) 0)), .v (.int .u32 (ixor .u32 (ixor .u32 (ixor .u32 (a0.getD (768 + (iand .u32 (ixor .u32 s18.1 (ior .u32 (ior .u32 (ior .u32 (IntKind.u32.wrap q21) (ishl .u32 (IntKind.u32.wrap q26) 8)) (ishl .u32 (IntKind.u32.wrap q31) 16)) (ishl .u32 (IntKind.u32.wrap q36) 24))) 255).toNat) 0) (a0.getD (512 + (iand .u32 (ishr .u32 (ixor .u32 s18.1 (ior .u32 (ior .u32 (ior .u32 (IntKind.u32.wrap q21) (ishl .u32 (IntKind.u32.wrap q26) 8)) (ishl .u32 (IntKind.u32.wrap q31) 16)) (ishl .u32 (IntKind.u32.wrap q36) 24))) 8) 255).toNat) 0)) (a0.getD (256 + (iand .u32 (ishr .u32 (ixor .u32 s18.1 (ior .u32 (ior .u32 (ior .u32 (IntKind.u32.wrap q21) (ishl .u32 (IntKind.u32.wrap q26) 8)) (ishl .u32 (IntKind.u32.wrap q31) 16)) (ishl .u32 (IntKind.u32.wrap q36) 24))) 16) 255).toNat) 0)) (a0.getD ((ishr .u32 (ixor .u32 s18.1 (ior .u32 (ior .u32 (ior .u32 (IntKind.u32.wrap q21) (ishl .u32 (IntKind.u32.wrap q26) 8)) (ishl .u32 (IntKind.u32.wrap q31) 16)) (ishl .u32 (IntKind.u32.wrap q36) 24))) 24).toNat) 0)))]) (fun _ _ => []) z_mix rfl (dl_mono (by exact trivial)) (allB_cons (allB_cons (allB_cons (allB_cons (allB_cons (allB_cons (allB_cons (allB_cons (allB_cons (allB_cons (allB_cons (allB_cons (allB_cons (allB_cons (allB_cons (allB_cons (allB_cons (allB_cons (allB_cons (allB_cons (allB_cons (allB_cons (allB_cons (allB_cons (allB_cons (allB_cons (allB_cons (allB_cons (allB_cons (allB_cons (allB_cons (allB_cons (allB_cons (allB_cons (allB_cons (allB_cons (allB_cons allB_nil (p1 dA)) (p1 dA)) (p1 dA)) (p1 dA)) (p1 dA)) ?_) ?_) ?_) (p1 dA)) (p1 dA)) (p1 dA)) (p1 dA)) (p1 dA)) (p1 dA)) ?_) ?_) ?_) (p1 dA)) (p1 dA)) (p1 dA)) (p1 dA)) (p1 dA)) (p1 dA)) (p1 dA)) ?_) ?_) ?_) (p1 dA)) (p1 dA)) (p1 dA)) (p1 dA)) (p1 dA)) (p1 dA)) ?_) ?_) ?_) (p1 dA)) ?_
  ·intro ρ' τ pool rs hl hd hout hk
   obtain ⟨_, e4, rfl⟩ := hd 4 rfl
   refine o_indexA rfl rfl rfl z_arr127 e4 rfl (by decide) (by decide) ?_
   exact st_addNil (hk _ _ (Sto.Le.refl _) rfl)
  ·intro ρ' τ pool rs hl hd hout hk
   obtain ⟨_, e2, rfl⟩ := hd 2 rfl
   obtain ⟨_, e5, rfl⟩ := hd 5 rfl
   refine o_indexA rfl rfl rfl z_arr126 e5 e2 hf42 hf43 ?_
   exact st_addNil (hk _ _ (Sto.Le.refl _) rfl)
  ·intro ρ' τ pool rs hl hd hout hk
   obtain ⟨_, e6, rfl⟩ := hd 6 rfl
   refine o_loadI (v := .int .u32 (a0.getD (768 + (iand .u32 (ixor .u32 s18.1 (ior .u32 (ior .u32 (ior .u32 (IntKind.u32.wrap q21) (ishl .u32 (IntKind.u32.wrap q26) 8)) (ishl .u32 (IntKind.u32.wrap q31) 16)) (ishl .u32 (IntKind.u32.wrap q36) 24))) 255).toNat) 0)) rfl rfl rfl z_sc57 e6 (cel_big (q := (768 + (iand .u32 (ixor .u32 s18.1 (ior .u32 (ior .u32 (ior .u32 (IntKind.u32.wrap q21) (ishl .u32 (IntKind.u32.wrap q26) 8)) (ishl .u32 (IntKind.u32.wrap q31) 16)) (ishl .u32 (IntKind.u32.wrap q36) 24))) 255).toNat)) (hc2.up ((hl18.trans hl41).trans hl)) (by omega) (by omega)) ?_
   exact st_addNil (hk _ _ (Sto.Le.refl _) rfl)
  ·intro ρ' τ pool rs hl hd hout hk
   obtain ⟨_, e13, rfl⟩ := hd 13 rfl
   refine o_indexA rfl rfl rfl z_arr127 e13 rfl (by decide) (by decide) ?_
   exact st_addNil (hk _ _ (Sto.Le.refl _) rfl)
  ·intro ρ' τ pool rs hl hd hout hk
   obtain ⟨_, e11, rfl⟩ := hd 11 rfl
   obtain ⟨_, e14, rfl⟩ := hd 14 rfl
   refine o_indexA rfl rfl rfl z_arr126 e14 e11 hf44 hf45 ?_
   exact st_addNil (hk _ _ (Sto.Le.refl _) rfl)
  ·intro ρ' τ pool rs hl hd hout hk
   obtain ⟨_, e15, rfl⟩ := hd 15 rfl
   refine o_loadI (v := .int .u32 (a0.getD (512 + (iand .u32 (ishr .u32 (ixor .u32 s18.1 (ior .u32 (ior .u32 (ior .u32 (IntKind.u32.wrap q21) (ishl .u32 (IntKind.u32.wrap q26) 8)) (ishl .u32 (IntKind.u32.wrap q31) 16)) (ishl .u32 (IntKind.u32.wrap q36) 24))) 8) 255).toNat) 0)) rfl rfl rfl z_sc57 e15 (cel_big (q := (512 + (iand .u32 (ishr .u32 (ixor .u32 s18.1 (ior .u32 (ior .u32 (ior .u32 (IntKind.u32.wrap q21) (ishl .u32 (IntKind.u32.wrap q26) 8)) (ishl .u32 (IntKind.u32.wrap q31) 16)) (ishl .u32 (IntKind.u32.wrap q36) 24))) 8) 255).toNat)) (hc2.up ((hl18.trans hl41).trans hl)) (by omega) (by omega)) ?_
   exact st_addNil (hk _ _ (Sto.Le.refl _) rfl)
  ·intro ρ' τ pool rs hl hd hout hk
   obtain ⟨_, e23, rfl⟩ := hd 23 rfl
   refine o_indexA rfl rfl rfl z_arr127 e23 rfl (by decide) (by decide) ?_
   exact st_addNil (hk _ _ (Sto.Le.refl _) rfl)
  ·intro ρ' τ pool rs hl hd hout hk
   obtain ⟨_, e21, rfl⟩ := hd 21 rfl
   obtain ⟨_, e24, rfl⟩ := hd 24 rfl
   refine o_indexA rfl rfl rfl z_arr126 e24 e21 hf46 hf47 ?_
   exact st_addNil (hk _ _ (Sto.Le.refl _) rfl)
  ·intro ρ' τ pool rs hl hd hout hk
   obtain ⟨_, e25, rfl⟩ := hd 25 rfl
   refine o_loadI (v := .int .u32 (a0.getD (256 + (iand .u32 (ishr .u32 (ixor .u32 s18.1 (ior .u32 (ior .u32 (ior .u32 (IntKind.u32.wrap q21) (ishl .u32 (IntKind.u32.wrap q26) 8)) (ishl .u32 (IntKind.u32.wrap q31) 16)) (ishl .u32 (IntKind.u32.wrap q36) 24))) 16) 255).toNat) 0)) rfl rfl rfl z_sc57 e25 (cel_big (q := (256 + (iand .u32 (ishr .u32 (ixor .u32 s18.1 (ior .u32 (ior .u32 (ior .u32 (IntKind.u32.wrap q21) (ishl .u32 (IntKind.u32.wrap q26) 8)) (ishl .u32 (IntKind.u32.wrap q31) 16)) (ishl .u32 (IntKind.u32.wrap q36) 24))) 16) 255).toNat)) (hc2.up ((hl18.trans hl41).trans hl)) (by omega) (by omega)) ?_
   exact st_addNil (hk _ _ (Sto.Le.refl _) rfl)
  ·intro ρ' τ pool rs hl hd hout hk
   obtain ⟨_, e32, rfl⟩ := hd 32 rfl
   refine o_indexA rfl rfl rfl z_arr127 e32 rfl (by decide) (by decide) ?_
   exact st_addNil (hk _ _ (Sto.Le.refl _) rfl)
  ·intro ρ' τ pool rs hl hd hout hk
   obtain ⟨_, e30, rfl⟩ := hd 30 rfl
   obtain ⟨_, e33, rfl⟩ := hd 33 rfl
   refine o_indexA rfl rfl rfl z_arr126 e33 e30 hf48 hf49 ?_
   exact st_addNil (hk _ _ (Sto.Le.refl _) rfl)
  ·intro ρ' τ pool rs hl hd hout hk
   obtain ⟨_, e34, rfl⟩ := hd 34 rfl
   refine o_loadI (v := .int .u32 (a0.getD ((ishr .u32 (ixor .u32 s18.1 (ior .u32 (ior .u32 (ior .u32 (IntKind.u32.wrap q21) (ishl .u32 (IntKind.u32.wrap q26) 8)) (ishl .u32 (IntKind.u32.wrap q31) 16)) (ishl .u32 (IntKind.u32.wrap q36) 24))) 24).toNat) 0)) rfl rfl rfl z_sc57 e34 (cel_big (q := (ishr .u32 (ixor .u32 s18.1 (ior .u32 (ior .u32 (ior .u32 (IntKind.u32.wrap q21) (ishl .u32 (IntKind.u32.wrap q26) 8)) (ishl .u32 (IntKind.u32.wrap q31) 16)) (ishl .u32 (IntKind.u32.wrap q36) 24))) 24).toNat) (hc2.up ((hl18.trans hl41).trans hl)) (by omega) (by omega)) ?_
   exact st_addNil (hk _ _ (Sto.Le.refl _) rfl)
  intro ρ' τ50 vals hl50 hv hout
  refine st_ord [] _ rfl ?_
  refine st_env (ρ' := [(74, .int .u32 (ixor .u32 (ixor .u32 (ixor .u32 (a0.getD (768 + (iand .u32 (ixor .u32 s18.1 (ior .u32 (ior .u32 (ior .u32 (IntKind.u32.wrap q21) (ishl .u32 (IntKind.u32.wrap q26) 8)) (ishl .u32 (IntKind.u32.wrap q31) 16)) (ishl .u32 (IntKind.u32.wrap q36) 24))) 255).toNat) 0) (a0.getD (512 + (iand .u32 (ishr .u32 (ixor .u32 s18.1 (ior .u32 (ior .u32 (ior .u32 (IntKind.u32.wrap q21) (ishl .u32 (IntKind.u32.wrap q26) 8)) (ishl .u32 (IntKind.u32.wrap q31) 16)) (ishl .u32 (IntKind.u32.wrap q36) 24))) 8) 255).toNat) 0)) (a0.getD (256 + (iand .u32 (ishr .u32 (ixor .u32 s18.1 (ior .u32 (ior .u32 (ior .u32 (IntKind.u32.wrap q21) (ishl .u32 (IntKind.u32.wrap q26) 8)) (ishl .u32 (IntKind.u32.wrap q31) 16)) (ishl .u32 (IntKind.u32.wrap q36) 24))) 16) 255).toNat) 0)) (a0.getD ((ishr .u32 (ixor .u32 s18.1 (ior .u32 (ior .u32 (ior .u32 (IntKind.u32.wrap q21) (ishl .u32 (IntKind.u32.wrap q26) 8)) (ishl .u32 (IntKind.u32.wrap q31) 16)) (ishl .u32 (IntKind.u32.wrap q36) 24))) 24).toNat) 0))), (0, .pointer (some ⟨bi1, 0, none⟩)), (2, v19), (6, .int .u32 0)]) ⟨(lv1 hv 36 rfl rfl), (hout 0 rfl).trans rfl, (hout 2 rfl).trans rfl, (hout 6 rfl).trans rfl, trivial⟩ ?_
  refine Z 4 rfl ?_
  obtain ⟨hf51, hf52, h⟩ := h
  refine o_slice (L := 4) (H := (s18.2.length : Int)) rfl rfl rfl z_slT23 rfl rfl (hs20.up (hl41.trans hl50)) ⟨_, rfl⟩ rfl (by decide) hf51 hf52 trivial (by simp) (fun v53 hs54 => ?_)
  refine Z 3 rfl ?_
  exact hn18 _ _ _ _ h ⟨((hl18.trans hl41).trans hl50), _, rfl, rfl, hs54⟩
theorem crc_Table_End_ok {a0 : List Int} {a1 : Int} {bi1 : Nat} {r : Int} (h : crc_Table_End a0 a1 r) (σ : Sto) (hc2 : CelN σ ⟨bi1, 0, none⟩ (cellsN (Value.int .u32) 0 1024 a0)) :
    Does Tryz.prog 127 [.pointer (some ⟨bi1, 0, none⟩), .int .u32 a1] σ [] (fun v τ gs => gs = [] ∧ .int .u32 r = v) := by
 refine call_of Tryz.func127 Tryz.ntmps127 rfl rfl (fun cs fs => ?_)
 refine Z 18 rfl ?_
 obtain rfl := Eq.symm h
 exact st_ret (gs' := []) Tryz.func127 rfl (List.Sublist.refl _) (Sto.Le.refl _) ⟨rfl, rfl⟩
theorem crc_Table_Sum_ok {a0 : List Int} {a1 : List (List Int)} {bi1 : Nat} {v3 : Value} {r : Int} (h : crc_Table_Sum a0 a1 r) (σ : Sto) (hc2 : CelN σ ⟨bi1, 0, none⟩ (cellsN (Value.int .u32) 0 1024 a0)) (hs4 : Sl (kSl (kI .u8)) σ v3 a1) :
    Does Tryz.prog 99 [.pointer (some ⟨bi1, 0, none⟩), v3] σ [] (fun v τ gs => gs = [] ∧ .int .u32 r = v) := by
 refine call_of Tryz.func99 Tryz.ntmps99 rfl rfl (fun cs fs => ?_)
 refine Z 7 rfl ?_
 obtain ⟨r5, hr6, h⟩ := h
 refine st_call (foot := []) rfl rfl rfl rfl rfl rfl (callV_fn z_en125 (crc_Table_Begin_ok hr6 σ hc2)) ?_
 rintro vτ7 τ7 gsτ7 hl8 ⟨rfl, rfl⟩
 refine Z 3 rfl ?_
 refine st_cut (fun ρ τ9 gs => ∃ (s9 : Int), crc_Table_Sum_j1 a0 s9 r ∧ τ7.Le τ9 ∧ ESub ρ [(0, .pointer (some ⟨bi1, 0, none⟩)), (4, .int .u32 0), (5, .int .u32 s9)] ∧ gs = []) ?_ (fun hk9 => ?_)
 ·rintro ρ9 τ9 gs9 ⟨s9, h, hl9, hρ, rfl⟩
  refine st_es hρ ?_
  refine Z 4 rfl ?_
  obtain ⟨r10, hr11, h⟩ := h
  refine st_call (foot := []) rfl rfl rfl rfl rfl rfl (callV_fn z_en127 (crc_Table_End_ok hr11 τ9 (hc2.up (hl8.trans hl9)))) ?_
  rintro vτ12 τ12 gsτ12 hl13 ⟨rfl, rfl⟩
  refine Z 2 rfl ?_
  obtain rfl := Eq.symm h
  exact st_ret (gs' := []) Tryz.func99 rfl (List.Sublist.refl _) ((hl8.trans hl9).trans hl13) ⟨rfl, rfl⟩
 refine Z 3 rfl ?_
 refine o_lenI rfl rfl rfl z_slT22 rfl (hs4.up hl8) ?_
 refine Z 2 rfl ?_
 obtain ⟨e14, hL14, hA14⟩ := h
 refine st_loop hL14 (fun (s14 : Int × Int) ρ τ14 gs => τ7.Le τ14 ∧ ESub ρ [(0, .pointer (some ⟨bi1, 0, none⟩)), (4, .int .u32 0), (5, .int .u32 s14.1), (10, v3), (11, .int .i64 (a1.length : Int)), (12, .int .i64 s14.2)] ∧ gs = []) ⟨Sto.Le.refl _, rfl, rfl⟩ ?_
 rintro s14 o14 h he14 ρ14 τ14 gs14 ⟨hl14, hρ, rfl⟩ hn14
 refine st_es hρ ?_
 refine Z 5 rfl ?_
 refine st_if rfl h (fun h => ?_) (fun h => ?_)
 ·refine Z 5 rfl ?_
  obtain ⟨q15, hf16, h⟩ := h
  refine o_index rfl rfl rfl z_slT22 rfl rfl (hs4.up (hl8.trans hl14)) rfl hf16 (fun b17 of18 vs hc20 hrep => ?_)
  obtain ⟨v19, rfl, hs21⟩ := hrep
  refine o_loadI (v := v19) rfl rfl rfl z_sc23 rfl (hc20 0 _ rfl) ?_
  refine Z 6 rfl ?_
  obtain ⟨r22, hr23, h⟩ := h
  refine st_call (foot := []) rfl rfl rfl rfl rfl rfl (callV_fn z_en126 (crc_Table_Add_ok hr23 τ14 (hc2.up (hl8.trans hl14)) hs21)) ?_
  rintro vτ24 τ24 gsτ24 hl25 ⟨rfl, rfl⟩
  refine Z 7 rfl ?_
  exact hn14 _ _ _ _ h ⟨(hl14.trans hl25), rfl, rfl⟩
 ·refine st_exit rfl ?_
  obtain rfl := he14 _ h
  replace h := hA14
  exact hk9 _ _ _ ⟨s14.1, h, hl14, rfl, rfl⟩
theorem crc_bytes_ok {a0 : Int} {r : List Int} (h : crc_bytes a0 r) (σ : Sto)  :
    Does Tryz.prog 98 [.int .u32 a0] σ [] (fun v τ gs => gs = [] ∧ .agg [.int .u8 (r.getD 0 0), .int .u8 (r.getD 1 0), .int .u8 (r.getD 2 0), .int .u8 (r.getD 3 0)].toArray = v) := by
 refine call_of Tryz.func98 Tryz.ntmps98 rfl rfl (fun cs fs => ?_)
 refine Z 2 rfl ?_
 refine o_alloc rfl rfl rfl z_zero184 (fun b1 => ?_)
 refine Z 14 rfl ?_
 refine o_buildA (ps := [(0, [.int .u8 (IntKind.u8.wrap a0)]), (1, [.int .u8 (IntKind.u8.wrap (ishr .u32 a0 8))]), (2, [.int .u8 (IntKind.u8.wrap (ishr .u32 a0 16))]), (3, [.int .u8 (IntKind.u8.wrap (ishr .u32 a0 24))])]) (cs := [.int .u8 (IntKind.u8.wrap a0), .int .u8 (IntKind.u8.wrap (ishr .u32 a0 8)), .int .u8 (IntKind.u8.wrap (ishr .u32 a0 16)), .int .u8 (IntKind.u8.wrap (ishr .u32 a0 24))]) rfl rfl rfl z_arrz184 ⟨rfl, ⟨_, rfl, rfl⟩, ⟨rfl, ⟨_, rfl, rfl⟩, ⟨rfl, ⟨_, rfl, rfl⟩, ⟨rfl, ⟨_, rfl, rfl⟩, trivial⟩⟩⟩⟩ (fill_all [.int .u8 (IntKind.u8.wrap a0), .int .u8 (IntKind.u8.wrap (ishr .u32 a0 8)), .int .u8 (IntKind.u8.wrap (ishr .u32 a0 16)), .int .u8 (IntKind.u8.wrap (ishr .u32 a0 24))] _ rfl) ?_
 refine ZZ 2 [0] rfl rfl ?_
 obtain rfl := Eq.symm h
 exact st_retC (gs' := []) [.agg #[.int .u8 (IntKind.u8.wrap a0), .int .u8 (IntKind.u8.wrap (ishr .u32 a0 8)), .int .u8 (IntKind.u8.wrap (ishr .u32 a0 16)), .int .u8 (IntKind.u8.wrap (ishr .u32 a0 24))]] Tryz.func98 ⟨⟨_, _, _, _, rfl, mem_flat 0 rfl, fun w hw => cellOfN (vs := [.int .u8 (IntKind.u8.wrap a0), .int .u8 (IntKind.u8.wrap (ishr .u32 a0 8)), .int .u8 (IntKind.u8.wrap (ishr .u32 a0 16)), .int .u8 (IntKind.u8.wrap (ishr .u32 a0 24))]) z_agg184 rfl w hw⟩, trivial⟩ (by simp) (Sto.Le.refl _) ⟨rfl, rfl⟩
theorem crc_Open_ok {a0 : List Int} {a1 : List Int} {bi1 : Nat} {v3 : Value} {r : List Int × Int} (h : crc_Open a0 a1 r) (σ : Sto) (hc2 : CelN σ ⟨bi1, 0, none⟩ (cellsN (Value.int .u32) 0 1024 a0)) (hs4 : Sl (kI .u8) σ v3 a1) :
    Does Tryz.prog 62 [.pointer (some ⟨bi1, 0, none⟩), v3] σ [] (fun v τ gs => ∃ (v49 : Value), gs = [] ∧ .tuple [v49, .int .i64 r.2].toArray = v ∧ Sl (kI .u8) τ v49 r.1) := by
 refine call_of Tryz.func62 Tryz.ntmps62 rfl rfl (fun cs fs => ?_)
 refine Z 8 rfl ?_
 refine o_lenI rfl rfl rfl z_slT23 rfl hs4 ?_
 refine Z 18 rfl ?_
 refine st_if rfl h (fun h => ?_) (fun h => ?_)
 ·refine Z 5 rfl ?_
  obtain rfl := Eq.symm h
  exact st_ret (gs' := []) Tryz.func62 rfl (List.Sublist.refl _) (Sto.Le.refl _) ⟨_, rfl, rfl, Sl.nil⟩
 ·refine Z 7 rfl ?_
  obtain ⟨hf5, hf6, hf7, hf8, h⟩ := h
  refine o_slice (L := 0) (H := (IntKind.i64.wrap ((a1.length : Int) - 4))) rfl rfl rfl z_slT23 rfl rfl hs4 rfl ⟨_, rfl⟩ (by decide) hf5 hf6 ⟨_, _, rfl, hf7, hf8⟩ (by simp) (fun v9 hs10 => ?_)
  refine Z 4 rfl ?_
  obtain ⟨r18, hr19, r22, hr23, hf26, hf27, hf28, hf31, h⟩ := h
  refine st_draw 11 (dl [.v (.pointer (some ⟨bi1, 0, none⟩)), .v (v9), .t fun τ v => ∃ (v11 : Value), (v11 : Value) = v ∧ Sl (kSl (kI .u8)) τ v11 [((a1.drop (0 : Int).toNat).take (((IntKind.i64.wrap ((a1.length : Int) - 4)) : Int) - 0).toNat)], .v (.int .u32 r18), .v (.agg #[.int .u8 (r22.getD 0 0), .int .u8 (r22.getD 1 0), .int .u8 (r22.getD 2 0), .int .u8 (r22.getD 3 0)]), .v (v3), .v (.int .i64 (IntKind.i64.wrap ((a1.length : Int) - 4))), .t fun τ v => ∃ (v29 : Value), (v29 : Value) = v ∧ Sl (kI .u8) τ v29 ((a1.drop (IntKind.i64.wrap ((a1.length : Int) - 4)).toNat).take (((a1.length : Int) : Int) - (IntKind.i64.wrap ((a1.length : Int) - 4))).toNat), .t fun τ v => ∃ (b32 : Nat) (of33 : Nat) (vsb32 : List Value), (.pointer (some ⟨b32, of33, none⟩) : Value) = v ∧ CelN τ ⟨b32, of33, none⟩ vsb32 ∧ (kA .u8 4).rep τ vsb32 ((a1.drop (IntKind.i64.wrap ((a1.length : Int) - 4)).toNat).take (((a1.length : Int) : Int) - (IntKind.i64.wrap ((a1.length : Int) - 4))).toNat), .v (.agg #[.int .u8 (((a1.drop (IntKind.i64.wrap ((a1.length : Int) - 4)).toNat).take (((a1.length : Int) : Int) - (IntKind.i64.wrap ((a1.length : Int) - 4))).toNat).getD 0 0), .int .u8 (((a1.drop (IntKind.i64.wrap ((a1.length : Int) - 4)).toNat).take (((a1.length : Int) : Int) - (IntKind.i64.wrap ((a1.length : Int) - 4))).toNat).getD 1 0), .int .u8 (((a1.drop (IntKind.i64.wrap ((a1.length : Int) - 4)).toNat).take (((a1.length : Int) : Int) - (IntKind.i64.wrap ((a1.length : Int) - 4))).toNat).getD 2 0), .int .u8 (((a1.drop (IntKind.i64.wrap ((a1.length : Int) - 4)).toNat).take (((a1.length : Int) : Int) - (IntKind.i64.wrap ((a1.length : Int) - 4))).toNat).getD 3 0)]), .v (.bool (!(eqN 4 0 r22 ((a1.drop (IntKind.i64.wrap ((a1.length : Int) - 4)).toNat).take (((a1.length : Int) : Int) - (IntKind.i64.wrap ((a1.length : Int) - 4))).toNat))))]) (fun _ _ => []) z_mix rfl (dl_mono ⟨fun _ _ _ hl ⟨v11, hv, hs17⟩ => ⟨v11, hv, hs17.up hl⟩, ⟨fun _ _ _ hl ⟨v29, hv, hs30⟩ => ⟨v29, hv, hs30.up hl⟩, ⟨fun _ _ _ hl ⟨b32, of33, vsb32, hv, hc34, hrepb32⟩ => ⟨b32, of33, vsb32, hv, hc34.up hl, Kd.mono _ hl hrepb32⟩, trivial⟩⟩⟩) (allB_cons (allB_cons (allB_cons (allB_cons (allB_cons (allB_cons (allB_cons (allB_cons (allB_cons (allB_cons (allB_cons allB_nil (p1 dA)) (p1 dA)) ?_) ?_) ?_) (p1 dA)) (p1 dA)) ?_) ?_) ?_) ?_) ?_
  ·intro ρ' τ pool rs hl hd hout hk
   obtain ⟨_, e1, rfl⟩ := hd 1 rfl
   refine o_lit (dk := (kSl (kI .u8))) (xs := [((a1.drop (0 : Int).toNat).take (((IntKind.i64.wrap ((a1.length : Int) - 4)) : Int) - 0).toNat)]) (ps := [(0, [v9])]) (cs := [v9]) rfl rfl rfl z_slT22 z_zero23 ⟨rfl, ⟨_, e1, (oneL_sl (hs10.up hl))⟩, trivial⟩ rfl rfl rfl rfl (Kd.Many.cons (d := (kSl (kI .u8))) (x := ((a1.drop (0 : Int).toNat).take (((IntKind.i64.wrap ((a1.length : Int) - 4)) : Int) - 0).toNat)) (a := [v9]) ⟨_, rfl, (hs10.up hl)⟩ Kd.Many.nil) (fun v11 g12 ho13 => ?_)
   refine st_freeze (fun τ14 hl15 hg16 => ?_)
   have hs17 := ho13.freeze hl15 hg16
   exact st_addNil (hk _ _ hl15 ⟨v11, rfl, hs17⟩)
  ·intro ρ' τ pool rs hl hd hout hk
   obtain ⟨_, e0, rfl⟩ := hd 0 rfl
   obtain ⟨_, e2, v11, rfl, hs17⟩ := hd 2 rfl
   refine st_call (foot := []) rfl rfl rfl rfl (evs_cons e0 (evs_cons e2 rfl)) rfl (callV_fn z_en99 (crc_Table_Sum_ok hr19 τ (hc2.up hl) hs17)) ?_
   rintro vτ20 τ20 gsτ20 hl21 ⟨rfl, rfl⟩
   exact st_addNil (hk _ _ hl21 rfl)
  ·intro ρ' τ pool rs hl hd hout hk
   obtain ⟨_, e3, rfl⟩ := hd 3 rfl
   refine st_call (foot := []) rfl rfl rfl rfl (evs_cons e3 rfl) rfl (callV_fn z_en98 (crc_bytes_ok hr23 τ)) ?_
   rintro vτ24 τ24 gsτ24 hl25 ⟨rfl, rfl⟩
   exact st_addNil (hk _ _ hl25 rfl)
  ·intro ρ' τ pool rs hl hd hout hk
   obtain ⟨_, e5, rfl⟩ := hd 5 rfl
   obtain ⟨_, e6, rfl⟩ := hd 6 rfl
   refine o_slice (L := (IntKind.i64.wrap ((a1.length : Int) - 4))) (H := (a1.length : Int)) rfl rfl rfl z_slT23 rfl e5 (hs4.up hl) ⟨_, e6⟩ rfl hf26 hf27 hf28 trivial (by simp) (fun v29 hs30 => ?_)
   exact st_addNil (hk _ _ (Sto.Le.refl _) ⟨v29, rfl, hs30⟩)
  ·intro ρ' τ pool rs hl hd hout hk
   obtain ⟨_, e7, v29, rfl, hs30⟩ := hd 7 rfl
   refine o_toArr (dk := (kI .u8)) rfl rfl rfl z_arr184 e7 hs30 rfl hf31 (fun b32 of33 csb32 hcsb32 hmb32 => ?_)
   obtain ⟨vsb32, hc34, hrepb32⟩ : ∃ vs, CelN τ ⟨b32, of33, none⟩ vs ∧ Kd.rep (kA .u8 4) τ vs ((a1.drop (IntKind.i64.wrap ((a1.length : Int) - 4)).toNat).take (((a1.length : Int) : Int) - (IntKind.i64.wrap ((a1.length : Int) - 4))).toNat) := ⟨_, celn_arr hcsb32 hmb32 hf31, rfl⟩
   exact st_addNil (hk _ _ (Sto.Le.refl _) ⟨b32, of33, _, rfl, hc34, hrepb32⟩)
  ·intro ρ' τ pool rs hl hd hout hk
   obtain ⟨_, e8, b32, of33, vsb32, rfl, hc34, hrepb32⟩ := hd 8 rfl
   have hrepb32 := hrepb32
   obtain rfl := hrepb32
   refine o_loadIN (vs := [.int .u8 (((a1.drop (IntKind.i64.wrap ((a1.length : Int) - 4)).toNat).take (((a1.length : Int) : Int) - (IntKind.i64.wrap ((a1.length : Int) - 4))).toNat).getD 0 0), .int .u8 (((a1.drop (IntKind.i64.wrap ((a1.length : Int) - 4)).toNat).take (((a1.length : Int) : Int) - (IntKind.i64.wrap ((a1.length : Int) - 4))).toNat).getD 1 0), .int .u8 (((a1.drop (IntKind.i64.wrap ((a1.length : Int) - 4)).toNat).take (((a1.length : Int) : Int) - (IntKind.i64.wrap ((a1.length : Int) - 4))).toNat).getD 2 0), .int .u8 (((a1.drop (IntKind.i64.wrap ((a1.length : Int) - 4)).toNat).take (((a1.length : Int) : Int) - (IntKind.i64.wrap ((a1.length : Int) - 4))).toNat).getD 3 0)]) rfl rfl rfl z_agg184 e8 rfl (celn_part 0 rfl hc34) ?_
   exact st_addNil (hk _ _ (Sto.Le.refl _) rfl)
  ·intro ρ' τ pool rs hl hd hout hk
   obtain ⟨_, e4, rfl⟩ := hd 4 rfl
   obtain ⟨_, e9, rfl⟩ := hd 9 rfl
   refine o_aggEq (b := (eqN 4 0 r22 ((a1.drop (IntKind.i64.wrap ((a1.length : Int) - 4)).toNat).take (((a1.length : Int) : Int) - (IntKind.i64.wrap ((a1.length : Int) - 4))).toNat))) (e := (!(eqN 4 0 r22 ((a1.drop (IntKind.i64.wrap ((a1.length : Int) - 4)).toNat).take (((a1.length : Int) : Int) - (IntKind.i64.wrap ((a1.length : Int) - 4))).toNat)))) rfl rfl rfl z_eqg184 e4 e9 (fun w => by exact eq_arr (xs := r22) (ys := ((a1.drop (IntKind.i64.wrap ((a1.length : Int) - 4)).toNat).take (((a1.length : Int) : Int) - (IntKind.i64.wrap ((a1.length : Int) - 4))).toNat)) Tryz.underlying184 Tryz.underlying5 z_info5 z_cell5) rfl ?_
   exact st_addNil (hk _ _ (Sto.Le.refl _) rfl)
  intro ρ' τ35 vals hl35 hv hout
  refine st_ord [] _ rfl ?_
  refine st_env (ρ' := [(31, .bool (!(eqN 4 0 r22 ((a1.drop (IntKind.i64.wrap ((a1.length : Int) - 4)).toNat).take (((a1.length : Int) : Int) - (IntKind.i64.wrap ((a1.length : Int) - 4))).toNat)))), (4, .slice none 0 0), (5, .int .i64 0), (7, v9)]) ⟨(lv1 hv 10 rfl rfl), (hout 4 rfl).trans rfl, (hout 5 rfl).trans rfl, (hout 7 rfl).trans rfl, trivial⟩ ?_
  refine st_end ?_
  refine st_if rfl h (fun h => ?_) (fun h => ?_)
  ·refine Z 5 rfl ?_
   obtain rfl := Eq.symm h
   exact st_ret (gs' := []) Tryz.func62 rfl (List.Sublist.refl _) hl35 ⟨_, rfl, rfl, Sl.nil⟩
  ·refine Z 3 rfl ?_
   refine o_lit (dk := (kI .u8)) (xs := ([] : List Int)) (ps := []) (cs := []) rfl rfl rfl z_slT23 z_zero5 trivial rfl rfl rfl rfl Kd.Many.nil (fun v36 g37 ho38 => ?_)
   refine o_move rfl rfl rfl rfl ?_
   obtain ⟨hf42, hf43, h⟩ := h
   refine o_append (dk := (kI .u8)) (xs := ([] : List Int)) (ys := ((a1.drop (0 : Int).toNat).take (((IntKind.i64.wrap ((a1.length : Int) - 4)) : Int) - 0).toNat)) rfl rfl rfl rfl z_slT23 rfl ho38 rfl (Sl.src (hs10.up hl35)) hf42 hf43 (fun v39 g40 ho41 => ?_)
   refine Z 3 rfl ?_
   refine st_freeze (fun τ44 hl45 hg46 => ?_)
   have hs47 := ho41.freeze hl45 hg46
   obtain rfl := Eq.symm h
   exact st_ret (gs' := []) Tryz.func62 rfl (List.Sublist.refl _) (hl35.trans hl45) ⟨_, rfl, rfl, hs47⟩
theorem lens_New_ok {a0 : List Int} {v1 : Value} {r : (List Int × Int × Int)} (h : lens_New a0 r) (σ : Sto) (hs2 : Sl (kI .u8) σ v1 a0) :
    Does Tryz.prog 100 [v1] σ [] (fun v τ gs => ∃ (b15 : Nat) (v16 : Value), gs = [[(b15, .cells [v16, .int .i64 r.2.1, .int .i64 r.2.2].toArray 225 (0, 0))]] ∧ .pointer (some ⟨b15, 0, none⟩) = v ∧ Sl (kI .u8) τ v16 r.1) := by
 refine call_of Tryz.func100 Tryz.ntmps100 rfl rfl (fun cs fs => ?_)
 refine Z 7 rfl ?_
 obtain ⟨hf6, hf7, h⟩ := h
 refine st_addNil ?_
 refine o_append (dk := (kI .u8)) (xs := ([] : List Int)) (ys := a0) rfl rfl rfl rfl z_slT23 rfl Ow.nil rfl (Sl.src hs2) hf6 hf7 (fun v3 g4 ho5 => ?_)
 refine o_build (ps := [(0, [v3])]) (cs := [v3, .int .i64 0, .int .i64 0]) rfl rfl rfl z_struct225 ⟨rfl, ⟨_, rfl, (oneL_ow ho5)⟩, trivial⟩ rfl ?_
 refine o_box (cs := [v3, .int .i64 0, .int .i64 0]) rfl rfl rfl rfl rfl (fun b8 => ?_)
 refine Z 2 rfl ?_
 refine st_ord [1, 0] _ rfl ?_
 refine st_freeze (fun τ9 hl10 hg11 => ?_)
 have hs12 := ho5.freeze hl10 hg11
 obtain rfl := Eq.symm h
 exact st_ret (gs' := [[(b8, .cells #[v3, .int .i64 0, .int .i64 0] 225 (0, 0))]]) Tryz.func100 rfl (List.Sublist.refl _) hl10 ⟨_, _, rfl, rfl, hs12⟩
theorem lens_Lens_left_ok {a0 : List Int × Int × Int} {ba0 : Nat} {v1 : Value} {r : List Int} (h : lens_Lens_left a0 r) (σ : Sto) (hs2 : Sl (kI .u8) σ v1 a0.1) :
    Does Tryz.prog 155 [.pointer (some ⟨ba0, 0, none⟩)] σ [[(ba0, .cells [v1, .int .i64 a0.2.1, .int .i64 a0.2.2].toArray 225 (0, 0))]] (fun v τ gs => ∃ (v11 : Value), gs = [[(ba0, .cells [v1, .int .i64 a0.2.1, .int .i64 a0.2.2].toArray 225 (0, 0))]] ∧ v11 = v ∧ Sl (kI .u8) τ v11 r) := by
 refine call_of Tryz.func155 Tryz.ntmps155 rfl rfl (fun cs fs => ?_)
 refine Z 5 rfl ?_
 obtain ⟨hf3, hf4, hf5, hf6, hf7, h⟩ := h
 refine st_draw 19 (dl [.v (.pointer (some ⟨ba0, 0, none⟩)), .v (.pointer (some ⟨ba0, 0, none⟩)), .v (.pointer (some ⟨ba0, 0, none⟩)), .v (v1), .v (.pointer (some ⟨ba0, 0, none⟩)), .v (.pointer (some ⟨ba0, 0, none⟩)), .v (.pointer (some ⟨ba0, 1, none⟩)), .v (.int .i64 a0.2.1), .v (.pointer (some ⟨ba0, 0, none⟩)), .v (.pointer (some ⟨ba0, 0, none⟩)), .v (.pointer (some ⟨ba0, 0, none⟩)), .v (v1), .v (.int .i64 (a0.1.length : Int)), .v (.pointer (some ⟨ba0, 0, none⟩)), .v (.pointer (some ⟨ba0, 0, none⟩)), .v (.pointer (some ⟨ba0, 0, none⟩)), .v (v1), .v (.int .i64 (a0.1.length : Int)), .t fun τ v => ∃ (v8 : Value), (v8 : Value) = v ∧ Sl (kI .u8) τ v8 ((a0.1.drop a0.2.1.toNat).take (((a0.1.length : Int) : Int) - a0.2.1).toNat)]) (fun _ _ => []) z_mix rfl (dl_mono ⟨fun _ _ _ hl ⟨v8, hv, hs9⟩ => ⟨v8, hv, hs9.up hl⟩, trivial⟩) (allB_cons (allB_cons (allB_cons (allB_cons (allB_cons (allB_cons (allB_cons (allB_cons (allB_cons (allB_cons (allB_cons (allB_cons (allB_cons (allB_cons (allB_cons (allB_cons (allB_cons (allB_cons (allB_cons allB_nil (p1 dA)) (p1 dA)) (p1 dA)) ?_) (p1 dA)) (p1 dA)) (p1 dA)) ?_) (p1 dA)) (p1 dA)) (p1 dA)) ?_) ?_) (p1 dA)) (p1 dA)) (p1 dA)) ?_) ?_) ?_) ?_
 ·intro ρ' τ pool rs hl hd hout hk
  obtain ⟨_, e2, rfl⟩ := hd 2 rfl
  refine o_load (j := 0) (v := v1) rfl rfl rfl z_sc23 e2 rfl rfl ?_
  exact st_addNil (hk _ _ (Sto.Le.refl _) rfl)
 ·intro ρ' τ pool rs hl hd hout hk
  obtain ⟨_, e6, rfl⟩ := hd 6 rfl
  refine o_load (j := 0) (v := .int .i64 a0.2.1) rfl rfl rfl z_sc3 e6 rfl rfl ?_
  exact st_addNil (hk _ _ (Sto.Le.refl _) rfl)
 ·intro ρ' τ pool rs hl hd hout hk
  obtain ⟨_, e10, rfl⟩ := hd 10 rfl
  refine o_load (j := 0) (v := v1) rfl rfl rfl z_sc23 e10 rfl rfl ?_
  exact st_addNil (hk _ _ (Sto.Le.refl _) rfl)
 ·intro ρ' τ pool rs hl hd hout hk
  obtain ⟨_, e11, rfl⟩ := hd 11 rfl
  refine o_lenI rfl rfl rfl z_slT23 e11 (hs2.up hl) ?_
  exact st_addNil (hk _ _ (Sto.Le.refl _) rfl)
 ·intro ρ' τ pool rs hl hd hout hk
  obtain ⟨_, e15, rfl⟩ := hd 15 rfl
  refine o_load (j := 0) (v := v1) rfl rfl rfl z_sc23 e15 rfl rfl ?_
  exact st_addNil (hk _ _ (Sto.Le.refl _) rfl)
 ·intro ρ' τ pool rs hl hd hout hk
  obtain ⟨_, e16, rfl⟩ := hd 16 rfl
  refine o_lenI rfl rfl rfl z_slT23 e16 (hs2.up hl) ?_
  exact st_addNil (hk _ _ (Sto.Le.refl _) rfl)
 ·intro ρ' τ pool rs hl hd hout hk
  obtain ⟨_, e3, rfl⟩ := hd 3 rfl
  obtain ⟨_, e7, rfl⟩ := hd 7 rfl
  obtain ⟨_, e12, rfl⟩ := hd 12 rfl
  obtain ⟨_, e17, rfl⟩ := hd 17 rfl
  refine o_slice (L := a0.2.1) (H := (a0.1.length : Int)) rfl rfl rfl z_slT23 rfl e3 (hs2.up hl) ⟨_, e7⟩ ⟨_, e12⟩ hf3 hf4 hf5 ⟨_, _, e17, hf6, hf7⟩ (by simp) (fun v8 hs9 => ?_)
  exact st_addNil (hk _ _ (Sto.Le.refl _) ⟨v8, rfl, hs9⟩)
 intro ρ' τ10 vals hl10 hv hout
 obtain ⟨l18, v8, t18, hs9⟩ := hv 18 (by decide)
 replace l18 : Eng.look ρ' 21 = some (v8) := l18.trans (congrArg some (Eq.symm t18))
 refine st_ord [0] _ rfl ?_
 refine st_env (ρ' := [(21, v8), (2, .slice none 0 0)]) ⟨l18, (hout 2 rfl).trans rfl, trivial⟩ ?_
 refine Z 2 rfl ?_
 obtain rfl := Eq.symm h
 exact st_ret (gs' := [[(ba0, .cells #[v1, .int .i64 a0.2.1, .int .i64 a0.2.2] 225 (0, 0))]]) Tryz.func155 rfl (List.Sublist.refl _) hl10 ⟨_, rfl, rfl, hs9⟩
theorem slices_Backward_byte_byte_1_ok {c0 : List Int} {bc0 : Nat} {v1 : Value} {σ0 : Sto} (hc0_0 : Cel σ0 ⟨bc0, 0, none⟩ (v1)) (hs2 : Sl (kI .u8) σ0 v1 c0) :
    IterV Tryz.prog (fun _ x vx => vx = [.int .i64 x.1, .int .u8 x.2]) (.func (.func 172) #[] [.pointer (some ⟨bc0, 0, none⟩)].toArray) σ0 [] (fun (_ : Unit) _ f => f = []) (slices_Backward_byte_byte_1 c0) := by
 intro S Y I y hyc hyo hIm hY s s' o hR σ g hle hIg
 obtain ⟨r, hr0⟩ : ∃ r, r = (s', o) := ⟨_, rfl⟩
 rw [← hr0] at hR
 have h := hR
 refine callV_of (caps := [.pointer (some ⟨bc0, 0, none⟩)]) z_en172 ?_
 refine call_of Tryz.func172 Tryz.ntmps172 rfl rfl (fun cs fs => ?_)
 refine st_ord [0] _ rfl ?_
 refine Z 2 rfl ?_
 refine o_loadI (v := v1) rfl rfl rfl z_sc23 rfl (Cel.up hc0_0 hle) ?_
 refine o_lenI rfl rfl rfl z_slT23 rfl (hs2.up hle) ?_
 refine Z 3 rfl ?_
 obtain ⟨e3, hL3, hA3⟩ := h
 refine st_loop hL3 (fun (s3 : S × Int) ρ τ3 gs => σ.Le τ3 ∧ ∃ (g4 : Grp), ESub ρ [(0, y), (1, .pointer (some ⟨bc0, 0, none⟩)), (3, .int .i64 s3.2)] ∧ gs = [g4] ∧ I s3.1 τ3 g4) ⟨Sto.Le.refl _, g, rfl, rfl, hIg⟩ ?_
 rintro s3 o3 h he3 ρ3 τ3 gs3 ⟨hl3, g4, hρ, rfl, hI5⟩ hn3
 refine st_es hρ ?_
 refine Z 6 rfl ?_
 refine st_if rfl h (fun h => ?_) (fun h => ?_)
 ·refine Z 7 rfl ?_
  refine o_loadI (v := v1) rfl rfl rfl z_sc23 rfl (Cel.up hc0_0 (hle.trans hl3)) ?_
  refine o_move rfl rfl rfl rfl ?_
  obtain ⟨q6, hf7, h⟩ := h
  refine o_index rfl rfl rfl z_slT23 rfl rfl (hs2.up (hle.trans hl3)) rfl hf7 (fun b8 of9 vs hc10 hrep => ?_)
  obtain rfl := hrep
  refine o_loadI (v := .int .u8 q6) rfl rfl rfl z_sc5 rfl (hc10 0 _ rfl) ?_
  obtain ⟨y11, u12, hy13, h⟩ := h
  refine st_call (foot := [g4]) rfl rfl rfl rfl rfl rfl (hY (s3.2, q6) s3.1 _ _ _ _ _ (hle.trans hl3) hy13 rfl hI5) ?_
  rintro vτ14 τ14 gsτ14 hl15 ⟨rfl, g16, rfl, hI17⟩
  refine Z 2 rfl ?_
  refine st_if rfl h (fun h => ?_) (fun h => ?_)
  ·obtain rfl := he3 _ h
   replace h := hA3
   obtain rfl := Eq.symm h
   cases hr0
   exact st_ret (gs' := [g16, []]) Tryz.func172 rfl (by simp) (hl3.trans hl15) ⟨g16, _, rfl, hI17, rfl⟩
  ·refine Z 7 rfl ?_
   exact hn3 _ _ _ _ h ⟨(hl3.trans hl15), g16, rfl, rfl, hI17⟩
 ·refine st_exit rfl ?_
  obtain rfl := he3 _ h
  replace h := hA3
  obtain rfl := Eq.symm h
  cases hr0
  exact st_fin (gs' := [g4, []]) Tryz.func172 rfl (by simp) hl3 ⟨g4, _, rfl, hI5, rfl⟩
theorem slices_Backward_byte_byte_ok {a0 : List Int} {v1 : Value} {r : (((S : Type) → ((Int × Int) → S → Bool × S → Prop) → S → S × Unit → Prop))} (h : slices_Backward_byte_byte a0 r) (σ : Sto) (hs2 : Sl (kI .u8) σ v1 a0) :
    Does Tryz.prog 154 [v1] σ [] (fun v τ gs => ∃ (f7 : Nat) (q8 : Array Value), gs = [] ∧ .func (.func f7) #[] q8 = v ∧ IterV Tryz.prog (fun _ x vx => vx = [.int .i64 x.1, .int .u8 x.2]) (.func (.func f7) #[] q8) τ [] (fun (_ : Unit) _ f => f = []) r) := by
 refine call_of Tryz.func154 Tryz.ntmps154 rfl rfl (fun cs fs => ?_)
 refine Z 2 rfl ?_
 refine o_box (cs := [v1]) rfl rfl rfl rfl (oneL_sl hs2) (fun b3 => ?_)
 refine Z 4 rfl ?_
 refine st_freeze (fun τ4 hl5 hg6 => ?_)
 refine Z 3 rfl ?_
 obtain rfl := Eq.symm h
 exact st_ret (gs' := []) Tryz.func154 rfl (List.Sublist.refl _) hl5 ⟨_, _, rfl, rfl, (slices_Backward_byte_byte_1_ok (cel_of hg6 rfl) (hs2.up hl5))⟩
theorem lens_Lens_word_1_ok {a0 : List Int} {c0 : Int} {c1 : Int} {v1 : Value} {bc0 : Nat} {bc1 : Nat} {r : Int × Int × Int} (h : lens_Lens_word_1 a0 c0 c1 r) (σ : Sto) (hs2 : Sl (kI .u8) σ v1 a0) :
    Does Tryz.prog 153 [v1, .pointer (some ⟨bc0, 0, none⟩), .pointer (some ⟨bc1, 0, none⟩)] σ [[(bc0, .cells [.int .i64 c0].toArray 3 (0, 0))], [(bc1, .cells [.int .u32 c1].toArray 57 (0, 0))]] (fun v τ gs => gs = [[(bc0, .cells [.int .i64 c0].toArray 3 (0, 0))], [(bc1, .cells [.int .u32 r.2.2].toArray 57 (0, 0))]] ∧ .tuple [.int .i64 r.1, .int .i64 r.2.1].toArray = v) := by
 refine call_of Tryz.func153 Tryz.ntmps153 rfl rfl (fun cs fs => ?_)
 refine Z 9 rfl ?_
 refine o_lenI rfl rfl rfl z_slT23 rfl hs2 ?_
 refine ZZ 3 [0] rfl rfl ?_
 refine st_if rfl h (fun h => ?_) (fun h => ?_)
 ·refine Z 5 rfl ?_
  obtain rfl := Eq.symm h
  exact st_ret (gs' := [[(bc0, .cells #[.int .i64 c0] 3 (0, 0))], [(bc1, .cells #[.int .u32 c1] 57 (0, 0))]]) Tryz.func153 rfl (List.Sublist.refl _) (Sto.Le.refl _) ⟨rfl, rfl⟩
 ·refine ZZ 6 [0] rfl rfl ?_
  obtain ⟨hf3, hf4, h⟩ := h
  refine o_slice (L := 0) (H := c0) rfl rfl rfl z_slT23 rfl rfl hs2 rfl ⟨_, rfl⟩ (by decide) hf3 hf4 trivial (by simp) (fun v5 hs6 => ?_)
  obtain ⟨r7, hr8, h⟩ := h
  refine st_call (foot := []) rfl rfl rfl rfl rfl rfl (callV_fn z_en154 (slices_Backward_byte_byte_ok hr8 σ hs6)) ?_
  rintro vτ9 τ9 gsτ9 hl10 ⟨f11, q12, rfl, rfl, hit13⟩
  refine Z 2 rfl ?_
  obtain ⟨t14, w14, hR14, hA14⟩ := h
  refine st_env (ρ' := [(1, .pointer (some ⟨bc0, 0, none⟩)), (2, .pointer (some ⟨bc1, 0, none⟩)), (4, .int .i64 0), (5, .int .i64 0), (15, .func (.func f11) #[] q12)]) ⟨rfl, rfl, rfl, rfl, rfl, trivial⟩ ?_
  refine st_addNil ?_
  refine st_range (B := lens_Lens_word_1_l1) (s0 := c1) ranges_fctx rfl hit13 (Sto.Le.refl _) hR14 rfl (fun _ _ _ h => by cases h; rfl) (fun (s14 : Int) τ14 gs => τ9.Le τ14 ∧ gs = [[(bc0, .cells #[.int .i64 c0] 3 (0, 0))], [(bc1, .cells #[.int .u32 s14] 57 (0, 0))]]) (fun _ _ _ _ => False) (fun _ _ _ _ hl ⟨hb, hg⟩ => ⟨hb.trans hl, hg⟩) (fun _ _ _ _ _ _ h => h.elim) ⟨Sto.Le.refl _, rfl⟩ ?_ ?_ ?_
  ·rintro x14 s14 o14 τ14 gs14 vx14 hl14 h rfl ⟨hb14, rfl⟩ l14 rc14 caller14 cs14 fs14
   refine Z 3 rfl ?_
   refine st_begin ?_
   refine ZZ 10 [1, 1] rfl rfl ?_
   exact st_rend (List.Sublist.refl _) (Sto.Le.refl _) ⟨_, h, hl14, rfl⟩
  ·rintro p15 τ16 gs14 f14 ht hl17 ⟨hb, rfl⟩ rfl
   subst ht
   replace h := hA14
   refine st_ord [1, 1] _ rfl ?_
   refine ZZ 7 [0] rfl rfl ?_
   obtain rfl := Eq.symm h
   exact st_ret (gs' := [[(bc0, .cells #[.int .i64 c0] 3 (0, 0))], [(bc1, .cells #[.int .u32 p15] 57 (0, 0))]]) Tryz.func153 rfl (List.Sublist.refl _) (hl10.trans hl17) ⟨rfl, rfl⟩
  ·exact fun _ _ _ _ _ _ _ h => h.elim
theorem lens_Lens_read__lens_Lens_word_1_ok {a0 : List Int × Int × Int} {a1_0 : Int} {a1_1 : Int} {ba0 : Nat} {v1 : Value} {ba1_0 : Nat} {ba1_1 : Nat} {r : Bool × (List Int × Int × Int) × Int} (h : lens_Lens_read__lens_Lens_word_1 a0 a1_0 a1_1 r) (σ : Sto) (hs2 : Sl (kI .u8) σ v1 a0.1) :
    Does Tryz.prog 152 [.pointer (some ⟨ba0, 0, none⟩), .func (.func 153) #[] [.pointer (some ⟨ba1_0, 0, none⟩), .pointer (some ⟨ba1_1, 0, none⟩)].toArray] σ [[(ba0, .cells [v1, .int .i64 a0.2.1, .int .i64 a0.2.2].toArray 225 (0, 0))], [(ba1_0, .cells [.int .i64 a1_0].toArray 3 (0, 0))], [(ba1_1, .cells [.int .u32 a1_1].toArray 57 (0, 0))]] (fun v τ gs => ∃ (v13 : Value), gs = [[(ba0, .cells [v13, .int .i64 r.2.1.2.1, .int .i64 r.2.1.2.2].toArray 225 (0, 0))], [(ba1_0, .cells [.int .i64 a1_0].toArray 3 (0, 0))], [(ba1_1, .cells [.int .u32 r.2.2].toArray 57 (0, 0))]] ∧ .bool r.1 = v ∧ Sl (kI .u8) τ v13 r.2.1.1) := by
 refine call_of Tryz.func152 Tryz.ntmps152 rfl rfl (fun cs fs => ?_)
 refine ZZ 17 [0] rfl rfl ?_
 refine st_if rfl h (fun h => ?_) (fun h => ?_)
 ·refine Z 4 rfl ?_
  obtain rfl := Eq.symm h
  exact st_ret (gs' := [[(ba0, .cells #[v1, .int .i64 a0.2.1, .int .i64 a0.2.2] 225 (0, 0))], [(ba1_0, .cells #[.int .i64 a1_0] 3 (0, 0))], [(ba1_1, .cells #[.int .u32 a1_1] 57 (0, 0))]]) Tryz.func152 rfl (List.Sublist.refl _) (Sto.Le.refl _) ⟨_, rfl, rfl, hs2⟩
 ·refine Z 5 rfl ?_
  obtain ⟨r3, hr4, h⟩ := h
  refine st_call (foot := [[(ba0, .cells #[v1, .int .i64 a0.2.1, .int .i64 a0.2.2] 225 (0, 0))]]) rfl rfl rfl rfl rfl rfl (callV_fn z_en155 (lens_Lens_left_ok hr4 σ hs2)) ?_
  rintro vτ5 τ5 gsτ5 hl6 ⟨v7, rfl, rfl, hs8⟩
  obtain ⟨r9, hr10, h⟩ := h
  refine st_ord [1, 1, 0] _ rfl ?_
  refine st_call (foot := [[(ba1_0, .cells #[.int .i64 a1_0] 3 (0, 0))], [(ba1_1, .cells #[.int .u32 a1_1] 57 (0, 0))]]) rfl rfl rfl rfl rfl rfl (callV_of2 (caps := [.pointer (some ⟨ba1_0, 0, none⟩), .pointer (some ⟨ba1_1, 0, none⟩)]) z_en153 (lens_Lens_word_1_ok hr10 τ5 hs8) rfl) ?_
  rintro vτ11 τ11 gsτ11 hl12 ⟨rfl, rfl⟩
  refine Z 12 rfl ?_
  refine st_if rfl h (fun h => ?_) (fun h => ?_)
  ·refine ZZ 12 [2] rfl rfl ?_
   refine st_ord [2, 0, 0] _ rfl ?_
   obtain rfl := Eq.symm h
   exact st_ret (gs' := [[(ba0, .cells #[v1, .int .i64 a0.2.1, .int .i64 r9.2.1] 225 (0, 0))], [(ba1_0, .cells #[.int .i64 a1_0] 3 (0, 0))], [(ba1_1, .cells #[.int .u32 r9.2.2] 57 (0, 0))]]) Tryz.func152 rfl (List.Sublist.refl _) (hl6.trans hl12) ⟨_, rfl, rfl, (hs2.up (hl6.trans hl12))⟩
  ·refine ZZ 17 [2, 2] rfl rfl ?_
   refine st_ord [2, 0, 0] _ rfl ?_
   obtain rfl := Eq.symm h
   exact st_ret (gs' := [[(ba0, .cells #[v1, .int .i64 (IntKind.i64.wrap (a0.2.1 + r9.1)), .int .i64 a0.2.2] 225 (0, 0))], [(ba1_0, .cells #[.int .i64 a1_0] 3 (0, 0))], [(ba1_1, .cells #[.int .u32 r9.2.2] 57 (0, 0))]]) Tryz.func152 rfl (List.Sublist.refl _) (hl6.trans hl12) ⟨_, rfl, rfl, (hs2.up (hl6.trans hl12))⟩
theorem lens_Lens_word_ok {a0 : List Int × Int × Int} {a1 : Int} {ba0 : Nat} {v1 : Value} {r : Int × (List Int × Int × Int)} (h : lens_Lens_word a0 a1 r) (σ : Sto) (hs2 : Sl (kI .u8) σ v1 a0.1) :
    Does Tryz.prog 128 [.pointer (some ⟨ba0, 0, none⟩), .int .i64 a1] σ [[(ba0, .cells [v1, .int .i64 a0.2.1, .int .i64 a0.2.2].toArray 225 (0, 0))]] (fun v τ gs => ∃ (v11 : Value), gs = [[(ba0, .cells [v11, .int .i64 r.2.2.1, .int .i64 r.2.2.2].toArray 225 (0, 0))]] ∧ .int .u32 r.1 = v ∧ Sl (kI .u8) τ v11 r.2.1) := by
 refine call_of Tryz.func128 Tryz.ntmps128 rfl rfl (fun cs fs => ?_)
 refine Z 2 rfl ?_
 refine o_boxC rfl rfl rfl rfl rfl rfl (fun b3 => ?_)
 refine Z 4 rfl ?_
 refine o_alloc rfl rfl rfl z_zero57 (fun b4 => ?_)
 refine ZZ 6 [0] rfl rfl ?_
 obtain ⟨r5, hr6, h⟩ := h
 refine st_ord [2, 1, 0] _ rfl ?_
 refine st_call (foot := [[(ba0, .cells #[v1, .int .i64 a0.2.1, .int .i64 a0.2.2] 225 (0, 0))], [(b3, .cells #[.int .i64 a1] 3 (0, 0))], [(b4, .cells #[.int .u32 0] 57 (0, 0))]]) rfl rfl rfl rfl rfl rfl (callV_fn z_en152 (lens_Lens_read__lens_Lens_word_1_ok hr6 σ hs2)) ?_
 rintro vτ7 τ7 gsτ7 hl8 ⟨v9, rfl, rfl, hs10⟩
 refine ZZ 6 [2] rfl rfl ?_
 refine st_ord [0] _ rfl ?_
 obtain rfl := Eq.symm h
 exact st_ret (gs' := [[(ba0, .cells #[v9, .int .i64 r5.2.1.2.1, .int .i64 r5.2.1.2.2] 225 (0, 0))]]) Tryz.func128 rfl (List.Sublist.refl _) hl8 ⟨_, rfl, rfl, hs10⟩
theorem lens_Lens_U8_ok {a0 : List Int × Int × Int} {ba0 : Nat} {v1 : Value} {r : Int × (List Int × Int × Int)} (h : lens_Lens_U8 a0 r) (σ : Sto) (hs2 : Sl (kI .u8) σ v1 a0.1) :
    Does Tryz.prog 101 [.pointer (some ⟨ba0, 0, none⟩)] σ [[(ba0, .cells [v1, .int .i64 a0.2.1, .int .i64 a0.2.2].toArray 225 (0, 0))]] (fun v τ gs => ∃ (v9 : Value), gs = [[(ba0, .cells [v9, .int .i64 r.2.2.1, .int .i64 r.2.2.2].toArray 225 (0, 0))]] ∧ .int .u8 r.1 = v ∧ Sl (kI .u8) τ v9 r.2.1) := by
 refine call_of Tryz.func101 Tryz.ntmps101 rfl rfl (fun cs fs => ?_)
 refine Z 7 rfl ?_
 obtain ⟨r3, hr4, h⟩ := h
 refine st_call (foot := [[(ba0, .cells #[v1, .int .i64 a0.2.1, .int .i64 a0.2.2] 225 (0, 0))]]) rfl rfl rfl rfl rfl rfl (callV_fn z_en128 (lens_Lens_word_ok hr4 σ hs2)) ?_
 rintro vτ5 τ5 gsτ5 hl6 ⟨v7, rfl, rfl, hs8⟩
 refine Z 3 rfl ?_
 obtain rfl := Eq.symm h
 exact st_ret (gs' := [[(ba0, .cells #[v7, .int .i64 r3.2.2.1, .int .i64 r3.2.2.2] 225 (0, 0))]]) Tryz.func101 rfl (List.Sublist.refl _) hl6 ⟨_, rfl, rfl, hs8⟩
theorem lens_Lens_U32_ok {a0 : List Int × Int × Int} {ba0 : Nat} {v1 : Value} {r : Int × (List Int × Int × Int)} (h : lens_Lens_U32 a0 r) (σ : Sto) (hs2 : Sl (kI .u8) σ v1 a0.1) :
    Does Tryz.prog 102 [.pointer (some ⟨ba0, 0, none⟩)] σ [[(ba0, .cells [v1, .int .i64 a0.2.1, .int .i64 a0.2.2].toArray 225 (0, 0))]] (fun v τ gs => ∃ (v9 : Value), gs = [[(ba0, .cells [v9, .int .i64 r.2.2.1, .int .i64 r.2.2.2].toArray 225 (0, 0))]] ∧ .int .u32 r.1 = v ∧ Sl (kI .u8) τ v9 r.2.1) := by
 refine call_of Tryz.func102 Tryz.ntmps102 rfl rfl (fun cs fs => ?_)
 refine Z 7 rfl ?_
 obtain ⟨r3, hr4, h⟩ := h
 refine st_call (foot := [[(ba0, .cells #[v1, .int .i64 a0.2.1, .int .i64 a0.2.2] 225 (0, 0))]]) rfl rfl rfl rfl rfl rfl (callV_fn z_en128 (lens_Lens_word_ok hr4 σ hs2)) ?_
 rintro vτ5 τ5 gsτ5 hl6 ⟨v7, rfl, rfl, hs8⟩
 refine Z 2 rfl ?_
 obtain rfl := Eq.symm h
 exact st_ret (gs' := [[(ba0, .cells #[v7, .int .i64 r3.2.2.1, .int .i64 r3.2.2.2] 225 (0, 0))]]) Tryz.func102 rfl (List.Sublist.refl _) hl6 ⟨_, rfl, rfl, hs8⟩
theorem lens_Lens_Err_ok {a0 : List Int × Int × Int} {ba0 : Nat} {v1 : Value} {r : Int} (h : lens_Lens_Err a0 r) (σ : Sto) (hs2 : Sl (kI .u8) σ v1 a0.1) :
    Does Tryz.prog 129 [.pointer (some ⟨ba0, 0, none⟩)] σ [[(ba0, .cells [v1, .int .i64 a0.2.1, .int .i64 a0.2.2].toArray 225 (0, 0))]] (fun v τ gs => gs = [[(ba0, .cells [v1, .int .i64 a0.2.1, .int .i64 a0.2.2].toArray 225 (0, 0))]] ∧ .int .i64 r = v) := by
 refine call_of Tryz.func129 Tryz.ntmps129 rfl rfl (fun cs fs => ?_)
 refine ZZ 20 [0] rfl rfl ?_
 obtain rfl := Eq.symm h
 exact st_ret (gs' := [[(ba0, .cells #[v1, .int .i64 a0.2.1, .int .i64 a0.2.2] 225 (0, 0))]]) Tryz.func129 rfl (List.Sublist.refl _) (Sto.Le.refl _) ⟨rfl, rfl⟩
theorem lens_Lens_Left_ok {a0 : List Int × Int × Int} {ba0 : Nat} {v1 : Value} {r : Int} (h : lens_Lens_Left a0 r) (σ : Sto) (hs2 : Sl (kI .u8) σ v1 a0.1) :
    Does Tryz.prog 130 [.pointer (some ⟨ba0, 0, none⟩)] σ [[(ba0, .cells [v1, .int .i64 a0.2.1, .int .i64 a0.2.2].toArray 225 (0, 0))]] (fun v τ gs => gs = [[(ba0, .cells [v1, .int .i64 a0.2.1, .int .i64 a0.2.2].toArray 225 (0, 0))]] ∧ .int .i64 r = v) := by
 refine call_of Tryz.func130 Tryz.ntmps130 rfl rfl (fun cs fs => ?_)
 refine Z 15 rfl ?_
 obtain ⟨r3, hr4, h⟩ := h
 refine st_call (foot := [[(ba0, .cells #[v1, .int .i64 a0.2.1, .int .i64 a0.2.2] 225 (0, 0))]]) rfl rfl rfl rfl rfl rfl (callV_fn z_en155 (lens_Lens_left_ok hr4 σ hs2)) ?_
 rintro vτ5 τ5 gsτ5 hl6 ⟨v7, rfl, rfl, hs8⟩
 refine o_lenI rfl rfl rfl z_slT23 rfl hs8 ?_
 refine Z 2 rfl ?_
 obtain rfl := Eq.symm h
 exact st_ret (gs' := [[(ba0, .cells #[v1, .int .i64 a0.2.1, .int .i64 a0.2.2] 225 (0, 0))]]) Tryz.func130 rfl (List.Sublist.refl _) hl6 ⟨rfl, rfl⟩
theorem lens_Lens_End_ok {a0 : List Int × Int × Int} {ba0 : Nat} {v1 : Value} {r : Int} (h : lens_Lens_End a0 r) (σ : Sto) (hs2 : Sl (kI .u8) σ v1 a0.1) :
    Does Tryz.prog 103 [.pointer (some ⟨ba0, 0, none⟩)] σ [[(ba0, .cells [v1, .int .i64 a0.2.1, .int .i64 a0.2.2].toArray 225 (0, 0))]] (fun v τ gs => gs = [[(ba0, .cells [v1, .int .i64 a0.2.1, .int .i64 a0.2.2].toArray 225 (0, 0))]] ∧ .int .i64 r = v) := by
 refine call_of Tryz.func103 Tryz.ntmps103 rfl rfl (fun cs fs => ?_)
 refine Z 8 rfl ?_
 obtain ⟨r3, hr4, h⟩ := h
 refine st_call (foot := [[(ba0, .cells #[v1, .int .i64 a0.2.1, .int .i64 a0.2.2] 225 (0, 0))]]) rfl rfl rfl rfl rfl rfl (callV_fn z_en129 (lens_Lens_Err_ok hr4 σ hs2)) ?_
 rintro vτ5 τ5 gsτ5 hl6 ⟨rfl, rfl⟩
 refine Z 3 rfl ?_
 refine st_cut (fun ρ τ7 gs => ∃ (s7 : Bool), lens_Lens_End_j1 r3 s7 r ∧ τ5.Le τ7 ∧ ESub ρ [(2, .int .i64 0), (3, .int .i64 r3), (12, .bool s7)] ∧ gs = [[(ba0, .cells #[v1, .int .i64 a0.2.1, .int .i64 a0.2.2] 225 (0, 0))]]) ?_ (fun hk7 => ?_)
 ·rintro ρ7 τ7 gs7 ⟨s7, h, hl7, hρ, rfl⟩
  refine st_es hρ ?_
  refine st_if rfl h (fun h => ?_) (fun h => ?_)
  ·refine Z 5 rfl ?_
   obtain rfl := Eq.symm h
   exact st_ret (gs' := [[(ba0, .cells #[v1, .int .i64 a0.2.1, .int .i64 a0.2.2] 225 (0, 0))]]) Tryz.func103 rfl (List.Sublist.refl _) (hl6.trans hl7) ⟨rfl, rfl⟩
  ·refine Z 5 rfl ?_
   obtain rfl := Eq.symm h
   exact st_ret (gs' := [[(ba0, .cells #[v1, .int .i64 a0.2.1, .int .i64 a0.2.2] 225 (0, 0))]]) Tryz.func103 rfl (List.Sublist.refl _) (hl6.trans hl7) ⟨rfl, rfl⟩
 refine Z 3 rfl ?_
 refine o_mif rfl rfl rfl rfl h (fun h => ?_) (fun h => ?_)
 ·refine Z 5 rfl ?_
  exact hk7 _ _ _ ⟨true, h, (Sto.Le.refl _), rfl, rfl⟩
 ·refine o_move rfl rfl rfl rfl ?_
  obtain ⟨r8, hr9, h⟩ := h
  refine st_call (foot := [[(ba0, .cells #[v1, .int .i64 a0.2.1, .int .i64 a0.2.2] 225 (0, 0))]]) rfl rfl rfl rfl rfl rfl (callV_fn z_en130 (lens_Lens_Left_ok hr9 τ5 (hs2.up hl6))) ?_
  rintro vτ10 τ10 gsτ10 hl11 ⟨rfl, rfl⟩
  refine Z 3 rfl ?_
  exact hk7 _ _ _ ⟨(decide (r8 = 0)), h, hl11, rfl, rfl⟩
theorem head_wrong_1_ok {c0 : Int × Int × Int × Int × Int} {bc0 : Nat} {σ0 : Sto} (hc0_0 : Cel σ0 ⟨bc0, 0, none⟩ (.int .i64 c0.1)) (hc0_1 : Cel σ0 ⟨bc0, 1, none⟩ (.int .i64 c0.2.1)) (hc0_2 : Cel σ0 ⟨bc0, 2, none⟩ (.int .u32 c0.2.2.1)) (hc0_3 : Cel σ0 ⟨bc0, 3, none⟩ (.int .i64 c0.2.2.2.1)) (hc0_4 : Cel σ0 ⟨bc0, 4, none⟩ (.int .i64 c0.2.2.2.2)) :
    IterV Tryz.prog (fun _ x vx => vx = [.int .i64 x.1, .bool x.2]) (.func (.func 156) #[] [.pointer (some ⟨bc0, 0, none⟩)].toArray) σ0 [] (fun (_ : Unit) _ f => f = []) (head_wrong_1 c0) := by
 intro S Y I y hyc hyo hIm hY s s' o hR σ g hle hIg
 obtain ⟨r, hr0⟩ : ∃ r, r = (s', o) := ⟨_, rfl⟩
 rw [← hr0] at hR
 have h := hR
 refine callV_of (caps := [.pointer (some ⟨bc0, 0, none⟩)]) z_en156 ?_
 refine call_of Tryz.func156 Tryz.ntmps156 rfl rfl (fun cs fs => ?_)
 refine st_ord [0] _ rfl ?_
 refine Z 3 rfl ?_
 refine o_loadI (v := .int .i64 c0.1) rfl rfl rfl z_sc3 rfl (Cel.up hc0_0 hle) ?_
 refine o_ibin (v := .bool (decide (c0.1 < 1))) rfl rfl rfl rfl rfl rfl ?_
 refine o_mif rfl rfl rfl rfl h (fun h => ?_) (fun h => ?_)
 ·refine Z 4 rfl ?_
  obtain ⟨y1, u2, hy3, h⟩ := h
  refine st_call (foot := [g]) rfl rfl rfl rfl rfl rfl (hY (10, true) s _ _ _ _ _ (hle.trans (Sto.Le.refl _)) hy3 rfl hIg) ?_
  rintro vτ4 τ4 gsτ4 hl5 ⟨rfl, g6, rfl, hI7⟩
  refine o_mif rfl rfl rfl rfl h (fun h => ?_) (fun h => ?_)
  ·refine Z 2 rfl ?_
   refine o_loadI (v := .int .i64 c0.2.1) rfl rfl rfl z_sc3 rfl (Cel.up hc0_1 (hle.trans hl5)) ?_
   refine o_ibin (v := .bool (decide (c0.2.1 < 1))) rfl rfl rfl rfl rfl rfl ?_
   refine o_mif rfl rfl rfl rfl h (fun h => ?_) (fun h => ?_)
   ·refine Z 4 rfl ?_
    obtain ⟨y8, u9, hy10, h⟩ := h
    refine st_call (foot := [g6]) rfl rfl rfl rfl rfl rfl (hY (9, true) u2 _ _ _ _ _ (hle.trans hl5) hy10 rfl hI7) ?_
    rintro vτ11 τ11 gsτ11 hl12 ⟨rfl, g13, rfl, hI14⟩
    refine o_pick rfl rfl rfl rfl rfl ?_
    refine o_mif rfl rfl rfl rfl h (fun h => ?_) (fun h => ?_)
    ·refine Z 2 rfl ?_
     refine o_loadI (v := .int .i64 c0.2.2.2.2) rfl rfl rfl z_sc3 rfl (Cel.up hc0_4 ((hle.trans hl5).trans hl12)) ?_
     refine o_ibin (v := .bool (decide (c0.2.2.2.2 < 1))) rfl rfl rfl rfl rfl rfl ?_
     refine o_mif rfl rfl rfl rfl h (fun h => ?_) (fun h => ?_)
     ·refine Z 16 rfl ?_
      obtain ⟨y15, u16, hy17, h⟩ := h
      refine st_call (foot := [g13]) rfl rfl rfl rfl rfl rfl (hY (3, true) u9 _ _ _ _ _ (hle.trans (hl5.trans hl12)) hy17 rfl hI14) ?_
      rintro vτ18 τ18 gsτ18 hl19 ⟨rfl, g20, rfl, hI21⟩
      refine Z 2 rfl ?_
      obtain rfl := Eq.symm h
      cases hr0
      exact st_fin (gs' := [g20, []]) Tryz.func156 rfl (by simp) ((hl5.trans hl12).trans hl19) ⟨g20, _, rfl, hI21, rfl⟩
     ·refine o_fieldAddr rfl rfl rfl z_field59_4 rfl ?_
      refine o_loadI (v := .int .i64 c0.2.2.2.2) rfl rfl rfl z_sc3 rfl (Cel.up hc0_4 ((hle.trans hl5).trans hl12)) ?_
      refine Z 2 rfl ?_
      refine o_mif rfl rfl rfl rfl h (fun h => ?_) (fun h => ?_)
      ·refine Z 11 rfl ?_
       obtain ⟨y22, u23, hy24, h⟩ := h
       refine st_call (foot := [g13]) rfl rfl rfl rfl rfl rfl (hY (3, true) u9 _ _ _ _ _ (hle.trans (hl5.trans hl12)) hy24 rfl hI14) ?_
       rintro vτ25 τ25 gsτ25 hl26 ⟨rfl, g27, rfl, hI28⟩
       refine Z 2 rfl ?_
       obtain rfl := Eq.symm h
       cases hr0
       exact st_fin (gs' := [g27, []]) Tryz.func156 rfl (by simp) ((hl5.trans hl12).trans hl26) ⟨g27, _, rfl, hI28, rfl⟩
      ·refine o_fieldAddr rfl rfl rfl z_field59_3 rfl ?_
       refine o_loadI (v := .int .i64 c0.2.2.2.1) rfl rfl rfl z_sc3 rfl (Cel.up hc0_3 ((hle.trans hl5).trans hl12)) ?_
       refine Z 2 rfl ?_
       refine o_mif rfl rfl rfl rfl h (fun h => ?_) (fun h => ?_)
       ·refine Z 6 rfl ?_
        obtain ⟨y29, u30, hy31, h⟩ := h
        refine st_call (foot := [g13]) rfl rfl rfl rfl rfl rfl (hY (3, true) u9 _ _ _ _ _ (hle.trans (hl5.trans hl12)) hy31 rfl hI14) ?_
        rintro vτ32 τ32 gsτ32 hl33 ⟨rfl, g34, rfl, hI35⟩
        refine Z 2 rfl ?_
        obtain rfl := Eq.symm h
        cases hr0
        exact st_fin (gs' := [g34, []]) Tryz.func156 rfl (by simp) ((hl5.trans hl12).trans hl33) ⟨g34, _, rfl, hI35, rfl⟩
       ·refine o_fieldAddr rfl rfl rfl z_field59_3 rfl ?_
        refine o_loadI (v := .int .i64 c0.2.2.2.1) rfl rfl rfl z_sc3 rfl (Cel.up hc0_3 ((hle.trans hl5).trans hl12)) ?_
        refine o_fieldAddr rfl rfl rfl z_field59_4 rfl ?_
        refine o_loadI (v := .int .i64 c0.2.2.2.2) rfl rfl rfl z_sc3 rfl (Cel.up hc0_4 ((hle.trans hl5).trans hl12)) ?_
        refine Z 2 rfl ?_
        obtain ⟨y36, u37, hy38, h⟩ := h
        refine st_call (foot := [g13]) rfl rfl rfl rfl rfl rfl (hY (3, (decide (c0.2.2.2.2 ≤ c0.2.2.2.1))) u9 _ _ _ _ _ (hle.trans (hl5.trans hl12)) hy38 rfl hI14) ?_
        rintro vτ39 τ39 gsτ39 hl40 ⟨rfl, g41, rfl, hI42⟩
        refine Z 2 rfl ?_
        obtain rfl := Eq.symm h
        cases hr0
        exact st_fin (gs' := [g41, []]) Tryz.func156 rfl (by simp) ((hl5.trans hl12).trans hl40) ⟨g41, _, rfl, hI42, rfl⟩
    ·refine Z 24 rfl ?_
     obtain rfl := Eq.symm h
     cases hr0
     exact st_fin (gs' := [g13, []]) Tryz.func156 rfl (by simp) (hl5.trans hl12) ⟨g13, _, rfl, hI14, rfl⟩
   ·refine o_fieldAddr rfl rfl rfl z_field59_1 rfl ?_
    refine o_loadI (v := .int .i64 c0.2.1) rfl rfl rfl z_sc3 rfl (Cel.up hc0_1 (hle.trans hl5)) ?_
    refine Z 2 rfl ?_
    obtain ⟨y43, u44, hy45, h⟩ := h
    refine st_call (foot := [g6]) rfl rfl rfl rfl rfl rfl (hY (9, (decide (5 < c0.2.1))) u2 _ _ _ _ _ (hle.trans hl5) hy45 rfl hI7) ?_
    rintro vτ46 τ46 gsτ46 hl47 ⟨rfl, g48, rfl, hI49⟩
    refine o_pick rfl rfl rfl rfl rfl ?_
    refine o_mif rfl rfl rfl rfl h (fun h => ?_) (fun h => ?_)
    ·refine Z 2 rfl ?_
     refine o_loadI (v := .int .i64 c0.2.2.2.2) rfl rfl rfl z_sc3 rfl (Cel.up hc0_4 ((hle.trans hl5).trans hl47)) ?_
     refine o_ibin (v := .bool (decide (c0.2.2.2.2 < 1))) rfl rfl rfl rfl rfl rfl ?_
     refine o_mif rfl rfl rfl rfl h (fun h => ?_) (fun h => ?_)
     ·refine Z 16 rfl ?_
      obtain ⟨y50, u51, hy52, h⟩ := h
      refine st_call (foot := [g48]) rfl rfl rfl rfl rfl rfl (hY (3, true) u44 _ _ _ _ _ (hle.trans (hl5.trans hl47)) hy52 rfl hI49) ?_
      rintro vτ53 τ53 gsτ53 hl54 ⟨rfl, g55, rfl, hI56⟩
      refine Z 2 rfl ?_
      obtain rfl := Eq.symm h
      cases hr0
      exact st_fin (gs' := [g55, []]) Tryz.func156 rfl (by simp) ((hl5.trans hl47).trans hl54) ⟨g55, _, rfl, hI56, rfl⟩
     ·refine o_fieldAddr rfl rfl rfl z_field59_4 rfl ?_
      refine o_loadI (v := .int .i64 c0.2.2.2.2) rfl rfl rfl z_sc3 rfl (Cel.up hc0_4 ((hle.trans hl5).trans hl47)) ?_
      refine Z 2 rfl ?_
      refine o_mif rfl rfl rfl rfl h (fun h => ?_) (fun h => ?_)
      ·refine Z 11 rfl ?_
       obtain ⟨y57, u58, hy59, h⟩ := h
       refine st_call (foot := [g48]) rfl rfl rfl rfl rfl rfl (hY (3, true) u44 _ _ _ _ _ (hle.trans (hl5.trans hl47)) hy59 rfl hI49) ?_
       rintro vτ60 τ60 gsτ60 hl61 ⟨rfl, g62, rfl, hI63⟩
       refine Z 2 rfl ?_
       obtain rfl := Eq.symm h
       cases hr0
       exact st_fin (gs' := [g62, []]) Tryz.func156 rfl (by simp) ((hl5.trans hl47).trans hl61) ⟨g62, _, rfl, hI63, rfl⟩
      ·refine o_fieldAddr rfl rfl rfl z_field59_3 rfl ?_
       refine o_loadI (v := .int .i64 c0.2.2.2.1) rfl rfl rfl z_sc3 rfl (Cel.up hc0_3 ((hle.trans hl5).trans hl47)) ?_
       refine Z 2 rfl ?_
       refine o_mif rfl rfl rfl rfl h (fun h => ?_) (fun h => ?_)
       ·refine Z 6 rfl ?_
        obtain ⟨y64, u65, hy66, h⟩ := h
        refine st_call (foot := [g48]) rfl rfl rfl rfl rfl rfl (hY (3, true) u44 _ _ _ _ _ (hle.trans (hl5.trans hl47)) hy66 rfl hI49) ?_
        rintro vτ67 τ67 gsτ67 hl68 ⟨rfl, g69, rfl, hI70⟩
        refine Z 2 rfl ?_
        obtain rfl := Eq.symm h
        cases hr0
        exact st_fin (gs' := [g69, []]) Tryz.func156 rfl (by simp) ((hl5.trans hl47).trans hl68) ⟨g69, _, rfl, hI70, rfl⟩
       ·refine o_fieldAddr rfl rfl rfl z_field59_3 rfl ?_
        refine o_loadI (v := .int .i64 c0.2.2.2.1) rfl rfl rfl z_sc3 rfl (Cel.up hc0_3 ((hle.trans hl5).trans hl47)) ?_
        refine o_fieldAddr rfl rfl rfl z_field59_4 rfl ?_
        refine o_loadI (v := .int .i64 c0.2.2.2.2) rfl rfl rfl z_sc3 rfl (Cel.up hc0_4 ((hle.trans hl5).trans hl47)) ?_
        refine Z 2 rfl ?_
        obtain ⟨y71, u72, hy73, h⟩ := h
        refine st_call (foot := [g48]) rfl rfl rfl rfl rfl rfl (hY (3, (decide (c0.2.2.2.2 ≤ c0.2.2.2.1))) u44 _ _ _ _ _ (hle.trans (hl5.trans hl47)) hy73 rfl hI49) ?_
        rintro vτ74 τ74 gsτ74 hl75 ⟨rfl, g76, rfl, hI77⟩
        refine Z 2 rfl ?_
        obtain rfl := Eq.symm h
        cases hr0
        exact st_fin (gs' := [g76, []]) Tryz.func156 rfl (by simp) ((hl5.trans hl47).trans hl75) ⟨g76, _, rfl, hI77, rfl⟩
    ·refine Z 24 rfl ?_
     obtain rfl := Eq.symm h
     cases hr0
     exact st_fin (gs' := [g48, []]) Tryz.func156 rfl (by simp) (hl5.trans hl47) ⟨g48, _, rfl, hI49, rfl⟩
  ·refine Z 36 rfl ?_
   obtain rfl := Eq.symm h
   cases hr0
   exact st_fin (gs' := [g6, []]) Tryz.func156 rfl (by simp) hl5 ⟨g6, _, rfl, hI7, rfl⟩
 ·refine o_fieldAddr rfl rfl rfl z_field59_0 rfl ?_
  refine o_loadI (v := .int .i64 c0.1) rfl rfl rfl z_sc3 rfl (Cel.up hc0_0 hle) ?_
  refine Z 2 rfl ?_
  obtain ⟨y78, u79, hy80, h⟩ := h
  refine st_call (foot := [g]) rfl rfl rfl rfl rfl rfl (hY (10, (decide (2 < c0.1))) s _ _ _ _ _ (hle.trans (Sto.Le.refl _)) hy80 rfl hIg) ?_
  rintro vτ81 τ81 gsτ81 hl82 ⟨rfl, g83, rfl, hI84⟩
  refine o_mif rfl rfl rfl rfl h (fun h => ?_) (fun h => ?_)
  ·refine Z 2 rfl ?_
   refine o_loadI (v := .int .i64 c0.2.1) rfl rfl rfl z_sc3 rfl (Cel.up hc0_1 (hle.trans hl82)) ?_
   refine o_ibin (v := .bool (decide (c0.2.1 < 1))) rfl rfl rfl rfl rfl rfl ?_
   refine o_mif rfl rfl rfl rfl h (fun h => ?_) (fun h => ?_)
   ·refine Z 4 rfl ?_
    obtain ⟨y85, u86, hy87, h⟩ := h
    refine st_call (foot := [g83]) rfl rfl rfl rfl rfl rfl (hY (9, true) u79 _ _ _ _ _ (hle.trans hl82) hy87 rfl hI84) ?_
    rintro vτ88 τ88 gsτ88 hl89 ⟨rfl, g90, rfl, hI91⟩
    refine o_pick rfl rfl rfl rfl rfl ?_
    refine o_mif rfl rfl rfl rfl h (fun h => ?_) (fun h => ?_)
    ·refine Z 2 rfl ?_
     refine o_loadI (v := .int .i64 c0.2.2.2.2) rfl rfl rfl z_sc3 rfl (Cel.up hc0_4 ((hle.trans hl82).trans hl89)) ?_
     refine o_ibin (v := .bool (decide (c0.2.2.2.2 < 1))) rfl rfl rfl rfl rfl rfl ?_
     refine o_mif rfl rfl rfl rfl h (fun h => ?_) (fun h => ?_)
     ·refine Z 16 rfl ?_
      obtain ⟨y92, u93, hy94, h⟩ := h
      refine st_call (foot := [g90]) rfl rfl rfl rfl rfl rfl (hY (3, true) u86 _ _ _ _ _ (hle.trans (hl82.trans hl89)) hy94 rfl hI91) ?_
      rintro vτ95 τ95 gsτ95 hl96 ⟨rfl, g97, rfl, hI98⟩
      refine Z 2 rfl ?_
      obtain rfl := Eq.symm h
      cases hr0
      exact st_fin (gs' := [g97, []]) Tryz.func156 rfl (by simp) ((hl82.trans hl89).trans hl96) ⟨g97, _, rfl, hI98, rfl⟩
     ·refine o_fieldAddr rfl rfl rfl z_field59_4 rfl ?_
      refine o_loadI (v := .int .i64 c0.2.2.2.2) rfl rfl rfl z_sc3 rfl (Cel.up hc0_4 ((hle.trans hl82).trans hl89)) ?_
      refine Z 2 rfl ?_
      refine o_mif rfl rfl rfl rfl h (fun h => ?_) (fun h => ?_)
      ·refine Z 11 rfl ?_
       obtain ⟨y99, u100, hy101, h⟩ := h
       refine st_call (foot := [g90]) rfl rfl rfl rfl rfl rfl (hY (3, true) u86 _ _ _ _ _ (hle.trans (hl82.trans hl89)) hy101 rfl hI91) ?_
       rintro vτ102 τ102 gsτ102 hl103 ⟨rfl, g104, rfl, hI105⟩
       refine Z 2 rfl ?_
       obtain rfl := Eq.symm h
       cases hr0
       exact st_fin (gs' := [g104, []]) Tryz.func156 rfl (by simp) ((hl82.trans hl89).trans hl103) ⟨g104, _, rfl, hI105, rfl⟩
      ·refine o_fieldAddr rfl rfl rfl z_field59_3 rfl ?_
       refine o_loadI (v := .int .i64 c0.2.2.2.1) rfl rfl rfl z_sc3 rfl (Cel.up hc0_3 ((hle.trans hl82).trans hl89)) ?_
       refine Z 2 rfl ?_
       refine o_mif rfl rfl rfl rfl h (fun h => ?_) (fun h => ?_)
       ·refine Z 6 rfl ?_
        obtain ⟨y106, u107, hy108, h⟩ := h
        refine st_call (foot := [g90]) rfl rfl rfl rfl rfl rfl (hY (3, true) u86 _ _ _ _ _ (hle.trans (hl82.trans hl89)) hy108 rfl hI91) ?_
        rintro vτ109 τ109 gsτ109 hl110 ⟨rfl, g111, rfl, hI112⟩
        refine Z 2 rfl ?_
        obtain rfl := Eq.symm h
        cases hr0
        exact st_fin (gs' := [g111, []]) Tryz.func156 rfl (by simp) ((hl82.trans hl89).trans hl110) ⟨g111, _, rfl, hI112, rfl⟩
       ·refine o_fieldAddr rfl rfl rfl z_field59_3 rfl ?_
        refine o_loadI (v := .int .i64 c0.2.2.2.1) rfl rfl rfl z_sc3 rfl (Cel.up hc0_3 ((hle.trans hl82).trans hl89)) ?_
        refine o_fieldAddr rfl rfl rfl z_field59_4 rfl ?_
        refine o_loadI (v := .int .i64 c0.2.2.2.2) rfl rfl rfl z_sc3 rfl (Cel.up hc0_4 ((hle.trans hl82).trans hl89)) ?_
        refine Z 2 rfl ?_
        obtain ⟨y113, u114, hy115, h⟩ := h
        refine st_call (foot := [g90]) rfl rfl rfl rfl rfl rfl (hY (3, (decide (c0.2.2.2.2 ≤ c0.2.2.2.1))) u86 _ _ _ _ _ (hle.trans (hl82.trans hl89)) hy115 rfl hI91) ?_
        rintro vτ116 τ116 gsτ116 hl117 ⟨rfl, g118, rfl, hI119⟩
        refine Z 2 rfl ?_
        obtain rfl := Eq.symm h
        cases hr0
        exact st_fin (gs' := [g118, []]) Tryz.func156 rfl (by simp) ((hl82.trans hl89).trans hl117) ⟨g118, _, rfl, hI119, rfl⟩
    ·refine Z 24 rfl ?_
     obtain rfl := Eq.symm h
     cases hr0
     exact st_fin (gs' := [g90, []]) Tryz.func156 rfl (by simp) (hl82.trans hl89) ⟨g90, _, rfl, hI91, rfl⟩
   ·refine o_fieldAddr rfl rfl rfl z_field59_1 rfl ?_
    refine o_loadI (v := .int .i64 c0.2.1) rfl rfl rfl z_sc3 rfl (Cel.up hc0_1 (hle.trans hl82)) ?_
    refine Z 2 rfl ?_
    obtain ⟨y120, u121, hy122, h⟩ := h
    refine st_call (foot := [g83]) rfl rfl rfl rfl rfl rfl (hY (9, (decide (5 < c0.2.1))) u79 _ _ _ _ _ (hle.trans hl82) hy122 rfl hI84) ?_
    rintro vτ123 τ123 gsτ123 hl124 ⟨rfl, g125, rfl, hI126⟩
    refine o_pick rfl rfl rfl rfl rfl ?_
    refine o_mif rfl rfl rfl rfl h (fun h => ?_) (fun h => ?_)
    ·refine Z 2 rfl ?_
     refine o_loadI (v := .int .i64 c0.2.2.2.2) rfl rfl rfl z_sc3 rfl (Cel.up hc0_4 ((hle.trans hl82).trans hl124)) ?_
     refine o_ibin (v := .bool (decide (c0.2.2.2.2 < 1))) rfl rfl rfl rfl rfl rfl ?_
     refine o_mif rfl rfl rfl rfl h (fun h => ?_) (fun h => ?_)
     ·refine Z 16 rfl ?_
      obtain ⟨y127, u128, hy129, h⟩ := h
      refine st_call (foot := [g125]) rfl rfl rfl rfl rfl rfl (hY (3, true) u121 _ _ _ _ _ (hle.trans (hl82.trans hl124)) hy129 rfl hI126) ?_
      rintro vτ130 τ130 gsτ130 hl131 ⟨rfl, g132, rfl, hI133⟩
      refine Z 2 rfl ?_
      obtain rfl := Eq.symm h
      cases hr0
      exact st_fin (gs' := [g132, []]) Tryz.func156 rfl (by simp) ((hl82.trans hl124).trans hl131) ⟨g132, _, rfl, hI133, rfl⟩
     ·refine o_fieldAddr rfl rfl rfl z_field59_4 rfl ?_
      refine o_loadI (v := .int .i64 c0.2.2.2.2) rfl rfl rfl z_sc3 rfl (Cel.up hc0_4 ((hle.trans hl82).trans hl124)) ?_
      refine Z 2 rfl ?_
      refine o_mif rfl rfl rfl rfl h (fun h => ?_) (fun h => ?_)
      ·refine Z 11 rfl ?_
       obtain ⟨y134, u135, hy136, h⟩ := h
       refine st_call (foot := [g125]) rfl rfl rfl rfl rfl rfl (hY (3, true) u121 _ _ _ _ _ (hle.trans (hl82.trans hl124)) hy136 rfl hI126) ?_
       rintro vτ137 τ137 gsτ137 hl138 ⟨rfl, g139, rfl, hI140⟩
       refine Z 2 rfl ?_
       obtain rfl := Eq.symm h
       cases hr0
       exact st_fin (gs' := [g139, []]) Tryz.func156 rfl (by simp) ((hl82.trans hl124).trans hl138) ⟨g139, _, rfl, hI140, rfl⟩
      ·refine o_fieldAddr rfl rfl rfl z_field59_3 rfl ?_
       refine o_loadI (v := .int .i64 c0.2.2.2.1) rfl rfl rfl z_sc3 rfl (Cel.up hc0_3 ((hle.trans hl82).trans hl124)) ?_
       refine Z 2 rfl ?_
       refine o_mif rfl rfl rfl rfl h (fun h => ?_) (fun h => ?_)
       ·refine Z 6 rfl ?_
        obtain ⟨y141, u142, hy143, h⟩ := h
        refine st_call (foot := [g125]) rfl rfl rfl rfl rfl rfl (hY (3, true) u121 _ _ _ _ _ (hle.trans (hl82.trans hl124)) hy143 rfl hI126) ?_
        rintro vτ144 τ144 gsτ144 hl145 ⟨rfl, g146, rfl, hI147⟩
        refine Z 2 rfl ?_
        obtain rfl := Eq.symm h
        cases hr0
        exact st_fin (gs' := [g146, []]) Tryz.func156 rfl (by simp) ((hl82.trans hl124).trans hl145) ⟨g146, _, rfl, hI147, rfl⟩
       ·refine o_fieldAddr rfl rfl rfl z_field59_3 rfl ?_
        refine o_loadI (v := .int .i64 c0.2.2.2.1) rfl rfl rfl z_sc3 rfl (Cel.up hc0_3 ((hle.trans hl82).trans hl124)) ?_
        refine o_fieldAddr rfl rfl rfl z_field59_4 rfl ?_
        refine o_loadI (v := .int .i64 c0.2.2.2.2) rfl rfl rfl z_sc3 rfl (Cel.up hc0_4 ((hle.trans hl82).trans hl124)) ?_
        refine Z 2 rfl ?_
        obtain ⟨y148, u149, hy150, h⟩ := h
        refine st_call (foot := [g125]) rfl rfl rfl rfl rfl rfl (hY (3, (decide (c0.2.2.2.2 ≤ c0.2.2.2.1))) u121 _ _ _ _ _ (hle.trans (hl82.trans hl124)) hy150 rfl hI126) ?_
        rintro vτ151 τ151 gsτ151 hl152 ⟨rfl, g153, rfl, hI154⟩
        refine Z 2 rfl ?_
        obtain rfl := Eq.symm h
        cases hr0
        exact st_fin (gs' := [g153, []]) Tryz.func156 rfl (by simp) ((hl82.trans hl124).trans hl152) ⟨g153, _, rfl, hI154, rfl⟩
    ·refine Z 24 rfl ?_
     obtain rfl := Eq.symm h
     cases hr0
     exact st_fin (gs' := [g125, []]) Tryz.func156 rfl (by simp) (hl82.trans hl124) ⟨g125, _, rfl, hI126, rfl⟩
  ·refine Z 36 rfl ?_
   obtain rfl := Eq.symm h
   cases hr0
   exact st_fin (gs' := [g83, []]) Tryz.func156 rfl (by simp) hl82 ⟨g83, _, rfl, hI84, rfl⟩
theorem head_wrong_ok {a0 : Int × Int × Int × Int × Int} {r : (((S : Type) → ((Int × Bool) → S → Bool × S → Prop) → S → S × Unit → Prop))} (h : head_wrong a0 r) (σ : Sto)  :
    Does Tryz.prog 131 [.agg [.int .i64 a0.1, .int .i64 a0.2.1, .int .u32 a0.2.2.1, .int .i64 a0.2.2.2.1, .int .i64 a0.2.2.2.2].toArray] σ [] (fun v τ gs => ∃ (f5 : Nat) (q6 : Array Value), gs = [] ∧ .func (.func f5) #[] q6 = v ∧ IterV Tryz.prog (fun _ x vx => vx = [.int .i64 x.1, .bool x.2]) (.func (.func f5) #[] q6) τ [] (fun (_ : Unit) _ f => f = []) r) := by
 refine call_of Tryz.func131 Tryz.ntmps131 rfl rfl (fun cs fs => ?_)
 refine Z 2 rfl ?_
 refine o_boxC rfl rfl rfl rfl rfl rfl (fun b1 => ?_)
 refine Z 4 rfl ?_
 refine st_freeze (fun τ2 hl3 hg4 => ?_)
 refine Z 3 rfl ?_
 obtain rfl := Eq.symm h
 exact st_ret (gs' := []) Tryz.func131 rfl (List.Sublist.refl _) hl3 ⟨_, _, rfl, rfl, (head_wrong_1_ok (cel_of hg4 rfl) (cel_of hg4 rfl) (cel_of hg4 rfl) (cel_of hg4 rfl) (cel_of hg4 rfl))⟩
theorem head_Check_ok {a0 : Int × Int × Int × Int × Int} {r : Int} (h : head_Check a0 r) (σ : Sto)  :
    Does Tryz.prog 104 [.agg [.int .i64 a0.1, .int .i64 a0.2.1, .int .u32 a0.2.2.1, .int .i64 a0.2.2.2.1, .int .i64 a0.2.2.2.2].toArray] σ [] (fun v τ gs => gs = [] ∧ .int .i64 r = v) := by
 refine call_of Tryz.func104 Tryz.ntmps104 rfl rfl (fun cs fs => ?_)
 refine Z 2 rfl ?_
 refine o_boxC rfl rfl rfl rfl rfl rfl (fun b1 => ?_)
 refine Z 5 rfl ?_
 refine o_alloc rfl rfl rfl z_zero46 (fun b2 => ?_)
 refine ZZ 5 [0] rfl rfl ?_
 refine st_cut (fun ρ τ3 gs => ∃ (s3 : Int), head_Check_j1 s3 r ∧ σ.Le τ3 ∧ ESub ρ [(2, .int .i64 0), (3, .pointer (some ⟨b2, 0, none⟩))] ∧ gs = [[(b2, .cells #[.int .i64 s3] 46 (0, 0))]]) ?_ (fun hk3 => ?_)
 ·rintro ρ3 τ3 gs3 ⟨s3, h, hl3, hρ, rfl⟩
  refine st_es hρ ?_
  refine ZZ 5 [0] rfl rfl ?_
  refine st_ord [] _ rfl ?_
  obtain rfl := Eq.symm h
  exact st_ret (gs' := []) Tryz.func104 rfl (List.Sublist.refl _) hl3 ⟨rfl, rfl⟩
 refine ZZ 3 [1] rfl rfl ?_
 obtain ⟨r4, hr5, h⟩ := h
 refine st_call (foot := []) rfl rfl rfl rfl rfl rfl (callV_fn z_en131 (head_wrong_ok hr5 σ)) ?_
 rintro vτ6 τ6 gsτ6 hl7 ⟨f8, q9, rfl, rfl, hit10⟩
 refine Z 2 rfl ?_
 obtain ⟨t11, w11, hR11, hA11⟩ := h
 refine st_env (ρ' := [(2, .int .i64 0), (3, .pointer (some ⟨b2, 0, none⟩)), (7, .func (.func f8) #[] q9)]) ⟨rfl, rfl, rfl, trivial⟩ ?_
 refine st_ord [0] _ rfl ?_
 refine st_addNil ?_
 refine st_range (B := head_Check_l2) (s0 := ()) ranges_fctx rfl hit10 (Sto.Le.refl _) hR11 rfl (fun _ _ _ h => by cases h; rfl) (fun (s11 : Unit) τ11 gs => τ6.Le τ11 ∧ gs = [[(b2, .cells #[.int .i64 0] 46 (0, 0))]]) (fun (p12 : Int) cd τ13 gs => cd = .exit 0 ∧ τ6.Le τ13 ∧ gs = [[(b2, .cells #[.int .i64 p12] 46 (0, 0))]]) (fun _ _ _ _ hl ⟨hb, hg⟩ => ⟨hb.trans hl, hg⟩) (fun _ _ _ _ _ hl ⟨hc, hb, hg⟩ => ⟨hc, hb.trans hl, hg⟩) ⟨Sto.Le.refl _, rfl⟩ ?_ ?_ ?_
 ·rintro x11 s11 o11 τ11 gs11 vx11 hl11 h rfl ⟨hb11, rfl⟩ l11 rc11 caller11 cs11 fs11
  refine Z 7 rfl ?_
  refine st_begin ?_
  refine Z 5 rfl ?_
  refine st_if rfl h (fun h => ?_) (fun h => ?_)
  ·refine ZZ 5 [0] rfl rfl ?_
   exact st_rexit rfl (List.Sublist.refl _) (Sto.Le.refl _) ⟨_, h, rfl, hl11, rfl⟩
  ·refine Z 2 rfl ?_
   exact st_rend (List.Sublist.refl _) (Sto.Le.refl _) ⟨_, h, hl11, rfl⟩
 ·rintro p15 τ16 gs11 f11 ht hl17 ⟨hb, rfl⟩ rfl
  subst ht
  replace h := hA11
  refine st_ord [1] _ rfl ?_
  refine st_inBlock ?_
  exact hk3 _ _ _ ⟨0, h, (hl7.trans hl17), rfl, rfl⟩
 ·rintro p12 cd11 τ13 gs11 f11 ht hl14 ⟨rfl, hb, rfl⟩ rfl
  subst ht
  replace h := hA11
  refine st_ord [1] _ rfl ?_
  refine st_exit rfl ?_
  exact hk3 _ _ _ ⟨p12, h, (hl7.trans hl14), rfl, rfl⟩
theorem head_Parse_ok {a0 : List Int} {v1 : Value} {r : (Int × Int × Int × Int × Int) × Int} (h : head_Parse a0 r) (σ : Sto) (hs2 : Sl (kI .u8) σ v1 a0) :
    Does Tryz.prog 63 [v1] σ [] (fun v τ gs => gs = [] ∧ .tuple [.agg [.int .i64 r.1.1, .int .i64 r.1.2.1, .int .u32 r.1.2.2.1, .int .i64 r.1.2.2.2.1, .int .i64 r.1.2.2.2.2].toArray, .int .i64 r.2].toArray = v) := by
 refine call_of Tryz.func63 Tryz.ntmps63 rfl rfl (fun cs fs => ?_)
 refine Z 2 rfl ?_
 refine o_alloc rfl rfl rfl z_zero59 (fun b3 => ?_)
 refine Z 6 rfl ?_
 refine o_lenI rfl rfl rfl z_slT23 rfl hs2 ?_
 refine Z 2 rfl ?_
 refine st_if rfl h (fun h => ?_) (fun h => ?_)
 ·refine ZZ 6 [0] rfl rfl ?_
  obtain rfl := Eq.symm h
  exact st_retC (gs' := []) [.agg #[.int .i64 0, .int .i64 0, .int .u32 0, .int .i64 0, .int .i64 0], .int .i64 13] Tryz.func63 ⟨⟨_, _, _, _, rfl, mem_flat 0 rfl, fun w hw => cellOfN (vs := [.int .i64 0, .int .i64 0, .int .u32 0, .int .i64 0, .int .i64 0]) z_agg59 rfl w hw⟩, rfl, trivial⟩ (by simp) (Sto.Le.refl _) ⟨rfl, rfl⟩
 ·refine Z 4 rfl ?_
  obtain ⟨r4, hr5, h⟩ := h
  refine st_call (foot := []) rfl rfl rfl rfl rfl rfl (callV_fn z_en100 (lens_New_ok hr5 σ hs2)) ?_
  rintro vτ6 τ6 gsτ6 hl7 ⟨b8, v9, rfl, rfl, hs10⟩
  refine Z 5 rfl ?_
  obtain ⟨r11, hr12, h⟩ := h
  refine st_call (foot := [[(b8, .cells #[v9, .int .i64 r4.2.1, .int .i64 r4.2.2] 225 (0, 0))]]) rfl rfl rfl rfl rfl rfl (callV_fn z_en101 (lens_Lens_U8_ok hr12 τ6 hs10)) ?_
  rintro vτ13 τ13 gsτ13 hl14 ⟨v15, rfl, rfl, hs16⟩
  refine Z 2 rfl ?_
  obtain ⟨r17, hr18, h⟩ := h
  refine st_call (foot := [[(b8, .cells #[v15, .int .i64 r11.2.2.1, .int .i64 r11.2.2.2] 225 (0, 0))]]) rfl rfl rfl rfl rfl rfl (callV_fn z_en101 (lens_Lens_U8_ok hr18 τ13 hs16)) ?_
  rintro vτ19 τ19 gsτ19 hl20 ⟨v21, rfl, rfl, hs22⟩
  refine Z 2 rfl ?_
  obtain ⟨r23, hr24, h⟩ := h
  refine st_call (foot := [[(b8, .cells #[v21, .int .i64 r17.2.2.1, .int .i64 r17.2.2.2] 225 (0, 0))]]) rfl rfl rfl rfl rfl rfl (callV_fn z_en102 (lens_Lens_U32_ok hr24 τ19 hs22)) ?_
  rintro vτ25 τ25 gsτ25 hl26 ⟨v27, rfl, rfl, hs28⟩
  refine o_move rfl rfl rfl rfl ?_
  obtain ⟨r29, hr30, h⟩ := h
  refine st_call (foot := [[(b8, .cells #[v27, .int .i64 r23.2.2.1, .int .i64 r23.2.2.2] 225 (0, 0))]]) rfl rfl rfl rfl rfl rfl (callV_fn z_en101 (lens_Lens_U8_ok hr30 τ25 hs28)) ?_
  rintro vτ31 τ31 gsτ31 hl32 ⟨v33, rfl, rfl, hs34⟩
  refine Z 2 rfl ?_
  obtain ⟨r35, hr36, h⟩ := h
  refine st_call (foot := [[(b8, .cells #[v33, .int .i64 r29.2.2.1, .int .i64 r29.2.2.2] 225 (0, 0))]]) rfl rfl rfl rfl rfl rfl (callV_fn z_en101 (lens_Lens_U8_ok hr36 τ31 hs34)) ?_
  rintro vτ37 τ37 gsτ37 hl38 ⟨v39, rfl, rfl, hs40⟩
  refine ZZ 2 [] rfl rfl ?_
  refine o_alloc rfl rfl rfl z_zero59 (fun b41 => ?_)
  refine ZZ 5 [0] rfl rfl ?_
  obtain ⟨r42, hr43, h⟩ := h
  refine st_ord [1, 0, 0] _ rfl ?_
  refine st_call (foot := [[(b8, .cells #[v39, .int .i64 r35.2.2.1, .int .i64 r35.2.2.2] 225 (0, 0))]]) rfl rfl rfl rfl rfl rfl (callV_fn z_en103 (lens_Lens_End_ok hr43 τ37 hs40)) ?_
  rintro vτ44 τ44 gsτ44 hl45 ⟨rfl, rfl⟩
  refine Z 3 rfl ?_
  refine st_cut (fun ρ τ46 gs => ∃ (s46 : Int), head_Parse_j1 r11 r17 r23 r29 r35 s46 r ∧ τ44.Le τ46 ∧ ESub ρ [(2, .pointer (some ⟨b3, 0, none⟩)), (3, .int .i64 0), (5, .pointer (some ⟨b41, 0, none⟩)), (6, .int .i64 s46)] ∧ gs = [[(b3, .cells #[.int .i64 0, .int .i64 0, .int .u32 0, .int .i64 0, .int .i64 0] 59 (0, 0))], [(b41, .cells #[.int .i64 (IntKind.i64.wrap r11.1), .int .i64 (IntKind.i64.wrap r17.1), .int .u32 r23.1, .int .i64 (IntKind.i64.wrap r29.1), .int .i64 (IntKind.i64.wrap r35.1)] 59 (0, 0))]]) ?_ (fun hk46 => ?_)
  ·rintro ρ46 τ46 gs46 ⟨s46, h, hl46, hρ, rfl⟩
   refine st_es hρ ?_
   refine Z 6 rfl ?_
   refine st_if rfl h (fun h => ?_) (fun h => ?_)
   ·refine ZZ 7 [0] rfl rfl ?_
    obtain rfl := Eq.symm h
    exact st_retC (gs' := []) [.agg #[.int .i64 0, .int .i64 0, .int .u32 0, .int .i64 0, .int .i64 0], .int .i64 s46] Tryz.func63 ⟨⟨_, _, _, _, rfl, mem_flat 0 rfl, fun w hw => cellOfN (vs := [.int .i64 0, .int .i64 0, .int .u32 0, .int .i64 0, .int .i64 0]) z_agg59 rfl w hw⟩, rfl, trivial⟩ (by simp) (((((((hl7.trans hl14).trans hl20).trans hl26).trans hl32).trans hl38).trans hl45).trans hl46) ⟨rfl, rfl⟩
   ·refine ZZ 7 [1, 0] rfl rfl ?_
    obtain rfl := Eq.symm h
    exact st_retC (gs' := []) [.agg #[.int .i64 (IntKind.i64.wrap r11.1), .int .i64 (IntKind.i64.wrap r17.1), .int .u32 r23.1, .int .i64 (IntKind.i64.wrap r29.1), .int .i64 (IntKind.i64.wrap r35.1)], .int .i64 0] Tryz.func63 ⟨⟨_, _, _, _, rfl, mem_flat 0 rfl, fun w hw => cellOfN (vs := [.int .i64 (IntKind.i64.wrap r11.1), .int .i64 (IntKind.i64.wrap r17.1), .int .u32 r23.1, .int .i64 (IntKind.i64.wrap r29.1), .int .i64 (IntKind.i64.wrap r35.1)]) z_agg59 rfl w hw⟩, rfl, trivial⟩ (by simp) (((((((hl7.trans hl14).trans hl20).trans hl26).trans hl32).trans hl38).trans hl45).trans hl46) ⟨rfl, rfl⟩
  refine Z 5 rfl ?_
  refine st_if rfl h (fun h => ?_) (fun h => ?_)
  ·refine ZZ 2 [1] rfl rfl ?_
   obtain ⟨r47, hr48, h⟩ := h
   refine st_call (foot := []) rfl rfl rfl rfl rfl rfl (callV_fn z_en104 (head_Check_ok hr48 τ44)) ?_
   rintro vτ49 τ49 gsτ49 hl50 ⟨rfl, rfl⟩
   refine Z 2 rfl ?_
   refine st_ord [2, 1] _ rfl ?_
   exact hk46 _ _ _ ⟨r47, h, hl50, rfl, rfl⟩
  ·refine st_skip ?_
   refine st_ord [2, 1] _ rfl ?_
   exact hk46 _ _ _ ⟨r42, h, (Sto.Le.refl _), rfl, rfl⟩
theorem frame_Codec_Unpack_ok {a0 : List Int} {a1 : List Int} {bi3 : Nat} {bi1 : Nat} {v5 : Value} {r : ((Int × Int × Int × Int × Int) × List Int) × Int} (h : frame_Codec_Unpack a0 a1 r) (σ : Sto) (hc4 : CelN σ ⟨bi3, 0, none⟩ (cellsN (Value.int .u32) 0 1024 a0)) (hc2 : CelN σ ⟨bi1, 0, none⟩ [.pointer (some ⟨bi3, 0, none⟩)]) (hs6 : Sl (kI .u8) σ v5 a1) :
    Does Tryz.prog 31 [.pointer (some ⟨bi1, 0, none⟩), v5] σ [] (fun v τ gs => ∃ (v33 : Value), gs = [] ∧ .tuple [.agg [.int .i64 r.1.1.1, .int .i64 r.1.1.2.1, .int .u32 r.1.1.2.2.1, .int .i64 r.1.1.2.2.2.1, .int .i64 r.1.1.2.2.2.2, v33].toArray, .int .i64 r.2].toArray = v ∧ Sl (kI .u8) τ v33 r.1.2) := by
 refine call_of Tryz.func31 Tryz.ntmps31 rfl rfl (fun cs fs => ?_)
 refine Z 2 rfl ?_
 refine o_alloc rfl rfl rfl z_zero61 (fun b7 => ?_)
 refine Z 14 rfl ?_
 refine o_lenI rfl rfl rfl z_slT23 rfl hs6 ?_
 refine Z 3 rfl ?_
 refine st_if rfl h (fun h => ?_) (fun h => ?_)
 ·refine ZZ 6 [0] rfl rfl ?_
  obtain rfl := Eq.symm h
  exact st_retC (gs' := []) [.agg #[.int .i64 0, .int .i64 0, .int .u32 0, .int .i64 0, .int .i64 0, .slice none 0 0], .int .i64 2] Tryz.func31 ⟨⟨_, _, _, _, rfl, mem_flat 0 rfl, fun w hw => cellOfN (vs := [.int .i64 0, .int .i64 0, .int .u32 0, .int .i64 0, .int .i64 0, .slice none 0 0]) z_agg61 rfl w hw⟩, rfl, trivial⟩ (by simp) (Sto.Le.refl _) ⟨_, rfl, rfl, Sl.nil⟩
 ·refine Z 5 rfl ?_
  obtain ⟨r8, hr9, h⟩ := h
  refine st_call (foot := []) rfl rfl rfl rfl rfl rfl (callV_fn z_en61 (cobs_Decode_ok hr9 σ hs6)) ?_
  rintro vτ10 τ10 gsτ10 hl11 ⟨v12, rfl, rfl, hs13⟩
  refine Z 14 rfl ?_
  refine st_if rfl h (fun h => ?_) (fun h => ?_)
  ·refine ZZ 7 [0] rfl rfl ?_
   obtain rfl := Eq.symm h
   exact st_retC (gs' := []) [.agg #[.int .i64 0, .int .i64 0, .int .u32 0, .int .i64 0, .int .i64 0, .slice none 0 0], .int .i64 r8.2] Tryz.func31 ⟨⟨_, _, _, _, rfl, mem_flat 0 rfl, fun w hw => cellOfN (vs := [.int .i64 0, .int .i64 0, .int .u32 0, .int .i64 0, .int .i64 0, .slice none 0 0]) z_agg61 rfl w hw⟩, rfl, trivial⟩ (by simp) hl11 ⟨_, rfl, rfl, Sl.nil⟩
  ·refine Z 3 rfl ?_
   refine o_lenI rfl rfl rfl z_slT23 rfl hs13 ?_
   refine Z 3 rfl ?_
   refine st_if rfl h (fun h => ?_) (fun h => ?_)
   ·refine ZZ 6 [0] rfl rfl ?_
    obtain rfl := Eq.symm h
    exact st_retC (gs' := []) [.agg #[.int .i64 0, .int .i64 0, .int .u32 0, .int .i64 0, .int .i64 0, .slice none 0 0], .int .i64 13] Tryz.func31 ⟨⟨_, _, _, _, rfl, mem_flat 0 rfl, fun w hw => cellOfN (vs := [.int .i64 0, .int .i64 0, .int .u32 0, .int .i64 0, .int .i64 0, .slice none 0 0]) z_agg61 rfl w hw⟩, rfl, trivial⟩ (by simp) hl11 ⟨_, rfl, rfl, Sl.nil⟩
   ·refine Z 8 rfl ?_
    refine o_loadI (v := .pointer (some ⟨bi3, 0, none⟩)) rfl rfl rfl z_sc70 rfl ((hc2.up hl11) 0 _ rfl) ?_
    refine o_move rfl rfl rfl rfl ?_
    obtain ⟨r14, hr15, h⟩ := h
    refine st_call (foot := []) rfl rfl rfl rfl rfl rfl (callV_fn z_en62 (crc_Open_ok hr15 τ10 (hc4.up hl11) hs13)) ?_
    rintro vτ16 τ16 gsτ16 hl17 ⟨v18, rfl, rfl, hs19⟩
    refine Z 11 rfl ?_
    refine st_if rfl h (fun h => ?_) (fun h => ?_)
    ·refine ZZ 7 [0] rfl rfl ?_
     obtain rfl := Eq.symm h
     exact st_retC (gs' := []) [.agg #[.int .i64 0, .int .i64 0, .int .u32 0, .int .i64 0, .int .i64 0, .slice none 0 0], .int .i64 r14.2] Tryz.func31 ⟨⟨_, _, _, _, rfl, mem_flat 0 rfl, fun w hw => cellOfN (vs := [.int .i64 0, .int .i64 0, .int .u32 0, .int .i64 0, .int .i64 0, .slice none 0 0]) z_agg61 rfl w hw⟩, rfl, trivial⟩ (by simp) (hl11.trans hl17) ⟨_, rfl, rfl, Sl.nil⟩
    ·refine Z 4 rfl ?_
     obtain ⟨hf20, h⟩ := h
     refine o_slice (L := 0) (H := 8) rfl rfl rfl z_slT23 rfl rfl hs19 rfl ⟨_, rfl⟩ (by decide) (by decide) hf20 trivial (by simp) (fun v21 hs22 => ?_)
     obtain ⟨r23, hr24, h⟩ := h
     refine st_call (foot := []) rfl rfl rfl rfl rfl rfl (callV_fn z_en63 (head_Parse_ok hr24 τ16 hs22)) ?_
     rintro vτ25 τ25 gsτ25 hl26 ⟨rfl, rfl⟩
     refine Z 3 rfl ?_
     refine o_alloc rfl rfl rfl z_zero59 (fun b27 => ?_)
     refine ZZ 9 [0] rfl rfl ?_
     refine st_if rfl h (fun h => ?_) (fun h => ?_)
     ·refine ZZ 7 [1] rfl rfl ?_
      obtain rfl := Eq.symm h
      exact st_retC (gs' := []) [.agg #[.int .i64 0, .int .i64 0, .int .u32 0, .int .i64 0, .int .i64 0, .slice none 0 0], .int .i64 r23.2] Tryz.func31 ⟨⟨_, _, _, _, rfl, mem_flat 1 rfl, fun w hw => cellOfN (vs := [.int .i64 0, .int .i64 0, .int .u32 0, .int .i64 0, .int .i64 0, .slice none 0 0]) z_agg61 rfl w hw⟩, rfl, trivial⟩ (by simp) ((hl11.trans hl17).trans hl26) ⟨_, rfl, rfl, Sl.nil⟩
     ·refine Z 2 rfl ?_
      obtain ⟨hf28, hf29, h⟩ := h
      refine st_draw 4 (dl [.v (.agg #[.int .i64 r23.1.1, .int .i64 r23.1.2.1, .int .u32 r23.1.2.2.1, .int .i64 r23.1.2.2.2.1, .int .i64 r23.1.2.2.2.2]), .v (v18), .t fun τ v => ∃ (v30 : Value), (v30 : Value) = v ∧ Sl (kI .u8) τ v30 ((r14.1.drop (8 : Int).toNat).take (((r14.1.length : Int) : Int) - 8).toNat), .t fun τ v => ∃ (v30 : Value), (.agg #[.int .i64 r23.1.1, .int .i64 r23.1.2.1, .int .u32 r23.1.2.2.1, .int .i64 r23.1.2.2.2.1, .int .i64 r23.1.2.2.2.2, v30] : Value) = v ∧ Sl (kI .u8) τ v30 ((r14.1.drop (8 : Int).toNat).take (((r14.1.length : Int) : Int) - 8).toNat)]) (fun _ _ => []) z_mix rfl (dl_mono ⟨fun _ _ _ hl ⟨v30, hv, hs31⟩ => ⟨v30, hv, hs31.up hl⟩, ⟨fun _ _ _ hl ⟨v30, hv, hs31⟩ => ⟨v30, hv, hs31.up hl⟩, trivial⟩⟩) (allB_cons (allB_cons (allB_cons (allB_cons allB_nil ?_) (p1 dA)) ?_) ?_) ?_
      ·intro ρ' τ pool rs hl hd hout hk
       refine o_loadN (j := 0) (vs := [.int .i64 r23.1.1, .int .i64 r23.1.2.1, .int .u32 r23.1.2.2.1, .int .i64 r23.1.2.2.2.1, .int .i64 r23.1.2.2.2.2]) rfl rfl rfl z_agg59 ((hout 8 rfl).trans rfl) rfl rfl ?_
       exact st_addNil (hk _ _ (Sto.Le.refl _) rfl)
      ·intro ρ' τ pool rs hl hd hout hk
       obtain ⟨_, e1, rfl⟩ := hd 1 rfl
       refine o_slice (L := 8) (H := (r14.1.length : Int)) rfl rfl rfl z_slT23 rfl e1 (hs19.up (hl26.trans hl)) ⟨_, rfl⟩ rfl (by decide) hf28 hf29 trivial (by simp) (fun v30 hs31 => ?_)
       exact st_addNil (hk _ _ (Sto.Le.refl _) ⟨v30, rfl, hs31⟩)
      ·intro ρ' τ pool rs hl hd hout hk
       obtain ⟨_, e0, rfl⟩ := hd 0 rfl
       obtain ⟨_, e2, v30, rfl, hs31⟩ := hd 2 rfl
       refine o_build (ps := [(0, [.int .i64 r23.1.1, .int .i64 r23.1.2.1, .int .u32 r23.1.2.2.1, .int .i64 r23.1.2.2.2.1, .int .i64 r23.1.2.2.2.2]), (1, [v30])]) (cs := [.int .i64 r23.1.1, .int .i64 r23.1.2.1, .int .u32 r23.1.2.2.1, .int .i64 r23.1.2.2.2.1, .int .i64 r23.1.2.2.2.2, v30]) rfl rfl rfl z_struct61 ⟨rfl, ⟨_, e0, rfl⟩, ⟨rfl, ⟨_, e2, (oneL_sl hs31)⟩, trivial⟩⟩ rfl ?_
       exact st_addNil (hk _ _ (Sto.Le.refl _) ⟨v30, rfl, hs31⟩)
      intro ρ' τ32 vals hl32 hv hout
      obtain ⟨l3, v30, t3, hs31⟩ := hv 3 (by decide)
      replace l3 : Eng.look ρ' 59 = some (.agg #[.int .i64 r23.1.1, .int .i64 r23.1.2.1, .int .u32 r23.1.2.2.1, .int .i64 r23.1.2.2.2.1, .int .i64 r23.1.2.2.2.2, v30]) := l3.trans (congrArg some (Eq.symm t3))
      refine st_ord [0, 0] _ rfl ?_
      refine st_env (ρ' := [(59, .agg #[.int .i64 r23.1.1, .int .i64 r23.1.2.1, .int .u32 r23.1.2.2.1, .int .i64 r23.1.2.2.2.1, .int .i64 r23.1.2.2.2.2, v30]), (4, .pointer (some ⟨b7, 0, none⟩)), (5, .int .i64 0)]) ⟨l3, (hout 4 rfl).trans rfl, (hout 5 rfl).trans rfl, trivial⟩ ?_
      refine o_store (j := 1) (vs := [.int .i64 r23.1.1, .int .i64 r23.1.2.1, .int .u32 r23.1.2.2.1, .int .i64 r23.1.2.2.2.1, .int .i64 r23.1.2.2.2.2, v30]) (cs' := [.int .i64 r23.1.1, .int .i64 r23.1.2.1, .int .u32 r23.1.2.2.1, .int .i64 r23.1.2.2.2.1, .int .i64 r23.1.2.2.2.2, v30]) rfl rfl rfl z_size61 rfl rfl rfl (ones_cons rfl (ones_cons rfl (ones_cons rfl (ones_cons rfl (ones_cons rfl (ones_cons hs31.one' ones_nil)))))) rfl rfl rfl ?_
      refine st_gs [[(b27, .cells #[.int .i64 r23.1.1, .int .i64 r23.1.2.1, .int .u32 r23.1.2.2.1, .int .i64 r23.1.2.2.2.1, .int .i64 r23.1.2.2.2.2] 59 (0, 0))], [(b7, .cells #[.int .i64 r23.1.1, .int .i64 r23.1.2.1, .int .u32 r23.1.2.2.1, .int .i64 r23.1.2.2.2.1, .int .i64 r23.1.2.2.2.2, v30] 61 (0, 0))]] rfl ?_
      refine Z 2 rfl ?_
      obtain rfl := Eq.symm h
      exact st_retC (gs' := []) [.agg #[.int .i64 r23.1.1, .int .i64 r23.1.2.1, .int .u32 r23.1.2.2.1, .int .i64 r23.1.2.2.2.1, .int .i64 r23.1.2.2.2.2, v30], .int .i64 0] Tryz.func31 ⟨⟨_, _, _, _, rfl, mem_flat 1 rfl, fun w hw => cellOfN (vs := [.int .i64 r23.1.1, .int .i64 r23.1.2.1, .int .u32 r23.1.2.2.1, .int .i64 r23.1.2.2.2.1, .int .i64 r23.1.2.2.2.2, v30]) z_agg61 rfl w hw⟩, rfl, trivial⟩ (by simp) (((hl11.trans hl17).trans hl26).trans hl32) ⟨_, rfl, rfl, hs31⟩
theorem noise_Forged_1_ok {c0 : List Int} {c1 : List (List Int)} {c2 : List Int} {bc0 : Nat} {bi3 : Nat} {bi1 : Nat} {bc1 : Nat} {v5 : Value} {bc2 : Nat} {v7 : Value} {σ0 : Sto} (hc0_0 : Cel σ0 ⟨bc0, 0, none⟩ (.pointer (some ⟨bi1, 0, none⟩))) (hc4 : CelN σ0 ⟨bi3, 0, none⟩ (cellsN (Value.int .u32) 0 1024 c0)) (hc2 : CelN σ0 ⟨bi1, 0, none⟩ [.pointer (some ⟨bi3, 0, none⟩)]) (hc1_0 : Cel σ0 ⟨bc1, 0, none⟩ (v5)) (hs6 : Sl (kSl (kI .u8)) σ0 v5 c1) (hc2_0 : Cel σ0 ⟨bc2, 0, none⟩ (v7)) (hs8 : Sl (kI .u8) σ0 v7 c2) :
    IterV Tryz.prog (fun _ x vx => vx = [.int .i64 x]) (.func (.func 29) #[] [.pointer (some ⟨bc0, 0, none⟩), .pointer (some ⟨bc1, 0, none⟩), .pointer (some ⟨bc2, 0, none⟩)].toArray) σ0 [] (fun (_ : Unit) _ f => f = []) (noise_Forged_1 c0 c1 c2) := by
 intro S Y I y hyc hyo hIm hY s s' o hR σ g hle hIg
 obtain ⟨r, hr0⟩ : ∃ r, r = (s', o) := ⟨_, rfl⟩
 rw [← hr0] at hR
 have h := hR
 refine callV_of (caps := [.pointer (some ⟨bc0, 0, none⟩), .pointer (some ⟨bc1, 0, none⟩), .pointer (some ⟨bc2, 0, none⟩)]) z_en29 ?_
 refine call_of Tryz.func29 Tryz.ntmps29 rfl rfl (fun cs fs => ?_)
 refine st_ord [0] _ rfl ?_
 refine Z 2 rfl ?_
 refine o_box (cs := [y]) rfl rfl rfl rfl hyc (fun b9 => ?_)
 refine Z 5 rfl ?_
 refine o_loadI (v := .pointer (some ⟨bi1, 0, none⟩)) rfl rfl rfl z_sc25 rfl (Cel.up hc0_0 hle) ?_
 refine Z 6 rfl ?_
 refine o_makeMap (fk := Value.string) (fv := Value.bool) rfl rfl rfl (fun v10 g11 ho12 => ?_)
 refine o_alloc rfl rfl rfl z_zero83 (fun b13 => ?_)
 refine o_store (j := 0) (vs := [v10]) (cs' := [v10]) rfl rfl rfl z_size83 rfl rfl (oneL_mp ho12) (ones_cons ho12.one' ones_nil) rfl rfl rfl ?_
 refine st_gs [[(b13, .cells #[v10] 83 (0, 0))], g11, [(b9, .cells #[y] 82 (0, 0))], g] rfl ?_
 refine Z 2 rfl ?_
 refine st_cut (fun ρ τ14 gs => ∃ (s14 : S × (List (ByteArray × Bool))) (g15 : Grp) (v17 : Value) (g18 : Grp), noise_Forged_1_j1 S Y c0 c2 s14 r ∧ σ.Le τ14 ∧ ESub ρ [(1, .pointer (some ⟨bc0, 0, none⟩)), (3, .pointer (some ⟨bc2, 0, none⟩)), (4, .pointer (some ⟨b9, 0, none⟩)), (5, .pointer (some ⟨b13, 0, none⟩))] ∧ gs = [[(b9, .cells #[y] 82 (0, 0))], [(b13, .cells #[v17] 83 (0, 0))], g15, g18] ∧ I s14.1 τ14 g15 ∧ Mp Value.string Value.bool τ14 v17 s14.2 g18) ?_ (fun hk14 => ?_)
 ·rintro ρ14 τ14 gs14 ⟨s14, g15, v17, g18, h, hl14, hρ, rfl, hI16, ho19⟩
  refine st_es hρ ?_
  refine Z 4 rfl ?_
  refine o_loadI (v := v7) rfl rfl rfl z_sc23 rfl (Cel.up hc2_0 (hle.trans hl14)) ?_
  obtain ⟨r20, hr21, h⟩ := h
  refine st_call (foot := []) rfl rfl rfl rfl rfl rfl (callV_fn z_en30 (fence_Segments_ok hr21 τ14 (hs8.up (hle.trans hl14)))) ?_
  rintro vτ22 τ22 gsτ22 hl23 ⟨f24, q25, rfl, rfl, hit26⟩
  refine Z 2 rfl ?_
  obtain ⟨t27, w27, hR27, hA27⟩ := h
  refine st_env (ρ' := [(1, .pointer (some ⟨bc0, 0, none⟩)), (4, .pointer (some ⟨b9, 0, none⟩)), (5, .pointer (some ⟨b13, 0, none⟩)), (32, .func (.func f24) #[] q25)]) ⟨rfl, rfl, rfl, rfl, trivial⟩ ?_
  refine st_ord [0, 0, 1, 0] _ rfl ?_
  refine st_addNil ?_
  refine st_range (B := noise_Forged_1_l2 S Y c0 s14) (s0 := s14.1) ranges_fctx rfl hit26 (Sto.Le.refl _) hR27 rfl (fun _ _ _ h => by obtain ⟨_, rfl, _⟩ := h; rfl) (fun (s27 : S) τ27 gs => τ22.Le τ27 ∧ ∃ (g28 : Grp), gs = [[(b9, .cells #[y] 82 (0, 0))], [(b13, .cells #[v17] 83 (0, 0))], g18, g28] ∧ I s27 τ27 g28) (fun (p49 : S) cd τ50 gs => cd = .exit 4 ∧ τ22.Le τ50 ∧ ∃ (g52 : Grp), gs = [[(b9, .cells #[y] 82 (0, 0))], [(b13, .cells #[v17] 83 (0, 0))], g18, g52] ∧ I p49 τ50 g52) (fun _ _ _ _ hl ⟨hb, g28, hg, hI29⟩ => ⟨hb.trans hl, g28, hg, hIm _ _ _ _ hl hI29⟩) (fun _ _ _ _ _ hl ⟨hc, hb, g52, hg, hI53⟩ => ⟨hc, hb.trans hl, g52, hg, hIm _ _ _ _ hl hI53⟩) ⟨Sto.Le.refl _, g15, rfl, (hIm _ _ _ _ hl23 hI16)⟩ ?_ ?_ ?_
  ·rintro x27 s27 o27 τ27 gs27 vx27 hl27 h ⟨v30, rfl, hs31⟩ ⟨hb27, g28, rfl, hI29⟩ l27 rc27 caller27 cs27 fs27
   refine Z 7 rfl ?_
   refine st_begin ?_
   refine Z 3 rfl ?_
   refine o_loadI (v := .pointer (some ⟨bi1, 0, none⟩)) rfl rfl rfl z_sc25 rfl (Cel.up hc0_0 (((hle.trans hl14).trans hl23).trans hl27)) ?_
   refine o_move rfl rfl rfl rfl ?_
   obtain ⟨r32, hr33, h⟩ := h
   refine st_call (foot := []) rfl rfl rfl rfl rfl rfl (callV_fn z_en31 (frame_Codec_Unpack_ok hr33 τ27 (hc4.up (((hle.trans hl14).trans hl23).trans hl27)) (hc2.up (((hle.trans hl14).trans hl23).trans hl27)) hs31)) ?_
   rintro vτ34 τ34 gsτ34 hl35 ⟨v36, rfl, rfl, hs37⟩
   refine Z 3 rfl ?_
   refine o_alloc rfl rfl rfl z_zero61 (fun b38 => ?_)
   refine o_store (j := 0) (vs := [.int .i64 r32.1.1.1, .int .i64 r32.1.1.2.1, .int .u32 r32.1.1.2.2.1, .int .i64 r32.1.1.2.2.2.1, .int .i64 r32.1.1.2.2.2.2, v36]) (cs' := [.int .i64 r32.1.1.1, .int .i64 r32.1.1.2.1, .int .u32 r32.1.1.2.2.1, .int .i64 r32.1.1.2.2.2.1, .int .i64 r32.1.1.2.2.2.2, v36]) rfl rfl rfl z_size61 rfl rfl rfl (ones_cons rfl (ones_cons rfl (ones_cons rfl (ones_cons rfl (ones_cons rfl (ones_cons hs37.one' ones_nil)))))) rfl rfl rfl ?_
   refine st_gs [[(b38, .cells #[.int .i64 r32.1.1.1, .int .i64 r32.1.1.2.1, .int .u32 r32.1.1.2.2.1, .int .i64 r32.1.1.2.2.2.1, .int .i64 r32.1.1.2.2.2.2, v36] 61 (0, 0))], [(b9, .cells #[y] 82 (0, 0))], [(b13, .cells #[v17] 83 (0, 0))], g18, g28] rfl ?_
   refine Z 4 rfl ?_
   refine st_cut (fun ρ τ39 gs => ∃ (s39 : S × Bool) (g40 : Grp), noise_Forged_1_j3 S Y x27 s39 o27 ∧ τ34.Le τ39 ∧ ESub ρ [(1, .pointer (some ⟨bc0, 0, none⟩)), (4, .pointer (some ⟨b9, 0, none⟩)), (5, .pointer (some ⟨b13, 0, none⟩)), (33, .int .i64 x27.1), (34, v30), (10, .int .i64 x27.1), (11, v30), (48, .bool s39.2)] ∧ gs = [[(b9, .cells #[y] 82 (0, 0))], [(b13, .cells #[v17] 83 (0, 0))], g18, g40] ∧ I s39.1 τ39 g40) ?_ (fun hk39 => ?_)
   ·rintro ρ39 τ39 gs39 ⟨s39, g40, h, hl39, hρ, rfl, hI41⟩
    refine st_es hρ ?_
    refine st_if rfl h (fun h => ?_) (fun h => ?_)
    ·refine st_exit rfl ?_
     exact st_rend (List.Sublist.refl _) (hl35.trans hl39) ⟨_, h, ((hl27.trans hl35).trans hl39), g40, rfl, hI41⟩
    ·refine ZZ 5 [0] rfl rfl ?_
     obtain ⟨y42, u43, hy44, h⟩ := h
     refine st_ord [3, 0, 0, 0] _ rfl ?_
     refine st_call (foot := [g40]) rfl rfl rfl rfl rfl rfl (hY x27.1 s39.1 _ _ _ _ _ (hle.trans ((((hl14.trans hl23).trans hl27).trans hl35).trans hl39)) hy44 rfl hI41) ?_
     rintro vτ45 τ45 gsτ45 hl46 ⟨rfl, g47, rfl, hI48⟩
     refine Z 2 rfl ?_
     refine st_if rfl h (fun h => ?_) (fun h => ?_)
     ·refine st_ord [1, 1, 1, 0] _ rfl ?_
      exact st_rexit rfl (List.Sublist.refl _) ((hl35.trans hl39).trans hl46) ⟨_, h, rfl, (((hl27.trans hl35).trans hl39).trans hl46), g47, rfl, hI48⟩
     ·refine Z 2 rfl ?_
      refine st_ord [1, 1, 1, 0] _ rfl ?_
      exact st_rend (List.Sublist.refl _) ((hl35.trans hl39).trans hl46) ⟨_, h, (((hl27.trans hl35).trans hl39).trans hl46), g47, rfl, hI48⟩
   refine Z 3 rfl ?_
   refine o_mif rfl rfl rfl rfl h (fun h => ?_) (fun h => ?_)
   ·refine Z 6 rfl ?_
    refine st_ord [1, 1, 1, 1] _ rfl ?_
    exact hk39 _ _ _ ⟨(s27, true), g28, h, (Sto.Le.refl _), rfl, rfl, (hIm _ _ _ _ hl35 hI29)⟩
   ·refine ZZ 2 [2] rfl rfl ?_
    refine o_bstr (xs := x27.2) rfl rfl rfl Tryz.underlying23 Tryz.underlying5 Tryz.underlying9 rfl (hs31.up hl35) ?_
    refine o_lookup (fv := Value.bool) (q0 := false) (j := 3) (a := (bstr x27.2)) rfl rfl rfl z_map83 (keyS Tryz.underlying9) z_zeroV4 rfl (ho19.up ((hl23.trans hl27).trans hl35)) rfl rfl ?_
    refine Z 2 rfl ?_
    refine st_ord [1, 1, 1, 1] _ rfl ?_
    exact hk39 _ _ _ ⟨(s27, ((mget s14.2 (bstr x27.2)).getD false)), g28, h, (Sto.Le.refl _), rfl, rfl, (hIm _ _ _ _ hl35 hI29)⟩
  ·rintro p54 τ55 gs27 f27 ht hl56 ⟨hb, g57, rfl, hI58⟩ rfl
   subst ht
   replace h := hA27
   refine st_ord [1, 1, 1, 1] _ rfl ?_
   refine Z 2 rfl ?_
   refine st_ord [3] _ rfl ?_
   obtain rfl := Eq.symm h
   cases hr0
   exact st_fin (gs' := [g57, []]) Tryz.func29 rfl (by simp) ((hl14.trans hl23).trans hl56) ⟨g57, _, rfl, hI58, rfl⟩
  ·rintro p49 cd27 τ50 gs27 f27 ht hl51 ⟨rfl, hb, g52, rfl, hI53⟩ rfl
   subst ht
   replace h := hA27
   refine st_ord [1, 1, 1, 1] _ rfl ?_
   refine Z 2 rfl ?_
   refine st_ord [3] _ rfl ?_
   obtain rfl := Eq.symm h
   cases hr0
   exact st_fin (gs' := [g52, []]) Tryz.func29 rfl (by simp) ((hl14.trans hl23).trans hl51) ⟨g52, _, rfl, hI53, rfl⟩
 refine Z 2 rfl ?_
 refine o_loadI (v := v5) rfl rfl rfl z_sc22 rfl (Cel.up hc1_0 hle) ?_
 refine o_lenI rfl rfl rfl z_slT22 rfl (hs6.up hle) ?_
 refine Z 2 rfl ?_
 obtain ⟨e59, hL59, hA59⟩ := h
 refine st_ord [2, 0, 1, 0] _ rfl ?_
 refine st_loop hL59 (fun (s59 : S × Int × (List (ByteArray × Bool))) ρ τ59 gs => σ.Le τ59 ∧ ∃ (g60 : Grp) (v62 : Value) (g63 : Grp), ESub ρ [(1, .pointer (some ⟨bc0, 0, none⟩)), (3, .pointer (some ⟨bc2, 0, none⟩)), (4, .pointer (some ⟨b9, 0, none⟩)), (5, .pointer (some ⟨b13, 0, none⟩)), (17, v5), (18, .int .i64 (c1.length : Int)), (19, .int .i64 s59.2.1)] ∧ gs = [[(b9, .cells #[y] 82 (0, 0))], [(b13, .cells #[v62] 83 (0, 0))], g60, g63] ∧ I s59.1 τ59 g60 ∧ Mp Value.string Value.bool τ59 v62 s59.2.2 g63) ⟨Sto.Le.refl _, g, _, _, rfl, rfl, hIg, ho12⟩ ?_
 rintro s59 o59 h he59 ρ59 τ59 gs59 ⟨hl59, g60, v62, g63, hρ, rfl, hI61, ho64⟩ hn59
 refine st_es hρ ?_
 refine Z 5 rfl ?_
 refine st_if rfl h (fun h => ?_) (fun h => ?_)
 ·refine Z 5 rfl ?_
  obtain ⟨q65, hf66, h⟩ := h
  refine o_index rfl rfl rfl z_slT22 rfl rfl (hs6.up (hle.trans hl59)) rfl hf66 (fun b67 of68 vs hc70 hrep => ?_)
  obtain ⟨v69, rfl, hs71⟩ := hrep
  refine o_loadI (v := v69) rfl rfl rfl z_sc23 rfl (hc70 0 _ rfl) ?_
  refine Z 5 rfl ?_
  obtain ⟨r72, hr73, h⟩ := h
  refine st_call (foot := []) rfl rfl rfl rfl rfl rfl (callV_fn z_en30 (fence_Segments_ok hr73 τ59 hs71)) ?_
  rintro vτ74 τ74 gsτ74 hl75 ⟨f76, q77, rfl, rfl, hit78⟩
  refine Z 2 rfl ?_
  obtain ⟨t79, w79, hR79, hA79⟩ := h
  refine st_env (ρ' := [(1, .pointer (some ⟨bc0, 0, none⟩)), (3, .pointer (some ⟨bc2, 0, none⟩)), (4, .pointer (some ⟨b9, 0, none⟩)), (5, .pointer (some ⟨b13, 0, none⟩)), (17, v5), (18, .int .i64 (c1.length : Int)), (19, .int .i64 s59.2.1), (24, .func (.func f76) #[] q77)]) ⟨rfl, rfl, rfl, rfl, rfl, rfl, rfl, rfl, trivial⟩ ?_
  refine st_addNil ?_
  refine st_range (B := noise_Forged_1_l5 S Y) (s0 := (s59.1, s59.2.2)) ranges_fctx rfl hit78 (Sto.Le.refl _) hR79 rfl (fun _ _ _ h => by obtain ⟨_, rfl, _⟩ := h; rfl) (fun (s79 : S × (List (ByteArray × Bool))) τ79 gs => τ74.Le τ79 ∧ ∃ (g80 : Grp) (v82 : Value) (g83 : Grp), gs = [[(b9, .cells #[y] 82 (0, 0))], [(b13, .cells #[v82] 83 (0, 0))], g80, g83] ∧ I s79.1 τ79 g80 ∧ Mp Value.string Value.bool τ79 v82 s79.2 g83) (fun _ _ _ _ => False) (fun _ _ _ _ hl ⟨hb, g80, v82, g83, hg, hI81, ho84⟩ => ⟨hb.trans hl, g80, v82, g83, hg, hIm _ _ _ _ hl hI81, ho84.up hl⟩) (fun _ _ _ _ _ _ h => h.elim) ⟨Sto.Le.refl _, g60, _, _, rfl, (hIm _ _ _ _ hl75 hI61), (ho64.up hl75)⟩ ?_ ?_ ?_
  ·rintro x79 s79 o79 τ79 gs79 vx79 hl79 h ⟨v85, rfl, hs86⟩ ⟨hb79, g80, v82, g83, rfl, hI81, ho84⟩ l79 rc79 caller79 cs79 fs79
   refine Z 3 rfl ?_
   refine st_begin ?_
   refine ZZ 4 [1] rfl rfl ?_
   refine o_bstr (xs := x79.2) rfl rfl rfl Tryz.underlying23 Tryz.underlying5 Tryz.underlying9 rfl hs86 ?_
   refine o_mapUpdate (j := 3) (a := (bstr x79.2)) (q := true) rfl rfl rfl z_map83 (keyS Tryz.underlying9) rfl ho84 rfl rfl rfl (fun g87 ho88 => ?_)
   refine st_gs [[(b9, .cells #[y] 82 (0, 0))], [(b13, .cells #[v82] 83 (0, 0))], g80, g87] rfl ?_
   refine Z 2 rfl ?_
   exact st_rend (List.Sublist.refl _) (Sto.Le.refl _) ⟨_, h, hl79, g80, _, _, rfl, hI81, ho88⟩
  ·rintro p89 τ90 gs79 f79 ht hl91 ⟨hb, g92, v94, g95, rfl, hI93, ho96⟩ rfl
   subst ht
   replace h := hA79
   refine st_ord [1, 1, 1, 1] _ rfl ?_
   refine Z 6 rfl ?_
   exact hn59 _ _ _ _ h ⟨((hl59.trans hl75).trans hl91), g92, _, _, rfl, rfl, hI93, ho96⟩
  ·exact fun _ _ _ _ _ _ _ h => h.elim
 ·refine st_exit rfl ?_
  obtain rfl := he59 _ h
  replace h := hA59
  exact hk14 _ _ _ ⟨(s59.1, s59.2.2), g60, _, _, h, hl59, rfl, rfl, hI61, ho64⟩
theorem noise_Forged_ok {a0 : List Int} {a1 : List (List Int)} {a2 : List Int} {bi3 : Nat} {bi1 : Nat} {v5 : Value} {v7 : Value} {r : (((S : Type) → (Int → S → Bool × S → Prop) → S → S × Unit → Prop))} (h : noise_Forged a0 a1 a2 r) (σ : Sto) (hc4 : CelN σ ⟨bi3, 0, none⟩ (cellsN (Value.int .u32) 0 1024 a0)) (hc2 : CelN σ ⟨bi1, 0, none⟩ [.pointer (some ⟨bi3, 0, none⟩)]) (hs6 : Sl (kSl (kI .u8)) σ v5 a1) (hs8 : Sl (kI .u8) σ v7 a2) :
    Does Tryz.prog 10 [.pointer (some ⟨bi1, 0, none⟩), v5, v7] σ [] (fun v τ gs => ∃ (f21 : Nat) (q22 : Array Value), gs = [] ∧ .func (.func f21) #[] q22 = v ∧ IterV Tryz.prog (fun _ x vx => vx = [.int .i64 x]) (.func (.func f21) #[] q22) τ [] (fun (_ : Unit) _ f => f = []) r) := by
 refine call_of Tryz.func10 Tryz.ntmps10 rfl rfl (fun cs fs => ?_)
 refine Z 2 rfl ?_
 refine o_box (cs := [.pointer (some ⟨bi1, 0, none⟩)]) rfl rfl rfl rfl rfl (fun b9 => ?_)
 refine o_box (cs := [v5]) rfl rfl rfl rfl (oneL_sl hs6) (fun b10 => ?_)
 refine o_box (cs := [v7]) rfl rfl rfl rfl (oneL_sl hs8) (fun b11 => ?_)
 refine Z 4 rfl ?_
 refine st_ord [2, 0, 0] _ rfl ?_
 refine st_freeze (fun τ12 hl13 hg14 => ?_)
 refine st_ord [1, 0] _ rfl ?_
 refine st_freeze (fun τ15 hl16 hg17 => ?_)
 refine st_freeze (fun τ18 hl19 hg20 => ?_)
 refine Z 3 rfl ?_
 obtain rfl := Eq.symm h
 exact st_ret (gs' := []) Tryz.func10 rfl (List.Sublist.refl _) ((hl13.trans hl16).trans hl19) ⟨_, _, rfl, rfl, (noise_Forged_1_ok (Cel.up (cel_of hg14 rfl) (hl16.trans hl19)) (hc4.up ((hl13.trans hl16).trans hl19)) (hc2.up ((hl13.trans hl16).trans hl19)) (Cel.up (cel_of hg17 rfl) hl19) (hs6.up ((hl13.trans hl16).trans hl19)) (cel_of hg20 rfl) (hs8.up ((hl13.trans hl16).trans hl19)))⟩
theorem noise_word_ok {a0 : Int} {r : ByteArray × Int} (h : noise_word a0 r) (σ : Sto)  :
    Does Tryz.prog 64 [.int .i64 a0] σ [] (fun v τ gs => gs = [] ∧ .tuple [.string r.1, .int .i64 r.2].toArray = v) := by
 refine call_of Tryz.func64 Tryz.ntmps64 rfl rfl (fun cs fs => ?_)
 refine Z 2 rfl ?_
 refine o_assign rfl rfl rfl (ev_str z_str0) ?_
 refine Z 13 rfl ?_
 refine st_if rfl h (fun h => ?_) (fun h => ?_)
 ·refine Z 2 rfl ?_
  refine o_assign rfl rfl rfl (ev_str z_str1) ?_
  refine Z 2 rfl ?_
  obtain rfl := Eq.symm h
  exact st_ret (gs' := []) Tryz.func64 rfl (List.Sublist.refl _) (Sto.Le.refl _) ⟨rfl, rfl⟩
 ·refine Z 5 rfl ?_
  refine st_if rfl h (fun h => ?_) (fun h => ?_)
  ·refine Z 2 rfl ?_
   refine o_assign rfl rfl rfl (ev_str z_str2) ?_
   refine Z 2 rfl ?_
   obtain rfl := Eq.symm h
   exact st_ret (gs' := []) Tryz.func64 rfl (List.Sublist.refl _) (Sto.Le.refl _) ⟨rfl, rfl⟩
  ·refine Z 5 rfl ?_
   refine st_if rfl h (fun h => ?_) (fun h => ?_)
   ·refine Z 2 rfl ?_
    refine o_assign rfl rfl rfl (ev_str z_str3) ?_
    refine Z 2 rfl ?_
    obtain rfl := Eq.symm h
    exact st_ret (gs' := []) Tryz.func64 rfl (List.Sublist.refl _) (Sto.Le.refl _) ⟨rfl, rfl⟩
   ·refine Z 5 rfl ?_
    refine st_if rfl h (fun h => ?_) (fun h => ?_)
    ·refine Z 2 rfl ?_
     refine o_assign rfl rfl rfl (ev_str z_str4) ?_
     refine Z 2 rfl ?_
     obtain rfl := Eq.symm h
     exact st_ret (gs' := []) Tryz.func64 rfl (List.Sublist.refl _) (Sto.Le.refl _) ⟨rfl, rfl⟩
    ·refine Z 4 rfl ?_
     refine o_assign rfl rfl rfl (ev_str z_str0) ?_
     refine Z 2 rfl ?_
     obtain rfl := Eq.symm h
     exact st_ret (gs' := []) Tryz.func64 rfl (List.Sublist.refl _) (Sto.Le.refl _) ⟨rfl, rfl⟩
theorem noise_Check_ok {a0 : Int × Int × Int × Int × List Int} {a1 : Int} {v1 : Value} {r : Int} (h : noise_Check a0 a1 r) (σ : Sto) (hs2 : Sl (kI .u8) σ v1 a0.2.2.2.2) :
    Does Tryz.prog 119 [.agg [.int .i64 a0.1, .int .i64 a0.2.1, .int .i64 a0.2.2.1, .int .i64 a0.2.2.2.1, v1].toArray, .int .i64 a1] σ [] (fun v τ gs => gs = [] ∧ .int .i64 r = v) := by
 refine call_of Tryz.func119 Tryz.ntmps119 rfl rfl (fun cs fs => ?_)
 refine Z 2 rfl ?_
 refine o_box (cs := [.int .i64 a0.1, .int .i64 a0.2.1, .int .i64 a0.2.2.1, .int .i64 a0.2.2.2.1, v1]) rfl rfl rfl rfl rfl (fun b3 => ?_)
 refine ZZ 6 [0] rfl rfl ?_
 obtain ⟨r4, hr5, h⟩ := h
 refine st_call (foot := []) rfl rfl rfl rfl rfl rfl (callV_fn z_en64 (noise_word_ok hr5 σ)) ?_
 rintro vτ6 τ6 gsτ6 hl7 ⟨rfl, rfl⟩
 refine Z 11 rfl ?_
 refine o_sbin (v := .bool (decide (r4.1 = (bstr [])))) rfl rfl rfl rfl (ev_str z_str0) rfl ?_
 refine Z 2 rfl ?_
 refine st_if rfl h (fun h => ?_) (fun h => ?_)
 ·refine Z 4 rfl ?_
  refine st_ord [] _ rfl ?_
  obtain rfl := Eq.symm h
  exact st_ret (gs' := []) Tryz.func119 rfl (List.Sublist.refl _) hl7 ⟨rfl, rfl⟩
 ·refine st_seq ?_
  refine st_cut (fun ρ τ8 gs => ∃ (s8 : Bool), noise_Check_j1 a0 s8 r ∧ τ6.Le τ8 ∧ ESub ρ [(2, .pointer (some ⟨b3, 0, none⟩)), (4, .int .i64 0), (16, .bool s8)] ∧ gs = [[(b3, .cells #[.int .i64 a0.1, .int .i64 a0.2.1, .int .i64 a0.2.2.1, .int .i64 a0.2.2.2.1, v1] 67 (0, 0))]]) ?_ (fun hk8 => ?_)
  ·rintro ρ8 τ8 gs8 ⟨s8, h, hl8, hρ, rfl⟩
   refine st_es hρ ?_
   refine st_if rfl h (fun h => ?_) (fun h => ?_)
   ·refine Z 4 rfl ?_
    refine st_ord [] _ rfl ?_
    obtain rfl := Eq.symm h
    exact st_ret (gs' := []) Tryz.func119 rfl (List.Sublist.refl _) (hl7.trans hl8) ⟨rfl, rfl⟩
   ·refine st_seq ?_
    refine st_cut (fun ρ τ9 gs => ∃ (s9 : Bool), noise_Check_j2 s9 r ∧ τ8.Le τ9 ∧ ESub ρ [(4, .int .i64 0), (31, .bool s9)] ∧ gs = []) ?_ (fun hk9 => ?_)
    ·rintro ρ9 τ9 gs9 ⟨s9, h, hl9, hρ, rfl⟩
     refine st_es hρ ?_
     refine st_if rfl h (fun h => ?_) (fun h => ?_)
     ·refine Z 4 rfl ?_
      obtain rfl := Eq.symm h
      exact st_ret (gs' := []) Tryz.func119 rfl (List.Sublist.refl _) ((hl7.trans hl8).trans hl9) ⟨rfl, rfl⟩
     ·refine Z 6 rfl ?_
      obtain rfl := Eq.symm h
      exact st_ret (gs' := []) Tryz.func119 rfl (List.Sublist.refl _) ((hl7.trans hl8).trans hl9) ⟨rfl, rfl⟩
    refine ZZ 4 [0] rfl rfl ?_
    refine o_mif rfl rfl rfl rfl h (fun h => ?_) (fun h => ?_)
    ·refine ZZ 8 [0] rfl rfl ?_
     refine o_mif rfl rfl rfl rfl h (fun h => ?_) (fun h => ?_)
     ·refine Z 17 rfl ?_
      refine st_ord [] _ rfl ?_
      exact hk9 _ _ _ ⟨true, h, (Sto.Le.refl _), rfl, rfl⟩
     ·refine ZZ 5 [0] rfl rfl ?_
      refine o_mif rfl rfl rfl rfl h (fun h => ?_) (fun h => ?_)
      ·refine Z 11 rfl ?_
       refine st_ord [] _ rfl ?_
       exact hk9 _ _ _ ⟨true, h, (Sto.Le.refl _), rfl, rfl⟩
      ·refine ZZ 3 [0] rfl rfl ?_
       refine o_mif rfl rfl rfl rfl h (fun h => ?_) (fun h => ?_)
       ·refine ZZ 7 [0] rfl rfl ?_
        refine st_ord [] _ rfl ?_
        exact hk9 _ _ _ ⟨(decide (255 < a0.2.2.2.1)), h, (Sto.Le.refl _), rfl, rfl⟩
       ·refine Z 7 rfl ?_
        refine st_ord [] _ rfl ?_
        exact hk9 _ _ _ ⟨false, h, (Sto.Le.refl _), rfl, rfl⟩
    ·refine ZZ 4 [0] rfl rfl ?_
     refine o_mif rfl rfl rfl rfl h (fun h => ?_) (fun h => ?_)
     ·refine ZZ 3 [0] rfl rfl ?_
      refine o_mif rfl rfl rfl rfl h (fun h => ?_) (fun h => ?_)
      ·refine Z 17 rfl ?_
       refine st_ord [] _ rfl ?_
       exact hk9 _ _ _ ⟨true, h, (Sto.Le.refl _), rfl, rfl⟩
      ·refine ZZ 5 [0] rfl rfl ?_
       refine o_mif rfl rfl rfl rfl h (fun h => ?_) (fun h => ?_)
       ·refine Z 11 rfl ?_
        refine st_ord [] _ rfl ?_
        exact hk9 _ _ _ ⟨true, h, (Sto.Le.refl _), rfl, rfl⟩
       ·refine ZZ 3 [0] rfl rfl ?_
        refine o_mif rfl rfl rfl rfl h (fun h => ?_) (fun h => ?_)
        ·refine ZZ 7 [0] rfl rfl ?_
         refine st_ord [] _ rfl ?_
         exact hk9 _ _ _ ⟨(decide (255 < a0.2.2.2.1)), h, (Sto.Le.refl _), rfl, rfl⟩
        ·refine Z 7 rfl ?_
         refine st_ord [] _ rfl ?_
         exact hk9 _ _ _ ⟨false, h, (Sto.Le.refl _), rfl, rfl⟩
     ·refine ZZ 13 [0] rfl rfl ?_
      refine o_mif rfl rfl rfl rfl h (fun h => ?_) (fun h => ?_)
      ·refine ZZ 7 [0] rfl rfl ?_
       refine st_ord [] _ rfl ?_
       exact hk9 _ _ _ ⟨(decide (255 < a0.2.2.2.1)), h, (Sto.Le.refl _), rfl, rfl⟩
      ·refine Z 7 rfl ?_
       refine st_ord [] _ rfl ?_
       exact hk9 _ _ _ ⟨false, h, (Sto.Le.refl _), rfl, rfl⟩
  refine ZZ 4 [0] rfl rfl ?_
  refine o_mif rfl rfl rfl rfl h (fun h => ?_) (fun h => ?_)
  ·refine ZZ 3 [0] rfl rfl ?_
   refine o_mif rfl rfl rfl rfl h (fun h => ?_) (fun h => ?_)
   ·refine Z 8 rfl ?_
    exact hk8 _ _ _ ⟨true, h, (Sto.Le.refl _), rfl, rfl⟩
   ·refine ZZ 8 [0] rfl rfl ?_
    exact hk8 _ _ _ ⟨(decide (a1 ≤ a0.2.1)), h, (Sto.Le.refl _), rfl, rfl⟩
  ·refine Z 12 rfl ?_
   exact hk8 _ _ _ ⟨false, h, (Sto.Le.refl _), rfl, rfl⟩
theorem noise_Bytes_ok {a0 : List (List Int)} {a1 : Int × Int × Int × Int × List Int} {v1 : Value} {v3 : Value} {r : List Int} (h : noise_Bytes a0 a1 r) (σ : Sto) (hs2 : Sl (kSl (kI .u8)) σ v1 a0) (hs4 : Sl (kI .u8) σ v3 a1.2.2.2.2) :
    Does Tryz.prog 93 [v1, .agg [.int .i64 a1.1, .int .i64 a1.2.1, .int .i64 a1.2.2.1, .int .i64 a1.2.2.2.1, v3].toArray] σ [] (fun v τ gs => ∃ (v87 : Value), gs = [] ∧ v87 = v ∧ Sl (kI .u8) τ v87 r) := by
 refine call_of Tryz.func93 Tryz.ntmps93 rfl rfl (fun cs fs => ?_)
 refine Z 2 rfl ?_
 refine o_box (cs := [.int .i64 a1.1, .int .i64 a1.2.1, .int .i64 a1.2.2.1, .int .i64 a1.2.2.2.1, v3]) rfl rfl rfl rfl rfl (fun b5 => ?_)
 refine ZZ 7 [0] rfl rfl ?_
 refine o_lenI rfl rfl rfl z_slT22 rfl hs2 ?_
 obtain ⟨r6, hr7, h⟩ := h
 refine st_call (foot := []) rfl rfl rfl rfl rfl rfl (callV_fn z_en119 (noise_Check_ok hr7 σ hs4)) ?_
 rintro vτ8 τ8 gsτ8 hl9 ⟨rfl, rfl⟩
 refine Z 2 rfl ?_
 refine st_if rfl h (fun h => ?_) (fun h => ?_)
 ·refine Z 4 rfl ?_
  refine st_ord [] _ rfl ?_
  obtain rfl := Eq.symm h
  exact st_ret (gs' := []) Tryz.func93 rfl (List.Sublist.refl _) hl9 ⟨_, rfl, rfl, Sl.nil⟩
 ·refine ZZ 8 [0] rfl rfl ?_
  refine st_if rfl h (fun h => ?_) (fun h => ?_)
  ·refine Z 2 rfl ?_
   refine o_lit (dk := (kI .u8)) (xs := ([] : List Int)) (ps := []) (cs := []) rfl rfl rfl z_slT23 z_zero5 trivial rfl rfl rfl rfl Kd.Many.nil (fun v10 g11 ho12 => ?_)
   refine ZZ 2 [1] rfl rfl ?_
   obtain ⟨hf16, hf17, h⟩ := h
   refine o_append (dk := (kI .u8)) (xs := ([] : List Int)) (ys := a1.2.2.2.2) rfl rfl rfl rfl z_slT23 rfl ho12 rfl (Sl.src (hs4.up hl9)) hf16 hf17 (fun v13 g14 ho15 => ?_)
   refine Z 2 rfl ?_
   refine st_freeze (fun τ18 hl19 hg20 => ?_)
   have hs21 := ho15.freeze hl19 hg20
   refine st_ord [] _ rfl ?_
   obtain rfl := Eq.symm h
   exact st_ret (gs' := []) Tryz.func93 rfl (List.Sublist.refl _) (hl9.trans hl19) ⟨_, rfl, rfl, hs21⟩
  ·refine Z 3 rfl ?_
   refine o_lit (dk := (kI .u8)) (xs := ([] : List Int)) (ps := []) (cs := []) rfl rfl rfl z_slT23 z_zero5 trivial rfl rfl rfl rfl Kd.Many.nil (fun v23 g24 ho25 => ?_)
   refine ZZ 3 [1] rfl rfl ?_
   obtain ⟨q26, hf27, h⟩ := h
   refine o_index rfl rfl rfl z_slT22 rfl rfl (hs2.up hl9) rfl hf27 (fun b28 of29 vs hc31 hrep => ?_)
   obtain ⟨v30, rfl, hs32⟩ := hrep
   refine o_loadI (v := v30) rfl rfl rfl z_sc23 rfl (hc31 0 _ rfl) ?_
   obtain ⟨hf36, hf37, h⟩ := h
   refine o_append (dk := (kI .u8)) (xs := ([] : List Int)) (ys := q26) rfl rfl rfl rfl z_slT23 rfl ho25 rfl (Sl.src hs32) hf36 hf37 (fun v33 g34 ho35 => ?_)
   refine Z 3 rfl ?_
   refine st_cut (fun ρ τ38 gs => ∃ (s38 : List Int) (v39 : Value), noise_Bytes_j1 s38 r ∧ τ8.Le τ38 ∧ ESub ρ [(4, .slice none 0 0), (5, v39)] ∧ gs = [] ∧ Sl (kI .u8) τ38 v39 s38) ?_ (fun hk38 => ?_)
   ·rintro ρ38 τ38 gs38 ⟨s38, v39, h, hl38, hρ, rfl, hs40⟩
    refine st_es hρ ?_
    refine Z 5 rfl ?_
    obtain rfl := Eq.symm h
    exact st_ret (gs' := []) Tryz.func93 rfl (List.Sublist.refl _) (hl9.trans hl38) ⟨_, rfl, rfl, hs40⟩
   refine ZZ 11 [1] rfl rfl ?_
   refine st_if rfl h (fun h => ?_) (fun h => ?_)
   ·refine ZZ 6 [1] rfl rfl ?_
    refine o_lenO rfl rfl rfl z_slT23 rfl ho35 ?_
    refine o_min2 rfl rfl rfl rfl rfl ?_
    obtain ⟨hf48, hf49, hf50, h⟩ := h
    refine st_freeze (fun τ41 hl42 hg43 => ?_)
    have hs44 := ho35.freeze hl42 hg43
    refine o_slice (L := (min a1.2.2.1 ((([] : List Int) ++ q26).length : Int))) (H := ((([] : List Int) ++ q26).length : Int)) rfl rfl rfl z_slT23 rfl rfl hs44 ⟨_, rfl⟩ rfl hf48 hf49 hf50 trivial (by simp) (fun v51 hs52 => ?_)
    refine ZZ 7 [0] rfl rfl ?_
    refine o_lenI rfl rfl rfl z_slT23 rfl hs52 ?_
    refine o_min2 rfl rfl rfl rfl rfl ?_
    obtain ⟨hf53, hf54, h⟩ := h
    refine o_slice (L := 0) (H := (min a1.2.2.2.1 ((((([] : List Int) ++ q26).drop (min a1.2.2.1 ((([] : List Int) ++ q26).length : Int)).toNat).take ((((([] : List Int) ++ q26).length : Int) : Int) - (min a1.2.2.1 ((([] : List Int) ++ q26).length : Int))).toNat).length : Int))) rfl rfl rfl z_slT23 rfl rfl hs52 rfl ⟨_, rfl⟩ (by decide) hf53 hf54 trivial (by simp) (fun v55 hs56 => ?_)
    refine Z 3 rfl ?_
    refine st_ord [] _ rfl ?_
    exact hk38 _ _ _ ⟨(((((([] : List Int) ++ q26).drop (min a1.2.2.1 ((([] : List Int) ++ q26).length : Int)).toNat).take ((((([] : List Int) ++ q26).length : Int) : Int) - (min a1.2.2.1 ((([] : List Int) ++ q26).length : Int))).toNat).drop (0 : Int).toNat).take (((min a1.2.2.2.1 ((((([] : List Int) ++ q26).drop (min a1.2.2.1 ((([] : List Int) ++ q26).length : Int)).toNat).take ((((([] : List Int) ++ q26).length : Int) : Int) - (min a1.2.2.1 ((([] : List Int) ++ q26).length : Int))).toNat).length : Int)) : Int) - 0).toNat), _, h, hl42, rfl, rfl, hs56⟩
   ·refine Z 5 rfl ?_
    refine st_if rfl h (fun h => ?_) (fun h => ?_)
    ·refine ZZ 5 [1] rfl rfl ?_
     refine o_lenO rfl rfl rfl z_slT23 rfl ho35 ?_
     refine Z 2 rfl ?_
     refine st_if rfl h (fun h => ?_) (fun h => ?_)
     ·obtain ⟨q57, hf58, h⟩ := h
      refine st_draw 9 (dl [.v (v33), .v (.pointer (some ⟨b5, 2, none⟩)), .v (.int .i64 a1.2.2.1), .t fun τ v => ∃ (b59 : Nat), (.pointer (some ⟨b59, a1.2.2.1.toNat * 1, none⟩) : Value) = v ∧ (∃ n cap, v33 = .slice (some ⟨b59, 0, none⟩) n cap), .v (.int .u8 q57), .v (.pointer (some ⟨b5, 3, none⟩)), .v (.int .i64 a1.2.2.2.1), .v (.int .u8 (IntKind.u8.wrap a1.2.2.2.1)), .v (.int .u8 (ixor .u8 q57 (IntKind.u8.wrap a1.2.2.2.1)))]) (fun _ _ => []) z_mix rfl (dl_mono ⟨fun _ _ _ hl ⟨b59, hv, hb60⟩ => ⟨b59, hv, hb60⟩, trivial⟩) (allB_cons (allB_cons (allB_cons (allB_cons (allB_cons (allB_cons (allB_cons (allB_cons (allB_cons allB_nil (p1 dA)) (p1 dA)) ?_) ?_) ?_) (p1 dA)) ?_) (p1 dA)) (p1 dA)) ?_
      ·intro ρ' τ pool rs hl hd hout hk
       obtain ⟨_, e1, rfl⟩ := hd 1 rfl
       refine o_load (j := 1) (v := .int .i64 a1.2.2.1) rfl rfl rfl z_sc3 e1 rfl rfl ?_
       exact st_addNil (hk _ _ (Sto.Le.refl _) rfl)
      ·intro ρ' τ pool rs hl hd hout hk
       obtain ⟨_, e0, rfl⟩ := hd 0 rfl
       obtain ⟨_, e2, rfl⟩ := hd 2 rfl
       refine o_indexOw rfl rfl rfl z_slT23 rfl e0 (ho35.up hl) e2 hf58 (fun b59 hb60 => ?_)
       exact st_addNil (hk _ _ (Sto.Le.refl _) ⟨b59, rfl, hb60⟩)
      ·intro ρ' τ pool rs hl hd hout hk
       obtain ⟨_, e3, b59, rfl, hb60⟩ := hd 3 rfl
       obtain ⟨vs61, hrep62, hat63⟩ := Ow.at (ho35.up hl) hb60 hf58
       obtain rfl := hrep62
       refine o_loadOw (off := 0) (j := 0) (v := .int .u8 q57) rfl rfl rfl z_sc5 e3 hat63 rfl rfl ?_
       exact st_addNil (hk _ _ (Sto.Le.refl _) rfl)
      ·intro ρ' τ pool rs hl hd hout hk
       obtain ⟨_, e5, rfl⟩ := hd 5 rfl
       refine o_load (j := 1) (v := .int .i64 a1.2.2.2.1) rfl rfl rfl z_sc3 e5 rfl rfl ?_
       exact st_addNil (hk _ _ (Sto.Le.refl _) rfl)
      intro ρ' τ64 vals hl64 hv hout
      refine st_ord [0, 0] _ rfl ?_
      refine st_env (ρ' := [(50, v33), (52, .int .i64 a1.2.2.1), (58, .int .u8 (ixor .u8 q57 (IntKind.u8.wrap a1.2.2.2.1))), (4, .slice none 0 0), (5, v33)]) ⟨(lv1 hv 0 rfl rfl), (lv1 hv 2 rfl rfl), (lv1 hv 8 rfl rfl), (hout 4 rfl).trans rfl, (hout 5 rfl).trans rfl, trivial⟩ ?_
      obtain ⟨q65, hf66, h⟩ := h
      refine o_indexOw rfl rfl rfl z_slT23 rfl rfl (ho35.up hl64) rfl hf66 (fun b67 hb68 => ?_)
      refine o_storeOw (dk := (kI .u8)) (off := 0) (j := 0) (q' := (ixor .u8 q57 (IntKind.u8.wrap a1.2.2.2.1))) (us := [.int .u8 (ixor .u8 q57 (IntKind.u8.wrap a1.2.2.2.1))]) rfl rfl rfl z_size5 rfl rfl rfl (ones_cons rfl ones_nil) (ho35.up hl64) hb68 hf66 rfl (fun vs hv => by obtain rfl := hv; exact rfl) (Nat.le_of_ble_eq_true rfl) (fun g69 ho70 => ?_)
      refine st_gs [g69, [(b5, .cells #[.int .i64 a1.1, .int .i64 a1.2.1, .int .i64 a1.2.2.1, .int .i64 a1.2.2.2.1, v3] 67 (0, 0))]] rfl ?_
      refine Z 2 rfl ?_
      refine st_freeze (fun τ71 hl72 hg73 => ?_)
      have hs74 := ho70.freeze hl72 hg73
      refine st_ord [] _ rfl ?_
      exact hk38 _ _ _ ⟨((([] : List Int) ++ q26).set a1.2.2.1.toNat (ixor .u8 q57 (IntKind.u8.wrap a1.2.2.2.1))), _, h, (hl64.trans hl72), rfl, rfl, hs74⟩
     ·refine Z 2 rfl ?_
      refine st_freeze (fun τ76 hl77 hg78 => ?_)
      have hs79 := ho35.freeze hl77 hg78
      refine st_ord [] _ rfl ?_
      exact hk38 _ _ _ ⟨(([] : List Int) ++ q26), _, h, hl77, rfl, rfl, hs79⟩
    ·refine Z 2 rfl ?_
     refine st_freeze (fun τ82 hl83 hg84 => ?_)
     have hs85 := ho35.freeze hl83 hg84
     refine st_ord [] _ rfl ?_
     exact hk38 _ _ _ ⟨(([] : List Int) ++ q26), _, h, hl83, rfl, rfl, hs85⟩
theorem noise_Each_1_ok {c0 : List (Int × Int × Int × Int × List Int)} {c1 : List (List Int)} {bc0 : Nat} {v1 : Value} {bc1 : Nat} {v3 : Value} {σ0 : Sto} (hc0_0 : Cel σ0 ⟨bc0, 0, none⟩ (v1)) (hs2 : Sl (kP (kI .i64) (kP (kI .i64) (kP (kI .i64) (kP (kI .i64) (kSl (kI .u8)))))) σ0 v1 c0) (hc1_0 : Cel σ0 ⟨bc1, 0, none⟩ (v3)) (hs4 : Sl (kSl (kI .u8)) σ0 v3 c1) :
    IterV Tryz.prog (fun τ x vx => ∃ (v45 : Value), vx = [.int .i64 x.1, v45] ∧ Sl (kI .u8) τ v45 x.2) (.func (.func 92) #[] [.pointer (some ⟨bc0, 0, none⟩), .pointer (some ⟨bc1, 0, none⟩)].toArray) σ0 [] (fun (_ : Unit) _ f => f = []) (noise_Each_1 c0 c1) := by
 intro S Y I y hyc hyo hIm hY s s' o hR σ g hle hIg
 obtain ⟨r, hr0⟩ : ∃ r, r = (s', o) := ⟨_, rfl⟩
 rw [← hr0] at hR
 have h := hR
 refine callV_of (caps := [.pointer (some ⟨bc0, 0, none⟩), .pointer (some ⟨bc1, 0, none⟩)]) z_en92 ?_
 refine call_of Tryz.func92 Tryz.ntmps92 rfl rfl (fun cs fs => ?_)
 refine st_ord [0] _ rfl ?_
 refine Z 5 rfl ?_
 refine o_loadI (v := v1) rfl rfl rfl z_sc64 rfl (Cel.up hc0_0 hle) ?_
 refine o_lenI rfl rfl rfl z_slT64 rfl (hs2.up hle) ?_
 refine Z 2 rfl ?_
 obtain ⟨e5, hL5, hA5⟩ := h
 refine st_loop hL5 (fun (s5 : S × Int) ρ τ5 gs => σ.Le τ5 ∧ ∃ (g6 : Grp), ESub ρ [(0, y), (2, .pointer (some ⟨bc1, 0, none⟩)), (6, v1), (7, .int .i64 (c0.length : Int)), (8, .int .i64 s5.2)] ∧ gs = [g6] ∧ I s5.1 τ5 g6) ⟨Sto.Le.refl _, g, rfl, rfl, hIg⟩ ?_
 rintro s5 o5 h he5 ρ5 τ5 gs5 ⟨hl5, g6, hρ, rfl, hI7⟩ hn5
 refine st_es hρ ?_
 refine Z 5 rfl ?_
 refine st_if rfl h (fun h => ?_) (fun h => ?_)
 ·refine Z 6 rfl ?_
  obtain ⟨q8, hf9, h⟩ := h
  refine o_index rfl rfl rfl z_slT64 rfl rfl (hs2.up (hle.trans hl5)) rfl hf9 (fun b10 of11 vs hc13 hrep => ?_)
  obtain ⟨_, _, rfl, rfl, ⟨_, _, rfl, rfl, ⟨_, _, rfl, rfl, ⟨_, _, rfl, rfl, ⟨v12, rfl, hs14⟩⟩⟩⟩⟩ := hrep
  refine o_loadIN (vs := [.int .i64 q8.1, .int .i64 q8.2.1, .int .i64 q8.2.2.1, .int .i64 q8.2.2.2.1, v12]) rfl rfl rfl z_agg67 rfl rfl (celn_part 0 rfl hc13) ?_
  refine o_alloc rfl rfl rfl z_zero67 (fun b15 => ?_)
  refine o_assign rfl rfl rfl rfl ?_
  refine o_store (j := 0) (vs := [.int .i64 q8.1, .int .i64 q8.2.1, .int .i64 q8.2.2.1, .int .i64 q8.2.2.2.1, v12]) (cs' := [.int .i64 q8.1, .int .i64 q8.2.1, .int .i64 q8.2.2.1, .int .i64 q8.2.2.2.1, v12]) rfl rfl rfl z_size67 rfl rfl rfl (ones_cons rfl (ones_cons rfl (ones_cons rfl (ones_cons rfl (ones_cons hs14.one' ones_nil))))) rfl rfl rfl ?_
  refine st_gs [[(b15, .cells #[.int .i64 q8.1, .int .i64 q8.2.1, .int .i64 q8.2.2.1, .int .i64 q8.2.2.2.1, v12] 67 (0, 0))], g6] rfl ?_
  refine Z 5 rfl ?_
  refine o_loadI (v := v3) rfl rfl rfl z_sc22 rfl (Cel.up hc1_0 (hle.trans hl5)) ?_
  refine ZZ 1 [0] rfl rfl ?_
  obtain ⟨r16, hr17, h⟩ := h
  refine st_call (foot := []) rfl rfl rfl rfl rfl rfl (callV_fn z_en93 (noise_Bytes_ok hr17 τ5 (hs4.up (hle.trans hl5)) hs14)) ?_
  rintro vτ18 τ18 gsτ18 hl19 ⟨v20, rfl, rfl, hs21⟩
  obtain ⟨y22, u23, hy24, h⟩ := h
  refine st_ord [1, 0] _ rfl ?_
  refine st_call (foot := [g6]) rfl rfl rfl rfl rfl rfl (hY (s5.2, r16) s5.1 _ _ _ _ _ (hle.trans (hl5.trans hl19)) hy24 ⟨_, rfl, hs21⟩ (hIm _ _ _ _ hl19 hI7)) ?_
  rintro vτ25 τ25 gsτ25 hl26 ⟨rfl, g27, rfl, hI28⟩
  refine Z 2 rfl ?_
  refine st_if rfl h (fun h => ?_) (fun h => ?_)
  ·refine Z 2 rfl ?_
   refine st_ord [0] _ rfl ?_
   obtain rfl := he5 _ h
   replace h := hA5
   obtain rfl := Eq.symm h
   cases hr0
   exact st_fin (gs' := [g27, []]) Tryz.func92 rfl (by simp) ((hl5.trans hl19).trans hl26) ⟨g27, _, rfl, hI28, rfl⟩
  ·refine Z 6 rfl ?_
   refine st_ord [0] _ rfl ?_
   exact hn5 _ _ _ _ h ⟨((hl5.trans hl19).trans hl26), g27, rfl, rfl, hI28⟩
 ·refine Z 2 rfl ?_
  obtain rfl := he5 _ h
  replace h := hA5
  obtain rfl := Eq.symm h
  cases hr0
  exact st_fin (gs' := [g6, []]) Tryz.func92 rfl (by simp) hl5 ⟨g6, _, rfl, hI7, rfl⟩
theorem noise_Each_ok {a0 : List (List Int)} {a1 : List (Int × Int × Int × Int × List Int)} {v1 : Value} {v3 : Value} {r : (((S : Type) → ((Int × List Int) → S → Bool × S → Prop) → S → S × Unit → Prop))} (h : noise_Each a0 a1 r) (σ : Sto) (hs2 : Sl (kSl (kI .u8)) σ v1 a0) (hs4 : Sl (kP (kI .i64) (kP (kI .i64) (kP (kI .i64) (kP (kI .i64) (kSl (kI .u8)))))) σ v3 a1) :
    Does Tryz.prog 55 [v1, v3] σ [] (fun v τ gs => ∃ (f13 : Nat) (q14 : Array Value), gs = [] ∧ .func (.func f13) #[] q14 = v ∧ IterV Tryz.prog (fun τ x vx => ∃ (v47 : Value), vx = [.int .i64 x.1, v47] ∧ Sl (kI .u8) τ v47 x.2) (.func (.func f13) #[] q14) τ [] (fun (_ : Unit) _ f => f = []) r) := by
 refine call_of Tryz.func55 Tryz.ntmps55 rfl rfl (fun cs fs => ?_)
 refine Z 2 rfl ?_
 refine o_box (cs := [v1]) rfl rfl rfl rfl (oneL_sl hs2) (fun b5 => ?_)
 refine o_box (cs := [v3]) rfl rfl rfl rfl (oneL_sl hs4) (fun b6 => ?_)
 refine Z 4 rfl ?_
 refine st_freeze (fun τ7 hl8 hg9 => ?_)
 refine st_freeze (fun τ10 hl11 hg12 => ?_)
 refine Z 3 rfl ?_
 obtain rfl := Eq.symm h
 exact st_ret (gs' := []) Tryz.func55 rfl (List.Sublist.refl _) (hl8.trans hl11) ⟨_, _, rfl, rfl, (noise_Each_1_ok (Cel.up (cel_of hg9 rfl) hl11) (hs4.up (hl8.trans hl11)) (cel_of hg12 rfl) (hs2.up (hl8.trans hl11)))⟩
theorem noise_Run_ok {a0 : List (List Int)} {a1 : List (Int × Int × Int × Int × List Int)} {v1 : Value} {v3 : Value} {r : List Int} (h : noise_Run a0 a1 r) (σ : Sto) (hs2 : Sl (kSl (kI .u8)) σ v1 a0) (hs4 : Sl (kP (kI .i64) (kP (kI .i64) (kP (kI .i64) (kP (kI .i64) (kSl (kI .u8)))))) σ v3 a1) :
    Does Tryz.prog 24 [v1, v3] σ [] (fun v τ gs => ∃ (v36 : Value), gs = [] ∧ v36 = v ∧ Sl (kI .u8) τ v36 r) := by
 refine call_of Tryz.func24 Tryz.ntmps24 rfl rfl (fun cs fs => ?_)
 refine Z 6 rfl ?_
 refine o_alloc rfl rfl rfl z_zero23 (fun b5 => ?_)
 refine Z 6 rfl ?_
 obtain ⟨r6, hr7, h⟩ := h
 refine st_call (foot := []) rfl rfl rfl rfl rfl rfl (callV_fn z_en55 (noise_Each_ok hr7 σ hs2 hs4)) ?_
 rintro vτ8 τ8 gsτ8 hl9 ⟨f10, q11, rfl, rfl, hit12⟩
 refine Z 2 rfl ?_
 obtain ⟨t13, w13, hR13, hA13⟩ := h
 refine st_env (ρ' := [(4, .slice none 0 0), (5, .pointer (some ⟨b5, 0, none⟩)), (10, .func (.func f10) #[] q11)]) ⟨rfl, rfl, rfl, trivial⟩ ?_
 refine st_addNil ?_
 refine st_ord [1, 0] _ rfl ?_
 refine st_addNil ?_
 refine st_range (B := noise_Run_l1) (s0 := []) ranges_fctx rfl hit12 (Sto.Le.refl _) hR13 rfl (fun _ _ _ h => by obtain ⟨_, rfl, _⟩ := h; rfl) (fun (s13 : List Int) τ13 gs => τ8.Le τ13 ∧ ∃ (v14 : Value) (g15 : Grp), gs = [[(b5, .cells #[v14] 23 (0, 0))], g15] ∧ Ow (kI .u8) 5 τ13 v14 s13 g15) (fun _ _ _ _ => False) (fun _ _ _ _ hl ⟨hb, v14, g15, hg, ho16⟩ => ⟨hb.trans hl, v14, g15, hg, ho16.up hl⟩) (fun _ _ _ _ _ _ h => h.elim) ⟨Sto.Le.refl _, _, _, rfl, Ow.nil⟩ ?_ ?_ ?_
 ·rintro x13 s13 o13 τ13 gs13 vx13 hl13 h ⟨v17, rfl, hs18⟩ ⟨hb13, v14, g15, rfl, ho16⟩ l13 rc13 caller13 cs13 fs13
  refine Z 3 rfl ?_
  refine st_begin ?_
  refine ZZ 4 [0] rfl rfl ?_
  obtain ⟨hf22, hf23, h⟩ := h
  refine st_ord [1, 0] _ rfl ?_
  refine o_append (dk := (kI .u8)) (xs := s13) (ys := x13.2) rfl rfl rfl rfl z_slT23 rfl ho16 rfl (Sl.src hs18) hf22 hf23 (fun v19 g20 ho21 => ?_)
  refine o_store (j := 1) (vs := [v19]) (cs' := [v19]) rfl rfl rfl z_size23 rfl rfl (oneL_ow ho21) (ones_cons ho21.one' ones_nil) rfl rfl rfl ?_
  refine st_gs [g20, [(b5, .cells #[v19] 23 (0, 0))]] rfl ?_
  refine Z 2 rfl ?_
  refine st_ord [1, 0] _ rfl ?_
  exact st_rend (List.Sublist.refl _) (Sto.Le.refl _) ⟨_, h, hl13, _, _, rfl, ho21⟩
 ·rintro p24 τ25 gs13 f13 ht hl26 ⟨hb, v27, g28, rfl, ho29⟩ rfl
  subst ht
  replace h := hA13
  refine st_ord [1, 1] _ rfl ?_
  refine ZZ 6 [0] rfl rfl ?_
  refine st_ord [1, 0] _ rfl ?_
  refine st_freeze (fun τ30 hl31 hg32 => ?_)
  have hs33 := ho29.freeze hl31 hg32
  refine st_ord [] _ rfl ?_
  obtain rfl := Eq.symm h
  exact st_ret (gs' := []) Tryz.func24 rfl (List.Sublist.refl _) ((hl9.trans hl26).trans hl31) ⟨_, rfl, rfl, hs33⟩
 ·exact fun _ _ _ _ _ _ _ h => h.elim
theorem unicode_utf8_DecodeRuneInString_ok {a0 : ByteArray} {r : Int × Int} (h : unicode_utf8_DecodeRuneInString a0 r) (σ : Sto) :
    Does Tryz.prog 147 [.string a0] σ [] (fun v τ gs => gs = [] ∧ .tuple [.int .i32 r.1, .int .i64 r.2].toArray = v) := by
 obtain ⟨hf, _⟩ := h
 exact hf.elim
theorem strings_Index_ok {a0 : ByteArray} {a1 : ByteArray} {r : Int} (h : strings_Index a0 a1 r) (σ : Sto) :
    Does Tryz.prog 148 [.string a0, .string a1] σ [] (fun v τ gs => gs = [] ∧ .int .i64 r = v) := by
 obtain ⟨c, hc, rfl⟩ := h
 exact index_does Tryz.strings_Index_one hc
end Go.Rel
