import Derived.Test.YtnlghjmngfgmcabGreatDoorURel
import Derived.Test.YtnlghjmngfgmcabGreatDoorUFacts
import Derived.Test.YtnlghjmngfgmcabGreatDoorUWalk0
/-! The walks. -/
set_option linter.unusedVariables false
set_option linter.unusedSimpArgs false
set_option maxRecDepth 4000
set_option maxHeartbeats 4000000
namespace Go.Rel
open Go Go.Eng Go.Proofs
theorem ref20_Line_ok {a0 : Int × List Int × List (List Int) × List Int × ByteArray × ByteArray} {v1 : Value} {v2 : Value} {r : ByteArray} (h : ref20_Line a0 r) (σ : Sto) (hs3 : Sl (kA .i64 2) σ v1 a0.2.2.1) (hs4 : Sl (kI .i64) σ v2 a0.2.2.2.1) :
    Does Tryz.prog 15 [.agg [.int .i64 a0.1, .int .i64 (a0.2.1.getD 0 0), .int .i64 (a0.2.1.getD 1 0), .int .i64 (a0.2.1.getD 2 0), .int .i64 (a0.2.1.getD 3 0), .int .i64 (a0.2.1.getD 4 0), .int .i64 (a0.2.1.getD 5 0), v1, v2, .string a0.2.2.2.2.1, .string a0.2.2.2.2.2].toArray] σ [] (fun v τ gs => gs = [] ∧ .string r = v) := by
 refine call_of Tryz.func15 Tryz.ntmps15 rfl rfl (fun cs fs => ?_)
 refine Z 2 rfl ?_
 refine o_box (cs := [.int .i64 a0.1, .int .i64 (a0.2.1.getD 0 0), .int .i64 (a0.2.1.getD 1 0), .int .i64 (a0.2.1.getD 2 0), .int .i64 (a0.2.1.getD 3 0), .int .i64 (a0.2.1.getD 4 0), .int .i64 (a0.2.1.getD 5 0), v1, v2, .string a0.2.2.2.2.1, .string a0.2.2.2.2.2]) rfl rfl rfl rfl rfl (fun b5 => ?_)
 refine o_assign rfl rfl rfl (ev_str z_str0) ?_
 refine ZZ 5 [0] rfl rfl ?_
 obtain ⟨r6, hr7, h⟩ := h
 refine st_call (foot := []) rfl rfl rfl rfl rfl rfl (callV_fn z_en36 (ref17_Check_ok hr7 σ hs3 hs4)) ?_
 rintro vτ8 τ8 gsτ8 hl9 ⟨rfl, rfl⟩
 refine Z 2 rfl ?_
 refine st_if rfl h (fun h => ?_) (fun h => ?_)
 ·refine Z 2 rfl ?_
  refine o_assign rfl rfl rfl (ev_str z_str0) ?_
  refine st_end ?_
  refine st_ord [] _ rfl ?_
  obtain rfl := Eq.symm h
  exact st_ret (gs' := []) Tryz.func15 rfl (List.Sublist.refl _) hl9 ⟨rfl, rfl⟩
 ·refine ZZ 5 [0] rfl rfl ?_
  obtain ⟨r10, hr11, h⟩ := h
  refine st_call (foot := []) rfl rfl rfl rfl rfl rfl (callV_fn z_en37 (ref16_Word_ok hr11 τ8)) ?_
  rintro vτ12 τ12 gsτ12 hl13 ⟨rfl, rfl⟩
  refine ZZ 6 [0] rfl rfl ?_
  obtain ⟨r14, hr15, h⟩ := h
  refine st_call (foot := []) rfl rfl rfl rfl rfl rfl (callV_fn z_en38 (ref16_All_ok hr15 τ12)) ?_
  rintro vτ16 τ16 gsτ16 hl17 ⟨v18, rfl, rfl, hs19⟩
  refine Z 3 rfl ?_
  refine st_cut (fun ρ τ20 gs => ∃ (s20 : ByteArray), ref20_Line_j1 s20 r ∧ τ16.Le τ20 ∧ ESub ρ [(2, .string (bstr [])), (3, .string s20)] ∧ gs = []) ?_ (fun hk20 => ?_)
  ·rintro ρ20 τ20 gs20 ⟨s20, h, hl20, hρ, rfl⟩
   refine st_es hρ ?_
   refine Z 5 rfl ?_
   obtain rfl := Eq.symm h
   exact st_ret (gs' := []) Tryz.func15 rfl (List.Sublist.refl _) (((hl9.trans hl13).trans hl17).trans hl20) ⟨rfl, rfl⟩
  refine Z 4 rfl ?_
  obtain ⟨e21, hL21, hA21⟩ := h
  refine st_loop hL21 (fun (s21 : ByteArray × Int) ρ τ21 gs => τ16.Le τ21 ∧ ESub ρ [(1, .pointer (some ⟨b5, 0, none⟩)), (2, .string (bstr [])), (3, .string s21.1), (4, v18), (5, .int .i64 s21.2)] ∧ gs = [[(b5, .cells #[.int .i64 a0.1, .int .i64 (a0.2.1.getD 0 0), .int .i64 (a0.2.1.getD 1 0), .int .i64 (a0.2.1.getD 2 0), .int .i64 (a0.2.1.getD 3 0), .int .i64 (a0.2.1.getD 4 0), .int .i64 (a0.2.1.getD 5 0), v1, v2, .string a0.2.2.2.2.1, .string a0.2.2.2.2.2] 44 (0, 0))]]) ⟨Sto.Le.refl _, rfl, rfl⟩ ?_
  rintro s21 o21 h he21 ρ21 τ21 gs21 ⟨hl21, hρ, rfl⟩ hn21
  refine st_es hρ ?_
  refine Z 5 rfl ?_
  refine o_lenI rfl rfl rfl z_slT99 rfl (hs19.up hl21) ?_
  refine Z 2 rfl ?_
  refine st_if rfl h (fun h => ?_) (fun h => ?_)
  ·refine Z 5 rfl ?_
   refine o_assign rfl rfl rfl (ev_str z_str0) ?_
   refine Z 2 rfl ?_
   refine st_cut (fun ρ τ22 gs => ∃ (s22 : ByteArray), ref20_Line_j3 r14 s21 s22 o21 ∧ τ21.Le τ22 ∧ ESub ρ [(1, .pointer (some ⟨b5, 0, none⟩)), (2, .string (bstr [])), (3, .string s21.1), (4, v18), (5, .int .i64 s21.2), (6, .string s22)] ∧ gs = [[(b5, .cells #[.int .i64 a0.1, .int .i64 (a0.2.1.getD 0 0), .int .i64 (a0.2.1.getD 1 0), .int .i64 (a0.2.1.getD 2 0), .int .i64 (a0.2.1.getD 3 0), .int .i64 (a0.2.1.getD 4 0), .int .i64 (a0.2.1.getD 5 0), v1, v2, .string a0.2.2.2.2.1, .string a0.2.2.2.2.2] 44 (0, 0))]]) ?_ (fun hk22 => ?_)
   ·rintro ρ22 τ22 gs22 ⟨s22, h, hl22, hρ, rfl⟩
    refine st_es hρ ?_
    refine Z 2 rfl ?_
    obtain ⟨hf23, h⟩ := h
    refine o_sadd rfl rfl rfl rfl (ev_str z_str25) hf23 ?_
    refine Z 2 rfl ?_
    obtain ⟨q24, hf25, h⟩ := h
    refine o_index rfl rfl rfl z_slT99 rfl rfl (hs19.up (hl21.trans hl22)) rfl hf25 (fun b26 of27 vs hc28 hrep => ?_)
    obtain ⟨_, _, rfl, rfl, ⟨_, _, rfl, rfl, ⟨_, _, rfl, rfl, ⟨_, _, rfl, rfl, ⟨_, _, rfl, rfl, ⟨_, _, rfl, rfl, rfl⟩⟩⟩⟩⟩⟩ := hrep
    refine o_fieldAddr rfl rfl rfl z_field101_0 rfl ?_
    refine o_loadI (v := .string q24.1) rfl rfl rfl z_sc9 rfl (hc28 0 _ rfl) ?_
    obtain ⟨hf29, h⟩ := h
    refine o_sadd rfl rfl rfl rfl rfl hf29 ?_
    obtain ⟨hf30, h⟩ := h
    refine o_sadd rfl rfl rfl rfl (ev_str z_str25) hf30 ?_
    refine o_move rfl rfl rfl rfl ?_
    obtain ⟨hf31, h⟩ := h
    refine o_sadd rfl rfl rfl rfl rfl hf31 ?_
    refine Z 8 rfl ?_
    exact hn21 _ _ _ _ h ⟨(hl21.trans hl22), rfl, rfl⟩
   refine Z 4 rfl ?_
   obtain ⟨q32, hf33, h⟩ := h
   refine o_index rfl rfl rfl z_slT99 rfl rfl (hs19.up hl21) rfl hf33 (fun b34 of35 vs hc36 hrep => ?_)
   obtain ⟨_, _, rfl, rfl, ⟨_, _, rfl, rfl, ⟨_, _, rfl, rfl, ⟨_, _, rfl, rfl, ⟨_, _, rfl, rfl, ⟨_, _, rfl, rfl, rfl⟩⟩⟩⟩⟩⟩ := hrep
   refine o_fieldAddr rfl rfl rfl z_field101_1 rfl ?_
   refine o_loadI (v := .int .i64 q32.2.1) rfl rfl rfl z_sc3 rfl (hc36 1 _ rfl) ?_
   refine Z 7 rfl ?_
   refine st_if rfl h (fun h => ?_) (fun h => ?_)
   ·refine Z 4 rfl ?_
    obtain ⟨e37, hL37, hA37⟩ := h
    refine st_loop hL37 (fun (s37 : ByteArray × Int) ρ τ37 gs => τ21.Le τ37 ∧ ESub ρ [(1, .pointer (some ⟨b5, 0, none⟩)), (2, .string (bstr [])), (3, .string s21.1), (4, v18), (5, .int .i64 s21.2), (6, .string s37.1), (7, .int .i64 s37.2)] ∧ gs = [[(b5, .cells #[.int .i64 a0.1, .int .i64 (a0.2.1.getD 0 0), .int .i64 (a0.2.1.getD 1 0), .int .i64 (a0.2.1.getD 2 0), .int .i64 (a0.2.1.getD 3 0), .int .i64 (a0.2.1.getD 4 0), .int .i64 (a0.2.1.getD 5 0), v1, v2, .string a0.2.2.2.2.1, .string a0.2.2.2.2.2] 44 (0, 0))]]) ⟨Sto.Le.refl _, rfl, rfl⟩ ?_
    rintro s37 o37 h he37 ρ37 τ37 gs37 ⟨hl37, hρ, rfl⟩ hn37
    refine st_es hρ ?_
    refine ZZ 6 [0] rfl rfl ?_
    refine o_lenI rfl rfl rfl z_slT42 rfl (hs3.up ((((hl9.trans hl13).trans hl17).trans hl21).trans hl37)) ?_
    refine Z 2 rfl ?_
    refine st_if rfl h (fun h => ?_) (fun h => ?_)
    ·refine Z 4 rfl ?_
     refine st_cut (fun ρ τ38 gs => ∃ (s38 : ByteArray), ref20_Line_j5 a0 s37 s38 o37 ∧ τ37.Le τ38 ∧ ESub ρ [(1, .pointer (some ⟨b5, 0, none⟩)), (2, .string (bstr [])), (3, .string s21.1), (4, v18), (5, .int .i64 s21.2), (6, .string s38), (7, .int .i64 s37.2)] ∧ gs = [[(b5, .cells #[.int .i64 a0.1, .int .i64 (a0.2.1.getD 0 0), .int .i64 (a0.2.1.getD 1 0), .int .i64 (a0.2.1.getD 2 0), .int .i64 (a0.2.1.getD 3 0), .int .i64 (a0.2.1.getD 4 0), .int .i64 (a0.2.1.getD 5 0), v1, v2, .string a0.2.2.2.2.1, .string a0.2.2.2.2.2] 44 (0, 0))]]) ?_ (fun hk38 => ?_)
     ·rintro ρ38 τ38 gs38 ⟨s38, h, hl38, hρ, rfl⟩
      refine st_es hρ ?_
      obtain ⟨q39, hf40, r44, hr45, hf48, hf49, q50, hf51, r55, hr56, hf59, h⟩ := h
      refine st_draw 18 (dl [.v (.string s38), .v (.pointer (some ⟨b5, 7, none⟩)), .v (v1), .v (.int .i64 s37.2), .t fun τ v => ∃ (b41 : Nat) (of42 : Nat) (vsb41 : List Value), (.pointer (some ⟨b41, of42, none⟩) : Value) = v ∧ CelN τ ⟨b41, of42, none⟩ vsb41 ∧ (kA .i64 2).rep τ vsb41 q39, .t fun τ v => ∃ (b41 : Nat) (of42 : Nat) (vsb41 : List Value), (.pointer (some ⟨b41, of42 + (0 : Int).toNat * 1, none⟩) : Value) = v ∧ CelN τ ⟨b41, of42, none⟩ vsb41 ∧ (kA .i64 2).rep τ vsb41 q39, .v (.int .i64 (q39.getD 0 0)), .v (.string r44), .v (.string (s38 ++ r44)), .v (.string ((s38 ++ r44) ++ (bstr [44]))), .v (.pointer (some ⟨b5, 7, none⟩)), .v (v1), .v (.int .i64 s37.2), .t fun τ v => ∃ (b52 : Nat) (of53 : Nat) (vsb52 : List Value), (.pointer (some ⟨b52, of53, none⟩) : Value) = v ∧ CelN τ ⟨b52, of53, none⟩ vsb52 ∧ (kA .i64 2).rep τ vsb52 q50, .t fun τ v => ∃ (b52 : Nat) (of53 : Nat) (vsb52 : List Value), (.pointer (some ⟨b52, of53 + (1 : Int).toNat * 1, none⟩) : Value) = v ∧ CelN τ ⟨b52, of53, none⟩ vsb52 ∧ (kA .i64 2).rep τ vsb52 q50, .v (.int .i64 (q50.getD 1 0)), .v (.string r55), .v (.string (((s38 ++ r44) ++ (bstr [44])) ++ r55))]) (fun _ _ => []) z_mix rfl (dl_mono ⟨fun _ _ _ hl ⟨b41, of42, vsb41, hv, hc43, hrepb41⟩ => ⟨b41, of42, vsb41, hv, hc43.up hl, Kd.mono _ hl hrepb41⟩, ⟨fun _ _ _ hl ⟨b41, of42, vsb41, hv, hc43, hrepb41⟩ => ⟨b41, of42, vsb41, hv, hc43.up hl, Kd.mono _ hl hrepb41⟩, ⟨fun _ _ _ hl ⟨b52, of53, vsb52, hv, hc54, hrepb52⟩ => ⟨b52, of53, vsb52, hv, hc54.up hl, Kd.mono _ hl hrepb52⟩, ⟨fun _ _ _ hl ⟨b52, of53, vsb52, hv, hc54, hrepb52⟩ => ⟨b52, of53, vsb52, hv, hc54.up hl, Kd.mono _ hl hrepb52⟩, trivial⟩⟩⟩⟩) (allB_cons (allB_cons (allB_cons (allB_cons (allB_cons (allB_cons (allB_cons (allB_cons (allB_cons (allB_cons (allB_cons (allB_cons (allB_cons (allB_cons (allB_cons (allB_cons (allB_cons (allB_cons allB_nil (p1 dA)) (p1 dA)) ?_) (p1 dA)) ?_) ?_) ?_) ?_) ?_) ?_) (p1 dA)) ?_) (p1 dA)) ?_) ?_) ?_) ?_) ?_) ?_
      ·intro ρ' τ pool rs hl hd hout hk
       obtain ⟨_, e1, rfl⟩ := hd 1 rfl
       refine o_load (j := 0) (v := v1) rfl rfl rfl z_sc42 e1 rfl rfl ?_
       exact st_addNil (hk _ _ (Sto.Le.refl _) rfl)
      ·intro ρ' τ pool rs hl hd hout hk
       obtain ⟨_, e2, rfl⟩ := hd 2 rfl
       obtain ⟨_, e3, rfl⟩ := hd 3 rfl
       refine o_index rfl rfl rfl z_slT42 rfl e2 (hs3.up ((((((hl9.trans hl13).trans hl17).trans hl21).trans hl37).trans hl38).trans hl)) e3 hf40 (fun b41 of42 vsb41 hc43 hrepb41 => ?_)
       exact st_addNil (hk _ _ (Sto.Le.refl _) ⟨b41, of42, _, rfl, hc43, hrepb41⟩)
      ·intro ρ' τ pool rs hl hd hout hk
       obtain ⟨_, e4, b41, of42, vsb41, rfl, hc43, hrepb41⟩ := hd 4 rfl
       have hrepb41 := hrepb41
       obtain rfl := hrepb41
       refine o_indexA rfl rfl rfl z_arr102 e4 rfl (by decide) (by decide) ?_
       exact st_addNil (hk _ _ (Sto.Le.refl _) ⟨b41, of42, _, rfl, hc43, hrepb41⟩)
      ·intro ρ' τ pool rs hl hd hout hk
       obtain ⟨_, e5, b41, of42, vsb41, rfl, hc43, hrepb41⟩ := hd 5 rfl
       have hrepb41 := hrepb41
       obtain rfl := hrepb41
       refine o_loadI (v := .int .i64 (q39.getD 0 0)) rfl rfl rfl z_sc3 e5 (cel_arr (f := (Value.int .i64)) (zz := 0) (n := 2) (xs := q39) (p := 0) (q := 0) hc43 rfl (by omega) (by omega)) ?_
       exact st_addNil (hk _ _ (Sto.Le.refl _) rfl)
      ·intro ρ' τ pool rs hl hd hout hk
       obtain ⟨_, e6, rfl⟩ := hd 6 rfl
       refine st_call (foot := []) rfl rfl rfl rfl (evs_cons e6 rfl) rfl (callV_fn z_en39 (ref07_Digits_ok hr45 τ)) ?_
       rintro vτ46 τ46 gsτ46 hl47 ⟨rfl, rfl⟩
       exact st_addNil (hk _ _ hl47 rfl)
      ·intro ρ' τ pool rs hl hd hout hk
       obtain ⟨_, e0, rfl⟩ := hd 0 rfl
       obtain ⟨_, e7, rfl⟩ := hd 7 rfl
       refine o_sadd rfl rfl rfl e0 e7 hf48 ?_
       exact st_addNil (hk _ _ (Sto.Le.refl _) rfl)
      ·intro ρ' τ pool rs hl hd hout hk
       obtain ⟨_, e8, rfl⟩ := hd 8 rfl
       refine o_sadd rfl rfl rfl e8 (ev_str z_str26) hf49 ?_
       exact st_addNil (hk _ _ (Sto.Le.refl _) rfl)
      ·intro ρ' τ pool rs hl hd hout hk
       obtain ⟨_, e10, rfl⟩ := hd 10 rfl
       refine o_load (j := 0) (v := v1) rfl rfl rfl z_sc42 e10 rfl rfl ?_
       exact st_addNil (hk _ _ (Sto.Le.refl _) rfl)
      ·intro ρ' τ pool rs hl hd hout hk
       obtain ⟨_, e11, rfl⟩ := hd 11 rfl
       obtain ⟨_, e12, rfl⟩ := hd 12 rfl
       refine o_index rfl rfl rfl z_slT42 rfl e11 (hs3.up ((((((hl9.trans hl13).trans hl17).trans hl21).trans hl37).trans hl38).trans hl)) e12 hf51 (fun b52 of53 vsb52 hc54 hrepb52 => ?_)
       exact st_addNil (hk _ _ (Sto.Le.refl _) ⟨b52, of53, _, rfl, hc54, hrepb52⟩)
      ·intro ρ' τ pool rs hl hd hout hk
       obtain ⟨_, e13, b52, of53, vsb52, rfl, hc54, hrepb52⟩ := hd 13 rfl
       have hrepb52 := hrepb52
       obtain rfl := hrepb52
       refine o_indexA rfl rfl rfl z_arr102 e13 rfl (by decide) (by decide) ?_
       exact st_addNil (hk _ _ (Sto.Le.refl _) ⟨b52, of53, _, rfl, hc54, hrepb52⟩)
      ·intro ρ' τ pool rs hl hd hout hk
       obtain ⟨_, e14, b52, of53, vsb52, rfl, hc54, hrepb52⟩ := hd 14 rfl
       have hrepb52 := hrepb52
       obtain rfl := hrepb52
       refine o_loadI (v := .int .i64 (q50.getD 1 0)) rfl rfl rfl z_sc3 e14 (cel_arr (f := (Value.int .i64)) (zz := 0) (n := 2) (xs := q50) (p := 0) (q := 1) hc54 rfl (by omega) (by omega)) ?_
       exact st_addNil (hk _ _ (Sto.Le.refl _) rfl)
      ·intro ρ' τ pool rs hl hd hout hk
       obtain ⟨_, e15, rfl⟩ := hd 15 rfl
       refine st_call (foot := []) rfl rfl rfl rfl (evs_cons e15 rfl) rfl (callV_fn z_en39 (ref07_Digits_ok hr56 τ)) ?_
       rintro vτ57 τ57 gsτ57 hl58 ⟨rfl, rfl⟩
       exact st_addNil (hk _ _ hl58 rfl)
      ·intro ρ' τ pool rs hl hd hout hk
       obtain ⟨_, e9, rfl⟩ := hd 9 rfl
       obtain ⟨_, e16, rfl⟩ := hd 16 rfl
       refine o_sadd rfl rfl rfl e9 e16 hf59 ?_
       exact st_addNil (hk _ _ (Sto.Le.refl _) rfl)
      intro ρ' τ60 vals hl60 hv hout
      refine st_ord [0] _ rfl ?_
      refine st_env (ρ' := [(68, .string (((s38 ++ r44) ++ (bstr [44])) ++ r55)), (1, .pointer (some ⟨b5, 0, none⟩)), (2, .string (bstr [])), (3, .string s21.1), (4, v18), (5, .int .i64 s21.2), (7, .int .i64 s37.2)]) ⟨(lv1 hv 17 rfl rfl), (hout 1 rfl).trans rfl, (hout 2 rfl).trans rfl, (hout 3 rfl).trans rfl, (hout 4 rfl).trans rfl, (hout 5 rfl).trans rfl, (hout 7 rfl).trans rfl, trivial⟩ ?_
      refine Z 8 rfl ?_
      exact hn37 _ _ _ _ h ⟨((hl37.trans hl38).trans hl60), rfl, rfl⟩
     refine Z 5 rfl ?_
     refine st_if rfl h (fun h => ?_) (fun h => ?_)
     ·refine Z 2 rfl ?_
      obtain ⟨hf61, h⟩ := h
      refine o_sadd rfl rfl rfl rfl (ev_str z_str27) hf61 ?_
      refine Z 2 rfl ?_
      exact hk38 _ _ _ ⟨(s37.1 ++ (bstr [59])), h, (Sto.Le.refl _), rfl, rfl⟩
     ·refine st_skip ?_
      exact hk38 _ _ _ ⟨s37.1, h, (Sto.Le.refl _), rfl, rfl⟩
    ·refine Z 2 rfl ?_
     obtain rfl := he37 _ h
     replace h := hA37
     exact hk22 _ _ _ ⟨s37.1, h, hl37, rfl, rfl⟩
   ·refine Z 5 rfl ?_
    refine st_if rfl h (fun h => ?_) (fun h => ?_)
    ·refine Z 4 rfl ?_
     obtain ⟨e63, hL63, hA63⟩ := h
     refine st_loop hL63 (fun (s63 : ByteArray × Int) ρ τ63 gs => τ21.Le τ63 ∧ ESub ρ [(1, .pointer (some ⟨b5, 0, none⟩)), (2, .string (bstr [])), (3, .string s21.1), (4, v18), (5, .int .i64 s21.2), (6, .string s63.1), (8, .int .i64 s63.2)] ∧ gs = [[(b5, .cells #[.int .i64 a0.1, .int .i64 (a0.2.1.getD 0 0), .int .i64 (a0.2.1.getD 1 0), .int .i64 (a0.2.1.getD 2 0), .int .i64 (a0.2.1.getD 3 0), .int .i64 (a0.2.1.getD 4 0), .int .i64 (a0.2.1.getD 5 0), v1, v2, .string a0.2.2.2.2.1, .string a0.2.2.2.2.2] 44 (0, 0))]]) ⟨Sto.Le.refl _, rfl, rfl⟩ ?_
     rintro s63 o63 h he63 ρ63 τ63 gs63 ⟨hl63, hρ, rfl⟩ hn63
     refine st_es hρ ?_
     refine ZZ 6 [0] rfl rfl ?_
     refine o_lenI rfl rfl rfl z_slT27 rfl (hs4.up ((((hl9.trans hl13).trans hl17).trans hl21).trans hl63)) ?_
     refine Z 2 rfl ?_
     refine st_if rfl h (fun h => ?_) (fun h => ?_)
     ·refine Z 4 rfl ?_
      refine st_cut (fun ρ τ64 gs => ∃ (s64 : ByteArray), ref20_Line_j7 a0 s63 s64 o63 ∧ τ63.Le τ64 ∧ ESub ρ [(1, .pointer (some ⟨b5, 0, none⟩)), (2, .string (bstr [])), (3, .string s21.1), (4, v18), (5, .int .i64 s21.2), (6, .string s64), (8, .int .i64 s63.2)] ∧ gs = [[(b5, .cells #[.int .i64 a0.1, .int .i64 (a0.2.1.getD 0 0), .int .i64 (a0.2.1.getD 1 0), .int .i64 (a0.2.1.getD 2 0), .int .i64 (a0.2.1.getD 3 0), .int .i64 (a0.2.1.getD 4 0), .int .i64 (a0.2.1.getD 5 0), v1, v2, .string a0.2.2.2.2.1, .string a0.2.2.2.2.2] 44 (0, 0))]]) ?_ (fun hk64 => ?_)
      ·rintro ρ64 τ64 gs64 ⟨s64, h, hl64, hρ, rfl⟩
       refine st_es hρ ?_
       refine ZZ 5 [0] rfl rfl ?_
       obtain ⟨q65, hf66, h⟩ := h
       refine o_index rfl rfl rfl z_slT27 rfl rfl (hs4.up (((((hl9.trans hl13).trans hl17).trans hl21).trans hl63).trans hl64)) rfl hf66 (fun b67 of68 vs hc69 hrep => ?_)
       obtain rfl := hrep
       refine o_loadI (v := .int .i64 q65) rfl rfl rfl z_sc3 rfl (hc69 0 _ rfl) ?_
       obtain ⟨r70, hr71, h⟩ := h
       refine st_call (foot := []) rfl rfl rfl rfl rfl rfl (callV_fn z_en39 (ref07_Digits_ok hr71 τ64)) ?_
       rintro vτ72 τ72 gsτ72 hl73 ⟨rfl, rfl⟩
       obtain ⟨hf74, h⟩ := h
       refine o_sadd rfl rfl rfl rfl rfl hf74 ?_
       refine Z 8 rfl ?_
       exact hn63 _ _ _ _ h ⟨((hl63.trans hl64).trans hl73), rfl, rfl⟩
      refine Z 5 rfl ?_
      refine st_if rfl h (fun h => ?_) (fun h => ?_)
      ·refine Z 2 rfl ?_
       obtain ⟨hf75, h⟩ := h
       refine o_sadd rfl rfl rfl rfl (ev_str z_str26) hf75 ?_
       refine Z 2 rfl ?_
       exact hk64 _ _ _ ⟨(s63.1 ++ (bstr [44])), h, (Sto.Le.refl _), rfl, rfl⟩
      ·refine st_skip ?_
       exact hk64 _ _ _ ⟨s63.1, h, (Sto.Le.refl _), rfl, rfl⟩
     ·refine Z 2 rfl ?_
      obtain rfl := he63 _ h
      replace h := hA63
      exact hk22 _ _ _ ⟨s63.1, h, hl63, rfl, rfl⟩
    ·refine Z 5 rfl ?_
     refine st_if rfl h (fun h => ?_) (fun h => ?_)
     ·refine ZZ 3 [0] rfl rfl ?_
      obtain ⟨r77, hr78, h⟩ := h
      refine st_call (foot := []) rfl rfl rfl rfl rfl rfl (callV_fn z_en40 (ref20_hex_ok hr78 τ21)) ?_
      rintro vτ79 τ79 gsτ79 hl80 ⟨rfl, rfl⟩
      refine Z 3 rfl ?_
      exact hk22 _ _ _ ⟨r77, h, hl80, rfl, rfl⟩
     ·refine Z 5 rfl ?_
      refine st_if rfl h (fun h => ?_) (fun h => ?_)
      ·refine ZZ 3 [0] rfl rfl ?_
       obtain ⟨r81, hr82, h⟩ := h
       refine st_call (foot := []) rfl rfl rfl rfl rfl rfl (callV_fn z_en40 (ref20_hex_ok hr82 τ21)) ?_
       rintro vτ83 τ83 gsτ83 hl84 ⟨rfl, rfl⟩
       refine Z 3 rfl ?_
       exact hk22 _ _ _ ⟨r81, h, hl84, rfl, rfl⟩
      ·refine Z 3 rfl ?_
       obtain ⟨q85, hf86, h⟩ := h
       refine o_index rfl rfl rfl z_slT99 rfl rfl (hs19.up hl21) rfl hf86 (fun b87 of88 vs hc89 hrep => ?_)
       obtain ⟨_, _, rfl, rfl, ⟨_, _, rfl, rfl, ⟨_, _, rfl, rfl, ⟨_, _, rfl, rfl, ⟨_, _, rfl, rfl, ⟨_, _, rfl, rfl, rfl⟩⟩⟩⟩⟩⟩ := hrep
       refine o_fieldAddr rfl rfl rfl z_field101_2 rfl ?_
       refine o_loadI (v := .int .i64 q85.2.2.1) rfl rfl rfl z_sc3 rfl (hc89 2 _ rfl) ?_
       refine o_fieldAddr rfl rfl rfl z_field44_1 rfl ?_
       obtain ⟨hf90, hf91, h⟩ := h
       refine o_indexA rfl rfl rfl z_arr35 rfl rfl hf90 hf91 ?_
       refine o_loadV (j := 0) (q85.2.2.1.toNat) (f := (Value.int .i64)) (zz := 0) (l := 6) (xs := a0.2.1) [.int .i64 a0.1] [v1, v2, .string a0.2.2.2.2.1, .string a0.2.2.2.2.2] rfl rfl rfl z_sc3 rfl rfl (by simp only [List.length_cons, List.length_nil] <;> omega) (by omega) ?_
       obtain ⟨r92, hr93, h⟩ := h
       refine st_call (foot := []) rfl rfl rfl rfl rfl rfl (callV_fn z_en39 (ref07_Digits_ok hr93 τ21)) ?_
       rintro vτ94 τ94 gsτ94 hl95 ⟨rfl, rfl⟩
       refine Z 3 rfl ?_
       exact hk22 _ _ _ ⟨r92, h, hl95, rfl, rfl⟩
  ·refine st_exit rfl ?_
   obtain rfl := he21 _ h
   replace h := hA21
   refine st_ord [] _ rfl ?_
   exact hk20 _ _ _ ⟨s21.1, h, hl21, rfl, rfl⟩
theorem unicode_utf8_DecodeRuneInString_ok {a0 : ByteArray} {r : Int × Int} (h : unicode_utf8_DecodeRuneInString a0 r) (σ : Sto) :
    Does Tryz.prog 147 [.string a0] σ [] (fun v τ gs => gs = [] ∧ .tuple [.int .i32 r.1, .int .i64 r.2].toArray = v) := by
 obtain ⟨hf, _⟩ := h
 exact hf.elim
theorem strings_Index_ok {a0 : ByteArray} {a1 : ByteArray} {r : Int} (h : strings_Index a0 a1 r) (σ : Sto) :
    Does Tryz.prog 148 [.string a0, .string a1] σ [] (fun v τ gs => gs = [] ∧ .int .i64 r = v) := by
 obtain ⟨c, hc, rfl⟩ := h
 exact index_does Tryz.strings_Index_one hc
theorem strings_splitSeq_1_ok {c0 : ByteArray} {c2 : Int} {c1 : ByteArray} {bc0 : Nat} {bc1 : Nat} {bc2 : Nat} {σ0 : Sto} (hc0_0 : Cel σ0 ⟨bc0, 0, none⟩ (.string c0)) (hc2_0 : Cel σ0 ⟨bc2, 0, none⟩ (.int .i64 c2)) :
    IterV Tryz.prog (fun _ x vx => vx = [.string x]) (.func (.func 146) #[] [.pointer (some ⟨bc0, 0, none⟩), .pointer (some ⟨bc1, 0, none⟩), .pointer (some ⟨bc2, 0, none⟩)].toArray) σ0 [(bc1, .cells [.string c1].toArray 9 (0, 0))] (fun (oo : ByteArray) υ f => f = [(bc1, .cells [.string oo].toArray 9 (0, 0))]) (strings_splitSeq_1 c0 c2 c1) := by
 intro S Y I y hyc hyo hIm hY s s' o hR σ g hle hIg
 obtain ⟨r, hr0⟩ : ∃ r, r = (s', o) := ⟨_, rfl⟩
 rw [← hr0] at hR
 have h := hR
 refine callV_of (caps := [.pointer (some ⟨bc0, 0, none⟩), .pointer (some ⟨bc1, 0, none⟩), .pointer (some ⟨bc2, 0, none⟩)]) z_en146 ?_
 refine call_of Tryz.func146 Tryz.ntmps146 rfl rfl (fun cs fs => ?_)
 refine st_perm (gs' := [g, [(bc1, .cells #[.string c1] 9 (0, 0))]]) (by simp) ?_
 refine Z 3 rfl ?_
 refine o_loadI (v := .string c0) rfl rfl rfl z_sc9 rfl (Cel.up hc0_0 hle) ?_
 refine Z 3 rfl ?_
 refine st_if rfl h (fun h => ?_) (fun h => ?_)
 ·refine st_seq ?_
  refine st_cut (fun ρ τ1 gs => ∃ (s1 : S × ByteArray) (g2 : Grp), strings_splitSeq_1_j1 S Y s1 r ∧ σ.Le τ1 ∧ ESub ρ [(0, y), (1, .pointer (some ⟨bc0, 0, none⟩)), (2, .pointer (some ⟨bc1, 0, none⟩)), (3, .pointer (some ⟨bc2, 0, none⟩))] ∧ gs = [[(bc1, .cells #[.string s1.2] 9 (0, 0))], g2] ∧ I s1.1 τ1 g2) ?_ (fun hk1 => ?_)
  ·rintro ρ1 τ1 gs1 ⟨s1, g2, h, hl1, hρ, rfl, hI3⟩
   refine st_es hρ ?_
   refine st_ord [1, 0] _ rfl ?_
   obtain rfl := Eq.symm h
   cases hr0
   exact st_ret (gs' := [g2, [(bc1, .cells #[.string s1.2] 9 (0, 0))]]) Tryz.func146 rfl (by simp) hl1 ⟨g2, _, rfl, hI3, rfl⟩
  obtain ⟨e4, hL4, hA4⟩ := h
  refine st_ord [1, 0] _ rfl ?_
  refine st_loop hL4 (fun (s4 : S × ByteArray) ρ τ4 gs => σ.Le τ4 ∧ ∃ (g5 : Grp), ESub ρ [(0, y), (1, .pointer (some ⟨bc0, 0, none⟩)), (2, .pointer (some ⟨bc1, 0, none⟩)), (3, .pointer (some ⟨bc2, 0, none⟩))] ∧ gs = [[(bc1, .cells #[.string s4.2] 9 (0, 0))], g5] ∧ I s4.1 τ4 g5) ⟨Sto.Le.refl _, g, rfl, rfl, hIg⟩ ?_
  rintro s4 o4 h he4 ρ4 τ4 gs4 ⟨hl4, g5, hρ, rfl, hI6⟩ hn4
  refine st_es hρ ?_
  refine ZZ 7 [0] rfl rfl ?_
  refine st_if rfl h (fun h => ?_) (fun h => ?_)
  ·refine ZZ 5 [0] rfl rfl ?_
   obtain ⟨r7, hr8, h⟩ := h
   refine st_call (foot := []) rfl rfl rfl rfl rfl rfl (callV_fn z_en147 (unicode_utf8_DecodeRuneInString_ok hr8 τ4)) ?_
   rintro vτ9 τ9 gsτ9 hl10 ⟨rfl, rfl⟩
   refine ZZ 12 [0] rfl rfl ?_
   obtain ⟨hf11, hf12, h⟩ := h
   refine o_sliceSh rfl rfl rfl Tryz.underlying9 rfl rfl hf11 hf12 ?_
   obtain ⟨y13, u14, hy15, h⟩ := h
   refine st_ord [1, 0] _ rfl ?_
   refine st_call (foot := [g5]) rfl rfl rfl rfl rfl rfl (hY (s4.2.extract 0 r7.2.toNat) s4.1 _ _ _ _ _ (hle.trans (hl4.trans hl10)) hy15 rfl (hIm _ _ _ _ hl10 hI6)) ?_
   rintro vτ16 τ16 gsτ16 hl17 ⟨rfl, g18, rfl, hI19⟩
   refine Z 2 rfl ?_
   refine st_if rfl h (fun h => ?_) (fun h => ?_)
   ·obtain rfl := he4 _ h
    replace h := hA4
    obtain rfl := Eq.symm h
    cases hr0
    exact st_ret (gs' := [g18, [(bc1, .cells #[.string s4.2] 9 (0, 0))]]) Tryz.func146 rfl (by simp) ((hl4.trans hl10).trans hl17) ⟨g18, _, rfl, hI19, rfl⟩
   ·refine ZZ 4 [1] rfl rfl ?_
    obtain ⟨hf20, hf21, h⟩ := h
    refine o_sliceSl rfl rfl rfl Tryz.underlying9 rfl rfl hf20 hf21 ?_
    refine ZZ 3 [1] rfl rfl ?_
    refine st_ord [1, 0] _ rfl ?_
    exact hn4 _ _ _ _ h ⟨((hl4.trans hl10).trans hl17), g18, rfl, rfl, hI19⟩
  ·refine st_exit rfl ?_
   obtain rfl := he4 _ h
   replace h := hA4
   exact hk1 _ _ _ ⟨(s4.1, s4.2), g5, h, hl4, rfl, rfl, hI6⟩
 ·refine Z 2 rfl ?_
  refine st_cut (fun ρ τ24 gs => ∃ (s24 : S × ByteArray) (g25 : Grp), strings_splitSeq_1_j3 S Y s24 r ∧ σ.Le τ24 ∧ ESub ρ [(0, y), (2, .pointer (some ⟨bc1, 0, none⟩))] ∧ gs = [[(bc1, .cells #[.string s24.2] 9 (0, 0))], g25] ∧ I s24.1 τ24 g25) ?_ (fun hk24 => ?_)
  ·rintro ρ24 τ24 gs24 ⟨s24, g25, h, hl24, hρ, rfl, hI26⟩
   refine st_es hρ ?_
   refine ZZ 3 [0] rfl rfl ?_
   obtain ⟨y27, u28, hy29, h⟩ := h
   refine st_ord [1, 0] _ rfl ?_
   refine st_call (foot := [g25]) rfl rfl rfl rfl rfl rfl (hY s24.2 s24.1 _ _ _ _ _ (hle.trans hl24) hy29 rfl hI26) ?_
   rintro vτ30 τ30 gsτ30 hl31 ⟨rfl, g32, rfl, hI33⟩
   refine st_end ?_
   obtain rfl := Eq.symm h
   cases hr0
   exact st_fin (gs' := [g32, [(bc1, .cells #[.string s24.2] 9 (0, 0))]]) Tryz.func146 rfl (by simp) (hl24.trans hl31) ⟨g32, _, rfl, hI33, rfl⟩
  obtain ⟨e34, hL34, hA34⟩ := h
  refine st_ord [1, 0] _ rfl ?_
  refine st_loop hL34 (fun (s34 : S × ByteArray) ρ τ34 gs => σ.Le τ34 ∧ ∃ (g35 : Grp), ESub ρ [(0, y), (1, .pointer (some ⟨bc0, 0, none⟩)), (2, .pointer (some ⟨bc1, 0, none⟩)), (3, .pointer (some ⟨bc2, 0, none⟩))] ∧ gs = [[(bc1, .cells #[.string s34.2] 9 (0, 0))], g35] ∧ I s34.1 τ34 g35) ⟨Sto.Le.refl _, g, rfl, rfl, hIg⟩ ?_
  rintro s34 o34 h he34 ρ34 τ34 gs34 ⟨hl34, g35, hρ, rfl, hI36⟩ hn34
  refine st_es hρ ?_
  refine ZZ 4 [0] rfl rfl ?_
  refine o_loadI (v := .string c0) rfl rfl rfl z_sc9 rfl (Cel.up hc0_0 (hle.trans hl34)) ?_
  obtain ⟨r37, hr38, h⟩ := h
  refine st_call (foot := []) rfl rfl rfl rfl rfl rfl (callV_fn z_en148 (strings_Index_ok hr38 τ34)) ?_
  rintro vτ39 τ39 gsτ39 hl40 ⟨rfl, rfl⟩
  refine Z 8 rfl ?_
  refine st_if rfl h (fun h => ?_) (fun h => ?_)
  ·refine st_exit rfl ?_
   obtain rfl := he34 _ h
   replace h := hA34
   exact hk24 _ _ _ ⟨(s34.1, s34.2), g35, h, (hl34.trans hl40), rfl, rfl, (hIm _ _ _ _ hl40 hI36)⟩
  ·refine ZZ 5 [0] rfl rfl ?_
   refine o_loadI (v := .int .i64 c2) rfl rfl rfl z_sc3 rfl (Cel.up hc2_0 ((hle.trans hl34).trans hl40)) ?_
   refine o_ibin (v := .int .i64 (IntKind.i64.wrap (r37 + c2))) rfl rfl rfl rfl rfl rfl ?_
   obtain ⟨hf41, hf42, h⟩ := h
   refine o_sliceSh rfl rfl rfl Tryz.underlying9 rfl rfl hf41 hf42 ?_
   refine Z 7 rfl ?_
   obtain ⟨y43, u44, hy45, h⟩ := h
   refine st_ord [1, 0] _ rfl ?_
   refine st_call (foot := [g35]) rfl rfl rfl rfl rfl rfl (hY (s34.2.extract 0 (IntKind.i64.wrap (r37 + c2)).toNat) s34.1 _ _ _ _ _ (hle.trans (hl34.trans hl40)) hy45 rfl (hIm _ _ _ _ hl40 hI36)) ?_
   rintro vτ46 τ46 gsτ46 hl47 ⟨rfl, g48, rfl, hI49⟩
   refine Z 2 rfl ?_
   refine st_if rfl h (fun h => ?_) (fun h => ?_)
   ·obtain rfl := he34 _ h
    replace h := hA34
    obtain rfl := Eq.symm h
    cases hr0
    exact st_ret (gs' := [g48, [(bc1, .cells #[.string s34.2] 9 (0, 0))]]) Tryz.func146 rfl (by simp) ((hl34.trans hl40).trans hl47) ⟨g48, _, rfl, hI49, rfl⟩
   ·refine ZZ 4 [1] rfl rfl ?_
    refine o_loadI (v := .string c0) rfl rfl rfl z_sc9 rfl (Cel.up hc0_0 (((hle.trans hl34).trans hl40).trans hl47)) ?_
    refine Z 2 rfl ?_
    obtain ⟨hf50, hf51, h⟩ := h
    refine o_sliceSl rfl rfl rfl Tryz.underlying9 rfl rfl hf50 hf51 ?_
    refine ZZ 3 [1] rfl rfl ?_
    refine st_ord [1, 0] _ rfl ?_
    exact hn34 _ _ _ _ h ⟨((hl34.trans hl40).trans hl47), g48, rfl, rfl, hI49⟩
theorem strings_splitSeq_ok {a0 : ByteArray} {a1 : ByteArray} {a2 : Int} {r : ((ByteArray → (S : Type) → (ByteArray → S → Bool × S → Prop) → S → S × ByteArray → Prop)) × ByteArray} (h : strings_splitSeq a0 a1 a2 r) (σ : Sto)  :
    Does Tryz.prog 113 [.string a0, .string a1, .int .i64 a2] σ [] (fun v τ gs => ∃ (f11 : Nat) (q12 : Array Value) (b14 : Nat), gs = [[(b14, .cells [.string r.2].toArray 9 (0, 0))]] ∧ .func (.func f11) #[] q12 = v ∧ ∀ (x16 : ByteArray) (σ15 : Sto), τ.Le σ15 → IterV Tryz.prog (fun _ x vx => vx = [.string x]) (.func (.func f11) #[] q12) σ15 [(b14, .cells [.string x16].toArray 9 (0, 0))] (fun (o17 : ByteArray) υ f => f = [(b14, .cells [.string o17].toArray 9 (0, 0))]) (r.1 x16)) := by
 refine call_of Tryz.func113 Tryz.ntmps113 rfl rfl (fun cs fs => ?_)
 refine Z 2 rfl ?_
 refine o_boxC rfl rfl rfl rfl rfl rfl (fun b1 => ?_)
 refine o_boxC rfl rfl rfl rfl rfl rfl (fun b2 => ?_)
 refine o_boxC rfl rfl rfl rfl rfl rfl (fun b3 => ?_)
 refine Z 4 rfl ?_
 refine st_ord [1, 0, 0] _ rfl ?_
 refine st_freeze (fun τ4 hl5 hg6 => ?_)
 refine st_freeze (fun τ7 hl8 hg9 => ?_)
 refine Z 3 rfl ?_
 obtain rfl := Eq.symm h
 exact st_ret (gs' := [[(b1, .cells #[.string a0] 9 (0, 0))]]) Tryz.func113 rfl (List.Sublist.refl _) (hl5.trans hl8) ⟨_, _, _, rfl, rfl, (fun _ _ hl  => strings_splitSeq_1_ok ((Cel.up (cel_of hg6 rfl) hl8).up hl) ((cel_of hg9 rfl).up hl))⟩
theorem strings_SplitSeq_ok {a0 : ByteArray} {a1 : ByteArray} {r : ((ByteArray → (S : Type) → (ByteArray → S → Bool × S → Prop) → S → S × ByteArray → Prop)) × ByteArray} (h : strings_SplitSeq a0 a1 r) (σ : Sto)  :
    Does Tryz.prog 76 [.string a0, .string a1] σ [] (fun v τ gs => ∃ (f13 : Nat) (q14 : Array Value) (b16 : Nat), gs = [[(b16, .cells [.string r.2].toArray 9 (0, 0))]] ∧ .func (.func f13) #[] q14 = v ∧ ∀ (x18 : ByteArray) (σ17 : Sto), τ.Le σ17 → IterV Tryz.prog (fun _ x vx => vx = [.string x]) (.func (.func f13) #[] q14) σ17 [(b16, .cells [.string x18].toArray 9 (0, 0))] (fun (o19 : ByteArray) υ f => f = [(b16, .cells [.string o19].toArray 9 (0, 0))]) (r.1 x18)) := by
 refine call_of Tryz.func76 Tryz.ntmps76 rfl rfl (fun cs fs => ?_)
 refine Z 8 rfl ?_
 obtain ⟨r1, hr2, h⟩ := h
 refine st_call (foot := []) rfl rfl rfl rfl rfl rfl (callV_fn z_en113 (strings_splitSeq_ok hr2 σ)) ?_
 rintro vτ3 τ3 gsτ3 hl4 ⟨f5, q6, b8, rfl, rfl, hit7⟩
 refine Z 2 rfl ?_
 obtain rfl := Eq.symm h
 exact st_ret (gs' := [[(b8, .cells #[.string r1.2] 9 (0, 0))]]) Tryz.func76 rfl (List.Sublist.refl _) hl4 ⟨_, _, _, rfl, rfl, (fun x0_ σ9 hl9 => hit7 x0_ σ9 ((Sto.Le.refl _).trans hl9))⟩
theorem say_Words_1_ok {c0 : ByteArray} {bc0 : Nat} {σ0 : Sto} (hc0_0 : Cel σ0 ⟨bc0, 0, none⟩ (.string c0)) :
    IterV Tryz.prog (fun _ x vx => vx = [.int .i64 x.1, .string x.2]) (.func (.func 75) #[] [.pointer (some ⟨bc0, 0, none⟩)].toArray) σ0 [] (fun (_ : Unit) _ f => f = []) (say_Words_1 c0) := by
 intro S Y I y hyc hyo hIm hY s s' o hR σ g hle hIg
 obtain ⟨r, hr0⟩ : ∃ r, r = (s', o) := ⟨_, rfl⟩
 rw [← hr0] at hR
 have h := hR
 refine callV_of (caps := [.pointer (some ⟨bc0, 0, none⟩)]) z_en75 ?_
 refine call_of Tryz.func75 Tryz.ntmps75 rfl rfl (fun cs fs => ?_)
 refine st_ord [0] _ rfl ?_
 refine Z 2 rfl ?_
 refine o_box (cs := [y]) rfl rfl rfl rfl hyc (fun b1 => ?_)
 refine Z 3 rfl ?_
 refine o_alloc rfl rfl rfl z_zero3 (fun b2 => ?_)
 refine ZZ 4 [0] rfl rfl ?_
 refine o_loadI (v := .string c0) rfl rfl rfl z_sc9 rfl (Cel.up hc0_0 hle) ?_
 obtain ⟨r3, hr4, h⟩ := h
 refine st_call (foot := []) rfl rfl rfl rfl (evs_cons rfl (evs_cons (ev_str z_str25) rfl)) rfl (callV_fn z_en76 (strings_SplitSeq_ok hr4 σ)) ?_
 rintro vτ5 τ5 gsτ5 hl6 ⟨f7, q8, b10, rfl, rfl, hit9⟩
 refine Z 2 rfl ?_
 obtain ⟨t14, w14, hR14, hA14⟩ := h
 refine st_env (ρ' := [(2, .pointer (some ⟨b1, 0, none⟩)), (3, .pointer (some ⟨b2, 0, none⟩)), (6, .func (.func f7) #[] q8)]) ⟨rfl, rfl, rfl, trivial⟩ ?_
 refine st_ord [0, 1, 0, 0] _ rfl ?_
 refine st_range (B := say_Words_1_l1 S Y) (s0 := (s, 0)) ranges_fctx rfl (hit9 r3.2 τ5 (Sto.Le.refl _)) (Sto.Le.refl _) hR14 rfl (fun _ _ _ h => by cases h; rfl) (fun (s14 : S × Int) τ14 gs => τ5.Le τ14 ∧ ∃ (g15 : Grp), gs = [[(b1, .cells #[y] 155 (0, 0))], [(b2, .cells #[.int .i64 s14.2] 3 (0, 0))], g15] ∧ I s14.1 τ14 g15) (fun (p24 : S × Int) cd τ25 gs => cd = .ret ∧ τ5.Le τ25 ∧ ∃ (g27 : Grp), gs = [[(b1, .cells #[y] 155 (0, 0))], [(b2, .cells #[.int .i64 p24.2] 3 (0, 0))], g27] ∧ I p24.1 τ25 g27) (fun _ _ _ _ hl ⟨hb, g15, hg, hI16⟩ => ⟨hb.trans hl, g15, hg, hIm _ _ _ _ hl hI16⟩) (fun _ _ _ _ _ hl ⟨hc, hb, g27, hg, hI28⟩ => ⟨hc, hb.trans hl, g27, hg, hIm _ _ _ _ hl hI28⟩) ⟨Sto.Le.refl _, g, rfl, (hIm _ _ _ _ hl6 hIg)⟩ ?_ ?_ ?_
 ·rintro x14 s14 o14 τ14 gs14 vx14 hl14 h rfl ⟨hb14, g15, rfl, hI16⟩ l14 rc14 caller14 cs14 fs14
  refine Z 3 rfl ?_
  refine st_begin ?_
  refine ZZ 7 [0, 1] rfl rfl ?_
  obtain ⟨y17, u18, hy19, h⟩ := h
  refine st_ord [2, 0, 0] _ rfl ?_
  refine st_call (foot := [g15]) rfl rfl rfl rfl rfl rfl (hY (s14.2, x14) s14.1 _ _ _ _ _ (hle.trans (hl6.trans hl14)) hy19 rfl hI16) ?_
  rintro vτ20 τ20 gsτ20 hl21 ⟨rfl, g22, rfl, hI23⟩
  refine Z 2 rfl ?_
  refine st_if rfl h (fun h => ?_) (fun h => ?_)
  ·refine st_ord [1, 1, 0] _ rfl ?_
   exact st_rret (List.Sublist.refl _) hl21 ⟨_, h, rfl, (hl14.trans hl21), g22, rfl, hI23⟩
  ·refine ZZ 10 [2, 2] rfl rfl ?_
   refine st_ord [1, 1, 0] _ rfl ?_
   exact st_rend (List.Sublist.refl _) hl21 ⟨_, h, (hl14.trans hl21), g22, rfl, hI23⟩
 ·rintro p30 τ31 gs14 f14 ht hl32 ⟨hb, g33, rfl, hI34⟩ rfl
  subst ht
  replace h := hA14
  refine st_gs [[(b10, .cells #[.string w14] 9 (0, 0))], [(b1, .cells #[y] 155 (0, 0))], [(b2, .cells #[.int .i64 p30.2] 3 (0, 0))], g33] rfl ?_
  refine st_inBlock ?_
  refine st_ord [3] _ rfl ?_
  obtain rfl := Eq.symm h
  cases hr0
  exact st_fin (gs' := [g33, []]) Tryz.func75 rfl (by simp) (hl6.trans hl32) ⟨g33, _, rfl, hI34, rfl⟩
 ·rintro p24 cd14 τ25 gs14 f14 ht hl26 ⟨rfl, hb, g27, rfl, hI28⟩ rfl
  subst ht
  replace h := hA14
  refine st_gs [[(b10, .cells #[.string w14] 9 (0, 0))], [(b1, .cells #[y] 155 (0, 0))], [(b2, .cells #[.int .i64 p24.2] 3 (0, 0))], g27] rfl ?_
  refine st_ord [3] _ rfl ?_
  obtain rfl := Eq.symm h
  cases hr0
  exact st_ret (gs' := [g27, []]) Tryz.func75 rfl (by simp) (hl6.trans hl26) ⟨g27, _, rfl, hI28, rfl⟩
theorem say_Words_ok {a0 : ByteArray} {r : (((S : Type) → ((Int × ByteArray) → S → Bool × S → Prop) → S → S × Unit → Prop))} (h : say_Words a0 r) (σ : Sto)  :
    Does Tryz.prog 41 [.string a0] σ [] (fun v τ gs => ∃ (f5 : Nat) (q6 : Array Value), gs = [] ∧ .func (.func f5) #[] q6 = v ∧ IterV Tryz.prog (fun _ x vx => vx = [.int .i64 x.1, .string x.2]) (.func (.func f5) #[] q6) τ [] (fun (_ : Unit) _ f => f = []) r) := by
 refine call_of Tryz.func41 Tryz.ntmps41 rfl rfl (fun cs fs => ?_)
 refine Z 2 rfl ?_
 refine o_boxC rfl rfl rfl rfl rfl rfl (fun b1 => ?_)
 refine Z 4 rfl ?_
 refine st_freeze (fun τ2 hl3 hg4 => ?_)
 refine Z 3 rfl ?_
 obtain rfl := Eq.symm h
 exact st_ret (gs' := []) Tryz.func41 rfl (List.Sublist.refl _) hl3 ⟨_, _, rfl, rfl, (say_Words_1_ok (cel_of hg4 rfl))⟩
theorem say_Parse_1_ok {c0 : List ByteArray} {bc0 : Nat} {v1 : Value} {r : ByteArray × Bool × List ByteArray} (h : say_Parse_1 c0 r) (σ : Sto) (hs2 : Sl kS σ v1 c0) :
    Does Tryz.prog 42 [.pointer (some ⟨bc0, 0, none⟩)] σ [[(bc0, .cells [v1].toArray 106 (0, 0))]] (fun v τ gs => ∃ (v12 : Value), gs = [[(bc0, .cells [v12].toArray 106 (0, 0))]] ∧ .tuple [.string r.1, .bool r.2.1].toArray = v ∧ Sl kS τ v12 r.2.2) := by
 refine call_of Tryz.func42 Tryz.ntmps42 rfl rfl (fun cs fs => ?_)
 refine Z 2 rfl ?_
 refine o_assign rfl rfl rfl (ev_str z_str0) ?_
 refine ZZ 6 [0] rfl rfl ?_
 refine o_lenI rfl rfl rfl z_slT106 rfl hs2 ?_
 refine Z 2 rfl ?_
 refine st_if rfl h (fun h => ?_) (fun h => ?_)
 ·refine Z 2 rfl ?_
  refine o_assign rfl rfl rfl (ev_str z_str0) ?_
  refine Z 2 rfl ?_
  obtain rfl := Eq.symm h
  exact st_ret (gs' := [[(bc0, .cells #[v1] 106 (0, 0))]]) Tryz.func42 rfl (List.Sublist.refl _) (Sto.Le.refl _) ⟨_, rfl, rfl, hs2⟩
 ·refine ZZ 4 [0] rfl rfl ?_
  obtain ⟨q3, hf4, h⟩ := h
  refine o_index rfl rfl rfl z_slT106 rfl rfl hs2 rfl hf4 (fun b5 of6 vs hc7 hrep => ?_)
  obtain rfl := hrep
  refine o_loadI (v := .string q3) rfl rfl rfl z_sc9 rfl (hc7 0 _ rfl) ?_
  refine ZZ 5 [0] rfl rfl ?_
  obtain ⟨hf8, hf9, h⟩ := h
  refine o_slice (L := 1) (H := (c0.length : Int)) rfl rfl rfl z_slT106 rfl rfl hs2 ⟨_, rfl⟩ rfl (by decide) hf8 hf9 trivial (by simp) (fun v10 hs11 => ?_)
  refine o_store (j := 0) (vs := [v10]) (cs' := [v10]) rfl rfl rfl z_size106 rfl rfl (oneL_sl hs11) (ones_cons hs11.one' ones_nil) rfl rfl rfl ?_
  refine st_gs [[(bc0, .cells #[v10] 106 (0, 0))]] rfl ?_
  refine Z 7 rfl ?_
  obtain rfl := Eq.symm h
  exact st_ret (gs' := [[(bc0, .cells #[v10] 106 (0, 0))]]) Tryz.func42 rfl (List.Sublist.refl _) (Sto.Le.refl _) ⟨_, rfl, rfl, hs11⟩
theorem field_Kinds_1_ok  {σ0 : Sto}  :
    IterV Tryz.prog (fun _ x vx => vx = [.int .i64 x.1, .string x.2]) (.func (.func 114) #[] [].toArray) σ0 [] (fun (_ : Unit) _ f => f = []) (field_Kinds_1) := by
 intro S Y I y hyc hyo hIm hY s s' o hR σ g hle hIg
 obtain ⟨r, hr0⟩ : ∃ r, r = (s', o) := ⟨_, rfl⟩
 rw [← hr0] at hR
 have h := hR
 refine callV_of (caps := []) z_en114 ?_
 refine call_of Tryz.func114 Tryz.ntmps114 rfl rfl (fun cs fs => ?_)
 refine st_ord [0] _ rfl ?_
 refine Z 4 rfl ?_
 obtain ⟨e1, hL1, hA1⟩ := h
 refine st_loop hL1 (fun (s1 : S × Int) ρ τ1 gs => σ.Le τ1 ∧ ∃ (g2 : Grp), ESub ρ [(0, y), (2, .int .i64 s1.2)] ∧ gs = [g2] ∧ I s1.1 τ1 g2) ⟨Sto.Le.refl _, g, rfl, rfl, hIg⟩ ?_
 rintro s1 o1 h he1 ρ1 τ1 gs1 ⟨hl1, g2, hρ, rfl, hI3⟩ hn1
 refine st_es hρ ?_
 refine Z 6 rfl ?_
 refine st_if rfl h (fun h => ?_) (fun h => ?_)
 ·refine Z 8 rfl ?_
  obtain ⟨r4, hr5, h⟩ := h
  refine st_call (foot := []) rfl rfl rfl rfl rfl rfl (callV_fn z_en33 (field_Word_ok hr5 τ1)) ?_
  rintro vτ6 τ6 gsτ6 hl7 ⟨rfl, rfl⟩
  obtain ⟨y8, u9, hy10, h⟩ := h
  refine st_call (foot := [g2]) rfl rfl rfl rfl rfl rfl (hY (s1.2, r4) s1.1 _ _ _ _ _ (hle.trans (hl1.trans hl7)) hy10 rfl (hIm _ _ _ _ hl7 hI3)) ?_
  rintro vτ11 τ11 gsτ11 hl12 ⟨rfl, g13, rfl, hI14⟩
  refine Z 2 rfl ?_
  refine st_if rfl h (fun h => ?_) (fun h => ?_)
  ·obtain rfl := he1 _ h
   replace h := hA1
   obtain rfl := Eq.symm h
   cases hr0
   exact st_ret (gs' := [g13, []]) Tryz.func114 rfl (by simp) ((hl1.trans hl7).trans hl12) ⟨g13, _, rfl, hI14, rfl⟩
  ·refine Z 7 rfl ?_
   exact hn1 _ _ _ _ h ⟨((hl1.trans hl7).trans hl12), g13, rfl, rfl, hI14⟩
 ·refine st_exit rfl ?_
  obtain rfl := he1 _ h
  replace h := hA1
  obtain rfl := Eq.symm h
  cases hr0
  exact st_fin (gs' := [g2, []]) Tryz.func114 rfl (by simp) hl1 ⟨g2, _, rfl, hI3, rfl⟩
theorem field_Kinds_ok  {r : (((S : Type) → ((Int × ByteArray) → S → Bool × S → Prop) → S → S × Unit → Prop))} (h : field_Kinds r) (σ : Sto)  :
    Does Tryz.prog 77 [] σ [] (fun v τ gs => ∃ (f1 : Nat) (q2 : Array Value), gs = [] ∧ .func (.func f1) #[] q2 = v ∧ IterV Tryz.prog (fun _ x vx => vx = [.int .i64 x.1, .string x.2]) (.func (.func f1) #[] q2) τ [] (fun (_ : Unit) _ f => f = []) r) := by
 refine call_of Tryz.func77 Tryz.ntmps77 rfl rfl (fun cs fs => ?_)
 refine Z 8 rfl ?_
 obtain rfl := Eq.symm h
 exact st_ret (gs' := []) Tryz.func77 rfl (List.Sublist.refl _) (Sto.Le.refl _) ⟨_, _, rfl, rfl, (field_Kinds_1_ok )⟩
theorem field_Kind_ok {a0 : ByteArray} {r : Int} (h : field_Kind a0 r) (σ : Sto)  :
    Does Tryz.prog 43 [.string a0] σ [] (fun v τ gs => gs = [] ∧ .int .i64 r = v) := by
 refine call_of Tryz.func43 Tryz.ntmps43 rfl rfl (fun cs fs => ?_)
 refine Z 2 rfl ?_
 refine o_boxC rfl rfl rfl rfl rfl rfl (fun b1 => ?_)
 refine o_alloc rfl rfl rfl z_zero3 (fun b2 => ?_)
 refine Z 4 rfl ?_
 obtain ⟨r3, hr4, h⟩ := h
 refine st_call (foot := []) rfl rfl rfl rfl rfl rfl (callV_fn z_en77 (field_Kinds_ok hr4 σ)) ?_
 rintro vτ5 τ5 gsτ5 hl6 ⟨f7, q8, rfl, rfl, hit9⟩
 refine Z 2 rfl ?_
 obtain ⟨t10, w10, hR10, hA10⟩ := h
 refine st_env (ρ' := [(1, .pointer (some ⟨b1, 0, none⟩)), (2, .pointer (some ⟨b2, 0, none⟩)), (5, .func (.func f7) #[] q8)]) ⟨rfl, rfl, rfl, trivial⟩ ?_
 refine st_ord [1, 0] _ rfl ?_
 refine st_addNil ?_
 refine st_range (B := field_Kind_l1 a0) (s0 := ()) ranges_fctx rfl hit9 (Sto.Le.refl _) hR10 rfl (fun _ _ _ h => by cases h; rfl) (fun (s10 : Unit) τ10 gs => τ5.Le τ10 ∧ gs = [[(b1, .cells #[.string a0] 9 (0, 0))], [(b2, .cells #[.int .i64 0] 3 (0, 0))]]) (fun (p11 : Int) cd τ12 gs => cd = .ret ∧ τ5.Le τ12 ∧ gs = [[(b1, .cells #[.string a0] 9 (0, 0))], [(b2, .cells #[.int .i64 p11] 3 (0, 0))]]) (fun _ _ _ _ hl ⟨hb, hg⟩ => ⟨hb.trans hl, hg⟩) (fun _ _ _ _ _ hl ⟨hc, hb, hg⟩ => ⟨hc, hb.trans hl, hg⟩) ⟨Sto.Le.refl _, rfl⟩ ?_ ?_ ?_
 ·rintro x10 s10 o10 τ10 gs10 vx10 hl10 h rfl ⟨hb10, rfl⟩ l10 rc10 caller10 cs10 fs10
  refine Z 7 rfl ?_
  refine st_begin ?_
  refine ZZ 7 [0] rfl rfl ?_
  refine st_if rfl h (fun h => ?_) (fun h => ?_)
  ·refine ZZ 5 [1] rfl rfl ?_
   exact st_rret (List.Sublist.refl _) (Sto.Le.refl _) ⟨_, h, rfl, hl10, rfl⟩
  ·refine Z 2 rfl ?_
   exact st_rend (List.Sublist.refl _) (Sto.Le.refl _) ⟨_, h, hl10, rfl⟩
 ·rintro p14 τ15 gs10 f10 ht hl16 ⟨hb, rfl⟩ rfl
  subst ht
  replace h := hA10
  refine st_ord [1, 1] _ rfl ?_
  refine ZZ 5 [1] rfl rfl ?_
  obtain rfl := Eq.symm h
  exact st_retC (gs' := []) [.int .i64 0] Tryz.func43 ⟨⟨_, _, _, _, rfl, mem_flat 1 rfl, fun w hw => cellOf z_sc3 rfl w hw⟩, trivial⟩ (by simp) (hl6.trans hl16) ⟨rfl, rfl⟩
 ·rintro p11 cd10 τ12 gs10 f10 ht hl13 ⟨rfl, hb, rfl⟩ rfl
  subst ht
  replace h := hA10
  refine st_ord [1, 1] _ rfl ?_
  obtain rfl := Eq.symm h
  exact st_retC (gs' := []) [.int .i64 p11] Tryz.func43 ⟨⟨_, _, _, _, rfl, mem_flat 1 rfl, fun w hw => cellOf z_sc3 rfl w hw⟩, trivial⟩ (by simp) (hl6.trans hl13) ⟨rfl, rfl⟩
theorem internal_stringslite_Index_ok {a0 : ByteArray} {a1 : ByteArray} {r : Int} (h : internal_stringslite_Index a0 a1 r) (σ : Sto) :
    Does Tryz.prog 171 [.string a0, .string a1] σ [] (fun v τ gs => gs = [] ∧ .int .i64 r = v) := by
 obtain ⟨c, hc, rfl⟩ := h
 exact index_does Tryz.stringslite_Index_one hc
theorem internal_stringslite_Cut_ok {a0 : ByteArray} {a1 : ByteArray} {r : ByteArray × ByteArray × Bool} (h : internal_stringslite_Cut a0 a1 r) (σ : Sto)  :
    Does Tryz.prog 149 [.string a0, .string a1] σ [] (fun v τ gs => gs = [] ∧ .tuple [.string r.1, .string r.2.1, .bool r.2.2].toArray = v) := by
 refine call_of Tryz.func149 Tryz.ntmps149 rfl rfl (fun cs fs => ?_)
 refine Z 2 rfl ?_
 refine o_assign rfl rfl rfl (ev_str z_str0) ?_
 refine o_assign rfl rfl rfl (ev_str z_str0) ?_
 refine Z 7 rfl ?_
 obtain ⟨r1, hr2, h⟩ := h
 refine st_call (foot := []) rfl rfl rfl rfl rfl rfl (callV_fn z_en171 (internal_stringslite_Index_ok hr2 σ)) ?_
 rintro vτ3 τ3 gsτ3 hl4 ⟨rfl, rfl⟩
 refine Z 7 rfl ?_
 refine st_if rfl h (fun h => ?_) (fun h => ?_)
 ·refine st_seq ?_
  obtain ⟨hf5, hf6, hf7, hf8, h⟩ := h
  refine st_draw 10 (dl [.v (.string a0), .v (.int .i64 r1), .v (.string (a0.extract 0 r1.toNat)), .v (.string a0), .v (.int .i64 r1), .v (.string a1), .v (.int .i64 (a1.size : Int)), .v (.int .i64 (IntKind.i64.wrap (r1 + (a1.size : Int)))), .v (.string (a0.extract (IntKind.i64.wrap (r1 + (a1.size : Int))).toNat a0.size)), .v (.string (a0.extract 0 r1.toNat))]) (fun _ _ => []) z_mix rfl (dl_mono trivial) (allB_cons (allB_cons (allB_cons (allB_cons (allB_cons (allB_cons (allB_cons (allB_cons (allB_cons (allB_cons allB_nil (p1 dA)) (p1 dA)) ?_) (p1 dA)) (p1 dA)) (p1 dA)) (p1 dA)) (p1 dA)) ?_) (p1 dA)) ?_
  ·intro ρ' τ pool rs hl hd hout hk
   obtain ⟨_, e0, rfl⟩ := hd 0 rfl
   obtain ⟨_, e1, rfl⟩ := hd 1 rfl
   refine o_sliceSh rfl rfl rfl Tryz.underlying9 e0 e1 hf5 hf6 ?_
   exact st_addNil (hk _ _ (Sto.Le.refl _) rfl)
  ·intro ρ' τ pool rs hl hd hout hk
   obtain ⟨_, e3, rfl⟩ := hd 3 rfl
   obtain ⟨_, e7, rfl⟩ := hd 7 rfl
   refine o_sliceSl rfl rfl rfl Tryz.underlying9 e3 e7 hf7 hf8 ?_
   exact st_addNil (hk _ _ (Sto.Le.refl _) rfl)
  intro ρ' τ9 vals hl9 hv hout
  refine st_ord [] _ rfl ?_
  refine st_env (ρ' := [(21, .string (a0.extract (IntKind.i64.wrap (r1 + (a1.size : Int))).toNat a0.size)), (4, .string (a0.extract 0 r1.toNat)), (0, .string a0), (5, .string (bstr [])), (6, .bool false)]) ⟨(lv1 hv 8 rfl rfl), (lv1 hv 9 rfl rfl), (hout 0 rfl).trans rfl, (hout 5 rfl).trans rfl, (hout 6 rfl).trans rfl, trivial⟩ ?_
  refine Z 3 rfl ?_
  obtain rfl := Eq.symm h
  exact st_ret (gs' := []) Tryz.func149 rfl (List.Sublist.refl _) (hl4.trans hl9) ⟨rfl, rfl⟩
 ·refine Z 5 rfl ?_
  refine o_assign rfl rfl rfl (ev_str z_str0) ?_
  refine Z 2 rfl ?_
  obtain rfl := Eq.symm h
  exact st_ret (gs' := []) Tryz.func149 rfl (List.Sublist.refl _) hl4 ⟨rfl, rfl⟩
theorem strings_Cut_ok {a0 : ByteArray} {a1 : ByteArray} {r : ByteArray × ByteArray × Bool} (h : strings_Cut a0 a1 r) (σ : Sto)  :
    Does Tryz.prog 115 [.string a0, .string a1] σ [] (fun v τ gs => gs = [] ∧ .tuple [.string r.1, .string r.2.1, .bool r.2.2].toArray = v) := by
 refine call_of Tryz.func115 Tryz.ntmps115 rfl rfl (fun cs fs => ?_)
 refine Z 2 rfl ?_
 refine o_assign rfl rfl rfl (ev_str z_str0) ?_
 refine o_assign rfl rfl rfl (ev_str z_str0) ?_
 refine Z 6 rfl ?_
 obtain ⟨r1, hr2, h⟩ := h
 refine st_call (foot := []) rfl rfl rfl rfl rfl rfl (callV_fn z_en149 (internal_stringslite_Cut_ok hr2 σ)) ?_
 rintro vτ3 τ3 gsτ3 hl4 ⟨rfl, rfl⟩
 refine Z 7 rfl ?_
 obtain rfl := Eq.symm h
 exact st_ret (gs' := []) Tryz.func115 rfl (List.Sublist.refl _) hl4 ⟨rfl, rfl⟩
theorem strings_Contains_ok {a0 : ByteArray} {a1 : ByteArray} {r : Bool} (h : strings_Contains a0 a1 r) (σ : Sto)  :
    Does Tryz.prog 116 [.string a0, .string a1] σ [] (fun v τ gs => gs = [] ∧ .bool r = v) := by
 refine call_of Tryz.func116 Tryz.ntmps116 rfl rfl (fun cs fs => ?_)
 refine Z 8 rfl ?_
 obtain ⟨r1, hr2, h⟩ := h
 refine st_call (foot := []) rfl rfl rfl rfl rfl rfl (callV_fn z_en148 (strings_Index_ok hr2 σ)) ?_
 rintro vτ3 τ3 gsτ3 hl4 ⟨rfl, rfl⟩
 refine Z 3 rfl ?_
 obtain rfl := Eq.symm h
 exact st_ret (gs' := []) Tryz.func116 rfl (List.Sublist.refl _) hl4 ⟨rfl, rfl⟩
theorem strconv_ParseInt_ok {a0 : ByteArray} {a1 : Int} {a2 : Int} {r : Int × Bool} (h : strconv_ParseInt a0 a1 a2 r) (σ : Sto) (hE : Errs Tryz.prog σ) :
    Does Tryz.prog 106 [.string a0, .int .i64 a1, .int .i64 a2] σ [] (fun v τ gs => ∃ (v1 : Value), gs = [] ∧ .tuple [.int .i64 r.1, v1].toArray = v ∧ IfB v1 r.2) := by
 obtain ⟨rfl, rfl, hs, rfl⟩ := h
 exact parse_does Tryz.strconv_ParseInt_10_at64_ok Tryz.strconv_ParseInt_10_at64_syntax_var Tryz.strconv_ParseInt_10_at64_range_var hE hs
theorem internal_stringslite_HasPrefix_ok {a0 : ByteArray} {a1 : ByteArray} {r : Bool} (h : internal_stringslite_HasPrefix a0 a1 r) (σ : Sto)  :
    Does Tryz.prog 163 [.string a0, .string a1] σ [] (fun v τ gs => gs = [] ∧ .bool r = v) := by
 refine call_of Tryz.func163 Tryz.ntmps163 rfl rfl (fun cs fs => ?_)
 refine Z 5 rfl ?_
 refine st_cut (fun ρ τ1 gs => ∃ (s1 : Bool), internal_stringslite_HasPrefix_j1 s1 r ∧ σ.Le τ1 ∧ ESub ρ [(4, .bool s1)] ∧ gs = []) ?_ (fun hk1 => ?_)
 ·rintro ρ1 τ1 gs1 ⟨s1, h, hl1, hρ, rfl⟩
  refine st_es hρ ?_
  obtain rfl := Eq.symm h
  exact st_ret (gs' := []) Tryz.func163 rfl (List.Sublist.refl _) hl1 ⟨rfl, rfl⟩
 refine Z 6 rfl ?_
 refine o_mif rfl rfl rfl rfl h (fun h => ?_) (fun h => ?_)
 ·refine Z 3 rfl ?_
  obtain ⟨hf2, hf3, h⟩ := h
  refine o_sliceSh rfl rfl rfl Tryz.underlying9 rfl rfl hf2 hf3 ?_
  refine Z 5 rfl ?_
  exact hk1 _ _ _ ⟨(decide ((a0.extract 0 (a1.size : Int).toNat) = a1)), h, (Sto.Le.refl _), rfl, rfl⟩
 ·refine Z 9 rfl ?_
  exact hk1 _ _ _ ⟨false, h, (Sto.Le.refl _), rfl, rfl⟩
theorem internal_stringslite_TrimPrefix_ok {a0 : ByteArray} {a1 : ByteArray} {r : ByteArray} (h : internal_stringslite_TrimPrefix a0 a1 r) (σ : Sto)  :
    Does Tryz.prog 135 [.string a0, .string a1] σ [] (fun v τ gs => gs = [] ∧ .string r = v) := by
 refine call_of Tryz.func135 Tryz.ntmps135 rfl rfl (fun cs fs => ?_)
 refine Z 2 rfl ?_
 refine o_assign rfl rfl rfl (ev_str z_str0) ?_
 refine Z 6 rfl ?_
 obtain ⟨r1, hr2, h⟩ := h
 refine st_call (foot := []) rfl rfl rfl rfl rfl rfl (callV_fn z_en163 (internal_stringslite_HasPrefix_ok hr2 σ)) ?_
 rintro vτ3 τ3 gsτ3 hl4 ⟨rfl, rfl⟩
 refine st_end ?_
 refine st_if rfl h (fun h => ?_) (fun h => ?_)
 ·refine Z 5 rfl ?_
  obtain ⟨hf5, hf6, h⟩ := h
  refine o_sliceSl rfl rfl rfl Tryz.underlying9 rfl rfl hf5 hf6 ?_
  refine Z 2 rfl ?_
  obtain rfl := Eq.symm h
  exact st_ret (gs' := []) Tryz.func135 rfl (List.Sublist.refl _) hl4 ⟨rfl, rfl⟩
 ·refine Z 6 rfl ?_
  obtain rfl := Eq.symm h
  exact st_ret (gs' := []) Tryz.func135 rfl (List.Sublist.refl _) hl4 ⟨rfl, rfl⟩
theorem strings_TrimPrefix_ok {a0 : ByteArray} {a1 : ByteArray} {r : ByteArray} (h : strings_TrimPrefix a0 a1 r) (σ : Sto)  :
    Does Tryz.prog 107 [.string a0, .string a1] σ [] (fun v τ gs => gs = [] ∧ .string r = v) := by
 refine call_of Tryz.func107 Tryz.ntmps107 rfl rfl (fun cs fs => ?_)
 refine Z 2 rfl ?_
 refine o_assign rfl rfl rfl (ev_str z_str0) ?_
 refine Z 5 rfl ?_
 obtain ⟨r1, hr2, h⟩ := h
 refine st_call (foot := []) rfl rfl rfl rfl rfl rfl (callV_fn z_en135 (internal_stringslite_TrimPrefix_ok hr2 σ)) ?_
 rintro vτ3 τ3 gsτ3 hl4 ⟨rfl, rfl⟩
 refine Z 2 rfl ?_
 obtain rfl := Eq.symm h
 exact st_ret (gs' := []) Tryz.func107 rfl (List.Sublist.refl _) hl4 ⟨rfl, rfl⟩
theorem strings_trimRightByte_ok {a0 : ByteArray} {a1 : Int} {r : ByteArray} (h : strings_trimRightByte a0 a1 r) (σ : Sto)  :
    Does Tryz.prog 137 [.string a0, .int .u8 a1] σ [] (fun v τ gs => gs = [] ∧ .string r = v) := by
 refine call_of Tryz.func137 Tryz.ntmps137 rfl rfl (fun cs fs => ?_)
 refine Z 2 rfl ?_
 refine o_assign rfl rfl rfl (ev_str z_str0) ?_
 refine Z 2 rfl ?_
 refine st_cut (fun ρ τ1 gs => ∃ (s1 : ByteArray), strings_trimRightByte_j1 s1 r ∧ σ.Le τ1 ∧ ESub ρ [(0, .string s1), (4, .string (bstr []))] ∧ gs = []) ?_ (fun hk1 => ?_)
 ·rintro ρ1 τ1 gs1 ⟨s1, h, hl1, hρ, rfl⟩
  refine st_es hρ ?_
  refine Z 5 rfl ?_
  obtain rfl := Eq.symm h
  exact st_ret (gs' := []) Tryz.func137 rfl (List.Sublist.refl _) hl1 ⟨rfl, rfl⟩
 obtain ⟨e2, hL2, hA2⟩ := h
 refine st_loop hL2 (fun (s2 : ByteArray) ρ τ2 gs => σ.Le τ2 ∧ ESub ρ [(0, .string s2), (1, .int .u8 a1), (4, .string (bstr []))] ∧ gs = []) ⟨Sto.Le.refl _, rfl, rfl⟩ ?_
 rintro s2 o2 h he2 ρ2 τ2 gs2 ⟨hl2, hρ, rfl⟩ hn2
 refine st_es hρ ?_
 refine Z 2 rfl ?_
 refine st_cut (fun ρ τ3 gs => ∃ (s3 : Bool), strings_trimRightByte_j3 s2 s3 o2 ∧ τ2.Le τ3 ∧ ESub ρ [(0, .string s2), (1, .int .u8 a1), (4, .string (bstr [])), (16, .bool s3)] ∧ gs = []) ?_ (fun hk3 => ?_)
 ·rintro ρ3 τ3 gs3 ⟨s3, h, hl3, hρ, rfl⟩
  refine st_es hρ ?_
  refine st_if rfl h (fun h => ?_) (fun h => ?_)
  ·refine Z 7 rfl ?_
   obtain ⟨hf4, hf5, h⟩ := h
   refine o_sliceSh rfl rfl rfl Tryz.underlying9 rfl rfl hf4 hf5 ?_
   refine Z 3 rfl ?_
   exact hn2 _ _ _ _ h ⟨(hl2.trans hl3), rfl, rfl⟩
  ·refine st_exit rfl ?_
   obtain rfl := he2 _ h
   replace h := hA2
   exact hk1 _ _ _ ⟨s2, h, (hl2.trans hl3), rfl, rfl⟩
 refine Z 4 rfl ?_
 refine o_mif rfl rfl rfl rfl h (fun h => ?_) (fun h => ?_)
 ·refine Z 4 rfl ?_
  obtain ⟨q6, hf7, h⟩ := h
  refine o_indexS rfl rfl rfl Tryz.underlying9 rfl rfl hf7 ?_
  refine Z 4 rfl ?_
  exact hk3 _ _ _ ⟨(decide (q6 = a1)), h, (Sto.Le.refl _), rfl, rfl⟩
 ·refine Z 9 rfl ?_
  exact hk3 _ _ _ ⟨false, h, (Sto.Le.refl _), rfl, rfl⟩
theorem strings_trimLeftByte_ok {a0 : ByteArray} {a1 : Int} {r : ByteArray} (h : strings_trimLeftByte a0 a1 r) (σ : Sto)  :
    Does Tryz.prog 136 [.string a0, .int .u8 a1] σ [] (fun v τ gs => gs = [] ∧ .string r = v) := by
 refine call_of Tryz.func136 Tryz.ntmps136 rfl rfl (fun cs fs => ?_)
 refine Z 2 rfl ?_
 refine o_assign rfl rfl rfl (ev_str z_str0) ?_
 refine Z 2 rfl ?_
 refine st_cut (fun ρ τ1 gs => ∃ (s1 : ByteArray), strings_trimLeftByte_j1 s1 r ∧ σ.Le τ1 ∧ ESub ρ [(0, .string s1), (4, .string (bstr []))] ∧ gs = []) ?_ (fun hk1 => ?_)
 ·rintro ρ1 τ1 gs1 ⟨s1, h, hl1, hρ, rfl⟩
  refine st_es hρ ?_
  refine Z 5 rfl ?_
  obtain rfl := Eq.symm h
  exact st_ret (gs' := []) Tryz.func136 rfl (List.Sublist.refl _) hl1 ⟨rfl, rfl⟩
 obtain ⟨e2, hL2, hA2⟩ := h
 refine st_loop hL2 (fun (s2 : ByteArray) ρ τ2 gs => σ.Le τ2 ∧ ESub ρ [(0, .string s2), (1, .int .u8 a1), (4, .string (bstr []))] ∧ gs = []) ⟨Sto.Le.refl _, rfl, rfl⟩ ?_
 rintro s2 o2 h he2 ρ2 τ2 gs2 ⟨hl2, hρ, rfl⟩ hn2
 refine st_es hρ ?_
 refine Z 2 rfl ?_
 refine st_cut (fun ρ τ3 gs => ∃ (s3 : Bool), strings_trimLeftByte_j3 s2 s3 o2 ∧ τ2.Le τ3 ∧ ESub ρ [(0, .string s2), (1, .int .u8 a1), (4, .string (bstr [])), (13, .bool s3)] ∧ gs = []) ?_ (fun hk3 => ?_)
 ·rintro ρ3 τ3 gs3 ⟨s3, h, hl3, hρ, rfl⟩
  refine st_es hρ ?_
  refine st_if rfl h (fun h => ?_) (fun h => ?_)
  ·refine Z 4 rfl ?_
   obtain ⟨hf4, h⟩ := h
   refine o_sliceSl rfl rfl rfl Tryz.underlying9 rfl rfl (by decide) hf4 ?_
   refine Z 3 rfl ?_
   exact hn2 _ _ _ _ h ⟨(hl2.trans hl3), rfl, rfl⟩
  ·refine st_exit rfl ?_
   obtain rfl := he2 _ h
   replace h := hA2
   exact hk1 _ _ _ ⟨s2, h, (hl2.trans hl3), rfl, rfl⟩
 refine Z 4 rfl ?_
 refine o_mif rfl rfl rfl rfl h (fun h => ?_) (fun h => ?_)
 ·refine o_move rfl rfl rfl rfl ?_
  obtain ⟨q5, hf6, h⟩ := h
  refine o_indexS rfl rfl rfl Tryz.underlying9 rfl rfl hf6 ?_
  refine Z 4 rfl ?_
  exact hk3 _ _ _ ⟨(decide (q5 = a1)), h, (Sto.Le.refl _), rfl, rfl⟩
 ·refine Z 6 rfl ?_
  exact hk3 _ _ _ ⟨false, h, (Sto.Le.refl _), rfl, rfl⟩
theorem strings_makeASCIISet_ok {a0 : ByteArray} {r : List Bool × Bool} (h : strings_makeASCIISet a0 r) (σ : Sto)  :
    Does Tryz.prog 138 [.string a0] σ [] (fun v τ gs => gs = [] ∧ .tuple [.agg (cellsN Value.bool false 256 r.1).toArray, .bool r.2].toArray = v) := by
 refine call_of Tryz.func138 Tryz.ntmps138 rfl rfl (fun cs fs => ?_)
 refine Z 2 rfl ?_
 refine o_alloc rfl rfl rfl z_zero234 (fun b1 => ?_)
 refine Z 3 rfl ?_
 refine st_cut (fun ρ τ2 gs => ∃ (s2 : List Bool), strings_makeASCIISet_j1 s2 r ∧ σ.Le τ2 ∧ ESub ρ [(2, .pointer (some ⟨b1, 0, none⟩)), (3, .bool false)] ∧ gs = [[(b1, .cells (cellsN Value.bool false 256 s2).toArray 234 (0, 0))]]) ?_ (fun hk2 => ?_)
 ·rintro ρ2 τ2 gs2 ⟨s2, h, hl2, hρ, rfl⟩
  refine st_es hρ ?_
  refine Z 2 rfl ?_
  refine o_loadN (j := 0) (vs := (cellsN Value.bool false 256 s2)) rfl rfl rfl z_agg234 rfl rfl rfl ?_
  refine o_store (j := 0) (vs := (cellsN Value.bool false 256 s2)) (cs' := (cellsN Value.bool false 256 s2)) rfl rfl rfl z_size234 rfl rfl rfl ones_cellsNB rfl rfl rfl ?_
  refine st_gs [[(b1, .cells (cellsN Value.bool false 256 s2).toArray 234 (0, 0))]] rfl ?_
  refine Z 2 rfl ?_
  obtain rfl := Eq.symm h
  exact st_retC (gs' := []) [.agg (cellsN Value.bool false 256 s2).toArray, .bool true] Tryz.func138 ⟨⟨_, _, _, _, rfl, mem_flat 0 rfl, fun w hw => cellOfN (vs := (cellsN Value.bool false 256 s2)) z_agg234 rfl w hw⟩, rfl, trivial⟩ (by simp) hl2 ⟨rfl, rfl⟩
 refine Z 4 rfl ?_
 obtain ⟨e3, hL3, hA3⟩ := h
 refine st_loop hL3 (fun (s3 : Int × List Bool) ρ τ3 gs => σ.Le τ3 ∧ ESub ρ [(0, .string a0), (2, .pointer (some ⟨b1, 0, none⟩)), (3, .bool false), (4, .int .i64 s3.1)] ∧ gs = [[(b1, .cells (cellsN Value.bool false 256 s3.2).toArray 234 (0, 0))]]) ⟨Sto.Le.refl _, rfl, rfl⟩ ?_
 rintro s3 o3 h he3 ρ3 τ3 gs3 ⟨hl3, hρ, rfl⟩ hn3
 refine st_es hρ ?_
 refine Z 8 rfl ?_
 refine st_if rfl h (fun h => ?_) (fun h => ?_)
 ·refine Z 7 rfl ?_
  obtain ⟨q4, hf5, h⟩ := h
  refine o_indexS rfl rfl rfl Tryz.underlying9 rfl rfl hf5 ?_
  refine Z 8 rfl ?_
  refine st_if rfl h (fun h => ?_) (fun h => ?_)
  ·refine Z 2 rfl ?_
   refine o_loadN (j := 0) (vs := (cellsN Value.bool false 256 s3.2)) rfl rfl rfl z_agg234 rfl rfl rfl ?_
   refine o_store (j := 0) (vs := (cellsN Value.bool false 256 s3.2)) (cs' := (cellsN Value.bool false 256 s3.2)) rfl rfl rfl z_size234 rfl rfl rfl ones_cellsNB rfl rfl rfl ?_
   refine st_gs [[(b1, .cells (cellsN Value.bool false 256 s3.2).toArray 234 (0, 0))]] rfl ?_
   refine Z 2 rfl ?_
   obtain rfl := he3 _ h
   replace h := hA3
   obtain rfl := Eq.symm h
   exact st_retC (gs' := []) [.agg (cellsN Value.bool false 256 s3.2).toArray, .bool false] Tryz.func138 ⟨⟨_, _, _, _, rfl, mem_flat 0 rfl, fun w hw => cellOfN (vs := (cellsN Value.bool false 256 s3.2)) z_agg234 rfl w hw⟩, rfl, trivial⟩ (by simp) hl3 ⟨rfl, rfl⟩
  ·refine Z 3 rfl ?_
   obtain ⟨hf6, hf7, h⟩ := h
   refine o_indexA rfl rfl rfl z_arr234 rfl rfl hf6 hf7 ?_
   refine o_storeB (j := 0) (q := q4.toNat) (f := Value.bool) (zz := false) (a := true) (l := 256) (xs := s3.2) rfl rfl rfl z_size4 rfl rfl rfl rfl rfl (by omega) (by omega) ?_
   refine st_gs [[(b1, .cells (cellsN Value.bool false 256 (putN 256 false s3.2 q4.toNat true)).toArray 234 (0, 0))]] rfl ?_
   refine Z 7 rfl ?_
   exact hn3 _ _ _ _ h ⟨hl3, rfl, rfl⟩
 ·refine st_exit rfl ?_
  obtain rfl := he3 _ h
  replace h := hA3
  exact hk2 _ _ _ ⟨s3.2, h, hl3, rfl, rfl⟩
theorem strings_asciiSet_contains_ok {a0 : List Bool} {a1 : Int} {ba0 : Nat} {r : Bool} (h : strings_asciiSet_contains a0 a1 r) (σ : Sto)  :
    Does Tryz.prog 164 [.pointer (some ⟨ba0, 0, none⟩), .int .u8 a1] σ [[(ba0, .cells (cellsN Value.bool false 256 a0).toArray 234 (0, 0))]] (fun v τ gs => gs = [[(ba0, .cells (cellsN Value.bool false 256 a0).toArray 234 (0, 0))]] ∧ .bool r = v) := by
 refine call_of Tryz.func164 Tryz.ntmps164 rfl rfl (fun cs fs => ?_)
 refine Z 9 rfl ?_
 obtain ⟨hf1, hf2, h⟩ := h
 refine o_indexA rfl rfl rfl z_arr234 rfl rfl hf1 hf2 ?_
 refine o_loadB (j := 0) (q := a1.toNat) (f := Value.bool) (zz := false) (l := 256) (xs := a0) rfl rfl rfl z_sc4 rfl rfl (by omega) (by omega) ?_
 refine Z 2 rfl ?_
 obtain rfl := Eq.symm h
 exact st_ret (gs' := [[(ba0, .cells (cellsN Value.bool false 256 a0).toArray 234 (0, 0))]]) Tryz.func164 rfl (List.Sublist.refl _) (Sto.Le.refl _) ⟨rfl, rfl⟩
theorem strings_trimRightASCII_ok {a0 : ByteArray} {a1 : List Bool} {ba1 : Nat} {r : ByteArray} (h : strings_trimRightASCII a0 a1 r) (σ : Sto)  :
    Does Tryz.prog 140 [.string a0, .pointer (some ⟨ba1, 0, none⟩)] σ [[(ba1, .cells (cellsN Value.bool false 256 a1).toArray 234 (0, 0))]] (fun v τ gs => gs = [[(ba1, .cells (cellsN Value.bool false 256 a1).toArray 234 (0, 0))]] ∧ .string r = v) := by
 refine call_of Tryz.func140 Tryz.ntmps140 rfl rfl (fun cs fs => ?_)
 refine Z 2 rfl ?_
 refine o_assign rfl rfl rfl (ev_str z_str0) ?_
 refine Z 2 rfl ?_
 refine st_cut (fun ρ τ1 gs => ∃ (s1 : ByteArray), strings_trimRightASCII_j1 s1 r ∧ σ.Le τ1 ∧ ESub ρ [(0, .string s1), (4, .string (bstr []))] ∧ gs = [[(ba1, .cells (cellsN Value.bool false 256 a1).toArray 234 (0, 0))]]) ?_ (fun hk1 => ?_)
 ·rintro ρ1 τ1 gs1 ⟨s1, h, hl1, hρ, rfl⟩
  refine st_es hρ ?_
  refine Z 5 rfl ?_
  obtain rfl := Eq.symm h
  exact st_ret (gs' := [[(ba1, .cells (cellsN Value.bool false 256 a1).toArray 234 (0, 0))]]) Tryz.func140 rfl (List.Sublist.refl _) hl1 ⟨rfl, rfl⟩
 obtain ⟨e2, hL2, hA2⟩ := h
 refine st_loop hL2 (fun (s2 : ByteArray) ρ τ2 gs => σ.Le τ2 ∧ ESub ρ [(0, .string s2), (1, .pointer (some ⟨ba1, 0, none⟩)), (4, .string (bstr []))] ∧ gs = [[(ba1, .cells (cellsN Value.bool false 256 a1).toArray 234 (0, 0))]]) ⟨Sto.Le.refl _, rfl, rfl⟩ ?_
 rintro s2 o2 h he2 ρ2 τ2 gs2 ⟨hl2, hρ, rfl⟩ hn2
 refine st_es hρ ?_
 refine Z 7 rfl ?_
 refine st_if rfl h (fun h => ?_) (fun h => ?_)
 ·refine Z 10 rfl ?_
  obtain ⟨q3, hf4, h⟩ := h
  refine o_indexS rfl rfl rfl Tryz.underlying9 rfl rfl hf4 ?_
  obtain ⟨r5, hr6, h⟩ := h
  refine st_call (foot := [[(ba1, .cells (cellsN Value.bool false 256 a1).toArray 234 (0, 0))]]) rfl rfl rfl rfl rfl rfl (callV_fn z_en164 (strings_asciiSet_contains_ok hr6 τ2)) ?_
  rintro vτ7 τ7 gsτ7 hl8 ⟨rfl, rfl⟩
  refine Z 2 rfl ?_
  refine st_if rfl h (fun h => ?_) (fun h => ?_)
  ·refine st_exit rfl ?_
   obtain rfl := he2 _ h
   replace h := hA2
   exact hk1 _ _ _ ⟨s2, h, (hl2.trans hl8), rfl, rfl⟩
  ·refine Z 6 rfl ?_
   obtain ⟨hf9, hf10, h⟩ := h
   refine o_sliceSh rfl rfl rfl Tryz.underlying9 rfl rfl hf9 hf10 ?_
   refine Z 3 rfl ?_
   exact hn2 _ _ _ _ h ⟨(hl2.trans hl8), rfl, rfl⟩
 ·refine st_exit rfl ?_
  obtain rfl := he2 _ h
  replace h := hA2
  exact hk1 _ _ _ ⟨s2, h, hl2, rfl, rfl⟩
theorem strings_trimLeftASCII_ok {a0 : ByteArray} {a1 : List Bool} {ba1 : Nat} {r : ByteArray} (h : strings_trimLeftASCII a0 a1 r) (σ : Sto)  :
    Does Tryz.prog 139 [.string a0, .pointer (some ⟨ba1, 0, none⟩)] σ [[(ba1, .cells (cellsN Value.bool false 256 a1).toArray 234 (0, 0))]] (fun v τ gs => gs = [[(ba1, .cells (cellsN Value.bool false 256 a1).toArray 234 (0, 0))]] ∧ .string r = v) := by
 refine call_of Tryz.func139 Tryz.ntmps139 rfl rfl (fun cs fs => ?_)
 refine Z 2 rfl ?_
 refine o_assign rfl rfl rfl (ev_str z_str0) ?_
 refine Z 2 rfl ?_
 refine st_cut (fun ρ τ1 gs => ∃ (s1 : ByteArray), strings_trimLeftASCII_j1 s1 r ∧ σ.Le τ1 ∧ ESub ρ [(0, .string s1), (4, .string (bstr []))] ∧ gs = [[(ba1, .cells (cellsN Value.bool false 256 a1).toArray 234 (0, 0))]]) ?_ (fun hk1 => ?_)
 ·rintro ρ1 τ1 gs1 ⟨s1, h, hl1, hρ, rfl⟩
  refine st_es hρ ?_
  refine Z 5 rfl ?_
  obtain rfl := Eq.symm h
  exact st_ret (gs' := [[(ba1, .cells (cellsN Value.bool false 256 a1).toArray 234 (0, 0))]]) Tryz.func139 rfl (List.Sublist.refl _) hl1 ⟨rfl, rfl⟩
 obtain ⟨e2, hL2, hA2⟩ := h
 refine st_loop hL2 (fun (s2 : ByteArray) ρ τ2 gs => σ.Le τ2 ∧ ESub ρ [(0, .string s2), (1, .pointer (some ⟨ba1, 0, none⟩)), (4, .string (bstr []))] ∧ gs = [[(ba1, .cells (cellsN Value.bool false 256 a1).toArray 234 (0, 0))]]) ⟨Sto.Le.refl _, rfl, rfl⟩ ?_
 rintro s2 o2 h he2 ρ2 τ2 gs2 ⟨hl2, hρ, rfl⟩ hn2
 refine st_es hρ ?_
 refine Z 7 rfl ?_
 refine st_if rfl h (fun h => ?_) (fun h => ?_)
 ·refine Z 7 rfl ?_
  obtain ⟨q3, hf4, h⟩ := h
  refine o_indexS rfl rfl rfl Tryz.underlying9 rfl rfl hf4 ?_
  obtain ⟨r5, hr6, h⟩ := h
  refine st_call (foot := [[(ba1, .cells (cellsN Value.bool false 256 a1).toArray 234 (0, 0))]]) rfl rfl rfl rfl rfl rfl (callV_fn z_en164 (strings_asciiSet_contains_ok hr6 τ2)) ?_
  rintro vτ7 τ7 gsτ7 hl8 ⟨rfl, rfl⟩
  refine Z 2 rfl ?_
  refine st_if rfl h (fun h => ?_) (fun h => ?_)
  ·refine st_exit rfl ?_
   obtain rfl := he2 _ h
   replace h := hA2
   exact hk1 _ _ _ ⟨s2, h, (hl2.trans hl8), rfl, rfl⟩
  ·refine Z 3 rfl ?_
   obtain ⟨hf9, h⟩ := h
   refine o_sliceSl rfl rfl rfl Tryz.underlying9 rfl rfl (by decide) hf9 ?_
   refine Z 3 rfl ?_
   exact hn2 _ _ _ _ h ⟨(hl2.trans hl8), rfl, rfl⟩
 ·refine st_exit rfl ?_
  obtain rfl := he2 _ h
  replace h := hA2
  exact hk1 _ _ _ ⟨s2, h, hl2, rfl, rfl⟩
theorem unicode_utf8_RuneStart_ok {a0 : Int} {r : Bool} (h : unicode_utf8_RuneStart a0 r) (σ : Sto)  :
    Does Tryz.prog 178 [.int .u8 a0] σ [] (fun v τ gs => gs = [] ∧ .bool r = v) := by
 refine call_of Tryz.func178 Tryz.ntmps178 rfl rfl (fun cs fs => ?_)
 refine Z 11 rfl ?_
 obtain rfl := Eq.symm h
 exact st_ret (gs' := []) Tryz.func178 rfl (List.Sublist.refl _) (Sto.Le.refl _) ⟨rfl, rfl⟩
theorem unicode_utf8_DecodeLastRuneInString_ok {a0 : ByteArray} {r : Int × Int} (h : unicode_utf8_DecodeLastRuneInString a0 r) (σ : Sto)  :
    Does Tryz.prog 166 [.string a0] σ [] (fun v τ gs => gs = [] ∧ .tuple [.int .i32 r.1, .int .i64 r.2].toArray = v) := by
 refine call_of Tryz.func166 Tryz.ntmps166 rfl rfl (fun cs fs => ?_)
 refine Z 17 rfl ?_
 refine st_if rfl h (fun h => ?_) (fun h => ?_)
 ·refine Z 5 rfl ?_
  obtain rfl := Eq.symm h
  exact st_ret (gs' := []) Tryz.func166 rfl (List.Sublist.refl _) (Sto.Le.refl _) ⟨rfl, rfl⟩
 ·refine Z 11 rfl ?_
  obtain ⟨q1, hf2, h⟩ := h
  refine o_indexS rfl rfl rfl Tryz.underlying9 rfl rfl hf2 ?_
  refine Z 9 rfl ?_
  refine st_if rfl h (fun h => ?_) (fun h => ?_)
  ·refine Z 6 rfl ?_
   obtain rfl := Eq.symm h
   exact st_ret (gs' := []) Tryz.func166 rfl (List.Sublist.refl _) (Sto.Le.refl _) ⟨rfl, rfl⟩
  ·refine Z 9 rfl ?_
   refine st_cut (fun ρ τ3 gs => ∃ (s3 : Int), unicode_utf8_DecodeLastRuneInString_j1 a0 s3 r ∧ σ.Le τ3 ∧ ESub ρ [(0, .string a0), (2, .int .i32 (IntKind.i32.wrap q1)), (3, .int .i64 0), (4, .int .i64 (a0.size : Int)), (5, .int .i64 s3)] ∧ gs = []) ?_ (fun hk3 => ?_)
   ·rintro ρ3 τ3 gs3 ⟨s3, h, hl3, hρ, rfl⟩
    refine st_es hρ ?_
    refine st_seq ?_
    refine st_cut (fun ρ τ4 gs => ∃ (s4 : Int), unicode_utf8_DecodeLastRuneInString_j2 a0 s4 r ∧ τ3.Le τ4 ∧ ESub ρ [(0, .string a0), (2, .int .i32 (IntKind.i32.wrap q1)), (3, .int .i64 0), (4, .int .i64 (a0.size : Int)), (5, .int .i64 s4)] ∧ gs = []) ?_ (fun hk4 => ?_)
    ·rintro ρ4 τ4 gs4 ⟨s4, h, hl4, hρ, rfl⟩
     refine st_es hρ ?_
     refine Z 5 rfl ?_
     obtain ⟨hf5, hf6, hf7, h⟩ := h
     refine o_sliceS rfl rfl rfl Tryz.underlying9 rfl rfl rfl hf5 hf6 hf7 ?_
     obtain ⟨r8, hr9, h⟩ := h
     refine st_call (foot := []) rfl rfl rfl rfl rfl rfl (callV_fn z_en147 (unicode_utf8_DecodeRuneInString_ok hr9 τ4)) ?_
     rintro vτ10 τ10 gsτ10 hl11 ⟨rfl, rfl⟩
     refine Z 15 rfl ?_
     refine st_if rfl h (fun h => ?_) (fun h => ?_)
     ·refine Z 5 rfl ?_
      obtain rfl := Eq.symm h
      exact st_ret (gs' := []) Tryz.func166 rfl (List.Sublist.refl _) ((hl3.trans hl4).trans hl11) ⟨rfl, rfl⟩
     ·refine Z 8 rfl ?_
      obtain rfl := Eq.symm h
      exact st_ret (gs' := []) Tryz.func166 rfl (List.Sublist.refl _) ((hl3.trans hl4).trans hl11) ⟨rfl, rfl⟩
    refine Z 5 rfl ?_
    refine st_if rfl h (fun h => ?_) (fun h => ?_)
    ·refine Z 3 rfl ?_
     exact hk4 _ _ _ ⟨0, h, (Sto.Le.refl _), rfl, rfl⟩
    ·refine st_skip ?_
     exact hk4 _ _ _ ⟨s3, h, (Sto.Le.refl _), rfl, rfl⟩
   refine Z 6 rfl ?_
   obtain ⟨e12, hL12, hA12⟩ := h
   refine st_loop hL12 (fun (s12 : Int) ρ τ12 gs => σ.Le τ12 ∧ ESub ρ [(0, .string a0), (2, .int .i32 (IntKind.i32.wrap q1)), (3, .int .i64 0), (4, .int .i64 (a0.size : Int)), (5, .int .i64 s12), (6, .int .i64 (max (IntKind.i64.wrap ((a0.size : Int) - 4)) 0))] ∧ gs = []) ⟨Sto.Le.refl _, rfl, rfl⟩ ?_
   rintro s12 o12 h he12 ρ12 τ12 gs12 ⟨hl12, hρ, rfl⟩ hn12
   refine st_es hρ ?_
   refine Z 7 rfl ?_
   refine st_if rfl h (fun h => ?_) (fun h => ?_)
   ·refine Z 7 rfl ?_
    obtain ⟨q13, hf14, h⟩ := h
    refine o_indexS rfl rfl rfl Tryz.underlying9 rfl rfl hf14 ?_
    obtain ⟨r15, hr16, h⟩ := h
    refine st_call (foot := []) rfl rfl rfl rfl rfl rfl (callV_fn z_en178 (unicode_utf8_RuneStart_ok hr16 τ12)) ?_
    rintro vτ17 τ17 gsτ17 hl18 ⟨rfl, rfl⟩
    refine st_end ?_
    refine st_if rfl h (fun h => ?_) (fun h => ?_)
    ·refine st_exit rfl ?_
     obtain rfl := he12 _ h
     replace h := hA12
     exact hk3 _ _ _ ⟨s12, h, (hl12.trans hl18), rfl, rfl⟩
    ·refine Z 7 rfl ?_
     exact hn12 _ _ _ _ h ⟨(hl12.trans hl18), rfl, rfl⟩
   ·refine st_exit rfl ?_
    obtain rfl := he12 _ h
    replace h := hA12
    exact hk3 _ _ _ ⟨s12, h, hl12, rfl, rfl⟩
theorem strings_IndexByte_ok {a0 : ByteArray} {a1 : Int} {r : Int} (h : strings_IndexByte a0 a1 r) (σ : Sto) :
    Does Tryz.prog 105 [.string a0, .int .u8 a1] σ [] (fun v τ gs => gs = [] ∧ .int .i64 r = v) := by
 obtain ⟨hc, rfl⟩ := h
 exact indexByte_does Tryz.strings_IndexByte hc
theorem unicode_utf8_ValidRune_ok {a0 : Int} {r : Bool} (h : unicode_utf8_ValidRune a0 r) (σ : Sto)  :
    Does Tryz.prog 186 [.int .i32 a0] σ [] (fun v τ gs => gs = [] ∧ .bool r = v) := by
 refine call_of Tryz.func186 Tryz.ntmps186 rfl rfl (fun cs fs => ?_)
 refine Z 7 rfl ?_
 refine st_cut (fun ρ τ1 gs => ∃ (s1 : Bool), unicode_utf8_ValidRune_j1 a0 s1 r ∧ σ.Le τ1 ∧ ESub ρ [(0, .int .i32 a0), (2, .bool false), (3, .bool s1)] ∧ gs = []) ?_ (fun hk1 => ?_)
 ·rintro ρ1 τ1 gs1 ⟨s1, h, hl1, hρ, rfl⟩
  refine st_es hρ ?_
  refine st_if rfl h (fun h => ?_) (fun h => ?_)
  ·refine Z 4 rfl ?_
   obtain rfl := Eq.symm h
   exact st_ret (gs' := []) Tryz.func186 rfl (List.Sublist.refl _) hl1 ⟨rfl, rfl⟩
  ·refine st_seq ?_
   refine st_cut (fun ρ τ2 gs => ∃ (s2 : Bool), unicode_utf8_ValidRune_j2 s2 r ∧ τ1.Le τ2 ∧ ESub ρ [(2, .bool false), (10, .bool s2)] ∧ gs = []) ?_ (fun hk2 => ?_)
   ·rintro ρ2 τ2 gs2 ⟨s2, h, hl2, hρ, rfl⟩
    refine st_es hρ ?_
    refine st_if rfl h (fun h => ?_) (fun h => ?_)
    ·refine Z 4 rfl ?_
     obtain rfl := Eq.symm h
     exact st_ret (gs' := []) Tryz.func186 rfl (List.Sublist.refl _) (hl1.trans hl2) ⟨rfl, rfl⟩
    ·refine Z 6 rfl ?_
     obtain rfl := Eq.symm h
     exact st_ret (gs' := []) Tryz.func186 rfl (List.Sublist.refl _) (hl1.trans hl2) ⟨rfl, rfl⟩
   refine Z 3 rfl ?_
   refine o_mif rfl rfl rfl rfl h (fun h => ?_) (fun h => ?_)
   ·refine Z 5 rfl ?_
    exact hk2 _ _ _ ⟨(decide (a0 ≤ 1114111)), h, (Sto.Le.refl _), rfl, rfl⟩
   ·refine Z 5 rfl ?_
    exact hk2 _ _ _ ⟨false, h, (Sto.Le.refl _), rfl, rfl⟩
 refine Z 3 rfl ?_
 refine o_mif rfl rfl rfl rfl h (fun h => ?_) (fun h => ?_)
 ·refine Z 5 rfl ?_
  exact hk1 _ _ _ ⟨(decide (a0 < 55296)), h, (Sto.Le.refl _), rfl, rfl⟩
 ·refine Z 5 rfl ?_
  exact hk1 _ _ _ ⟨false, h, (Sto.Le.refl _), rfl, rfl⟩
theorem strings_IndexRune_ok {a0 : ByteArray} {a1 : Int} {r : Int} (h : strings_IndexRune a0 a1 r) (σ : Sto)  :
    Does Tryz.prog 177 [.string a0, .int .i32 a1] σ [] (fun v τ gs => gs = [] ∧ .int .i64 r = v) := by
 refine call_of Tryz.func177 Tryz.ntmps177 rfl rfl (fun cs fs => ?_)
 refine Z 6 rfl ?_
 refine st_cut (fun ρ τ1 gs => ∃ (s1 : Bool), strings_IndexRune_j1 a0 a1 s1 r ∧ σ.Le τ1 ∧ ESub ρ [(0, .string a0), (1, .int .i32 a1), (4, .int .i64 0), (160, .bool s1)] ∧ gs = []) ?_ (fun hk1 => ?_)
 ·rintro ρ1 τ1 gs1 ⟨s1, h, hl1, hρ, rfl⟩
  refine st_es hρ ?_
  refine st_if rfl h (fun h => ?_) (fun h => ?_)
  ·refine Z 5 rfl ?_
   obtain ⟨r2, hr3, h⟩ := h
   refine st_call (foot := []) rfl rfl rfl rfl rfl rfl (callV_fn z_en105 (strings_IndexByte_ok hr3 τ1)) ?_
   rintro vτ4 τ4 gsτ4 hl5 ⟨rfl, rfl⟩
   refine Z 2 rfl ?_
   obtain rfl := Eq.symm h
   exact st_ret (gs' := []) Tryz.func177 rfl (List.Sublist.refl _) (hl1.trans hl5) ⟨rfl, rfl⟩
  ·refine Z 6 rfl ?_
   refine st_if rfl h (fun h => ?_) (fun h => ?_)
   ·refine Z 4 rfl ?_
    exact h.elim
   ·refine Z 3 rfl ?_
    obtain ⟨r6, hr7, h⟩ := h
    refine st_call (foot := []) rfl rfl rfl rfl rfl rfl (callV_fn z_en186 (unicode_utf8_ValidRune_ok hr7 τ1)) ?_
    rintro vτ8 τ8 gsτ8 hl9 ⟨rfl, rfl⟩
    refine Z 3 rfl ?_
    refine st_if rfl h (fun h => ?_) (fun h => ?_)
    ·refine Z 4 rfl ?_
     obtain rfl := Eq.symm h
     exact st_ret (gs' := []) Tryz.func177 rfl (List.Sublist.refl _) (hl1.trans hl9) ⟨rfl, rfl⟩
    ·refine Z 4 rfl ?_
     exact h.elim
 refine Z 3 rfl ?_
 refine o_mif rfl rfl rfl rfl h (fun h => ?_) (fun h => ?_)
 ·refine Z 5 rfl ?_
  exact hk1 _ _ _ ⟨(decide (a1 < 128)), h, (Sto.Le.refl _), rfl, rfl⟩
 ·refine Z 5 rfl ?_
  exact hk1 _ _ _ ⟨false, h, (Sto.Le.refl _), rfl, rfl⟩
theorem strings_ContainsRune_ok {a0 : ByteArray} {a1 : Int} {r : Bool} (h : strings_ContainsRune a0 a1 r) (σ : Sto)  :
    Does Tryz.prog 165 [.string a0, .int .i32 a1] σ [] (fun v τ gs => gs = [] ∧ .bool r = v) := by
 refine call_of Tryz.func165 Tryz.ntmps165 rfl rfl (fun cs fs => ?_)
 refine Z 8 rfl ?_
 obtain ⟨r1, hr2, h⟩ := h
 refine st_call (foot := []) rfl rfl rfl rfl rfl rfl (callV_fn z_en177 (strings_IndexRune_ok hr2 σ)) ?_
 rintro vτ3 τ3 gsτ3 hl4 ⟨rfl, rfl⟩
 refine Z 3 rfl ?_
 obtain rfl := Eq.symm h
 exact st_ret (gs' := []) Tryz.func165 rfl (List.Sublist.refl _) hl4 ⟨rfl, rfl⟩
theorem strings_trimRightUnicode_ok {a0 : ByteArray} {a1 : ByteArray} {r : ByteArray} (h : strings_trimRightUnicode a0 a1 r) (σ : Sto)  :
    Does Tryz.prog 142 [.string a0, .string a1] σ [] (fun v τ gs => gs = [] ∧ .string r = v) := by
 refine call_of Tryz.func142 Tryz.ntmps142 rfl rfl (fun cs fs => ?_)
 refine Z 2 rfl ?_
 refine o_assign rfl rfl rfl (ev_str z_str0) ?_
 refine Z 2 rfl ?_
 refine st_cut (fun ρ τ1 gs => ∃ (s1 : ByteArray), strings_trimRightUnicode_j1 s1 r ∧ σ.Le τ1 ∧ ESub ρ [(0, .string s1), (4, .string (bstr []))] ∧ gs = []) ?_ (fun hk1 => ?_)
 ·rintro ρ1 τ1 gs1 ⟨s1, h, hl1, hρ, rfl⟩
  refine st_es hρ ?_
  refine Z 5 rfl ?_
  obtain rfl := Eq.symm h
  exact st_ret (gs' := []) Tryz.func142 rfl (List.Sublist.refl _) hl1 ⟨rfl, rfl⟩
 obtain ⟨e2, hL2, hA2⟩ := h
 refine st_loop hL2 (fun (s2 : ByteArray) ρ τ2 gs => σ.Le τ2 ∧ ESub ρ [(0, .string s2), (1, .string a1), (4, .string (bstr []))] ∧ gs = []) ⟨Sto.Le.refl _, rfl, rfl⟩ ?_
 rintro s2 o2 h he2 ρ2 τ2 gs2 ⟨hl2, hρ, rfl⟩ hn2
 refine st_es hρ ?_
 refine Z 7 rfl ?_
 refine st_if rfl h (fun h => ?_) (fun h => ?_)
 ·refine Z 8 rfl ?_
  obtain ⟨q3, hf4, h⟩ := h
  refine o_indexS rfl rfl rfl Tryz.underlying9 rfl rfl hf4 ?_
  refine Z 5 rfl ?_
  refine st_cut (fun ρ τ5 gs => ∃ (s5 : Int × Int), strings_trimRightUnicode_j3 a1 s2 s5 o2 ∧ τ2.Le τ5 ∧ ESub ρ [(0, .string s2), (1, .string a1), (4, .string (bstr [])), (5, .int .i32 s5.1), (6, .int .i64 s5.2)] ∧ gs = []) ?_ (fun hk5 => ?_)
  ·rintro ρ5 τ5 gs5 ⟨s5, h, hl5, hρ, rfl⟩
   refine st_es hρ ?_
   refine Z 5 rfl ?_
   obtain ⟨r6, hr7, h⟩ := h
   refine st_call (foot := []) rfl rfl rfl rfl rfl rfl (callV_fn z_en165 (strings_ContainsRune_ok hr7 τ5)) ?_
   rintro vτ8 τ8 gsτ8 hl9 ⟨rfl, rfl⟩
   refine Z 2 rfl ?_
   refine st_if rfl h (fun h => ?_) (fun h => ?_)
   ·refine st_exit rfl ?_
    obtain rfl := he2 _ h
    replace h := hA2
    exact hk1 _ _ _ ⟨s2, h, ((hl2.trans hl5).trans hl9), rfl, rfl⟩
   ·refine Z 7 rfl ?_
    obtain ⟨hf10, hf11, h⟩ := h
    refine o_sliceSh rfl rfl rfl Tryz.underlying9 rfl rfl hf10 hf11 ?_
    refine Z 3 rfl ?_
    exact hn2 _ _ _ _ h ⟨((hl2.trans hl5).trans hl9), rfl, rfl⟩
  refine Z 5 rfl ?_
  refine st_if rfl h (fun h => ?_) (fun h => ?_)
  ·refine Z 2 rfl ?_
   obtain ⟨r12, hr13, h⟩ := h
   refine st_call (foot := []) rfl rfl rfl rfl rfl rfl (callV_fn z_en166 (unicode_utf8_DecodeLastRuneInString_ok hr13 τ2)) ?_
   rintro vτ14 τ14 gsτ14 hl15 ⟨rfl, rfl⟩
   refine Z 6 rfl ?_
   exact hk5 _ _ _ ⟨(r12.1, r12.2), h, hl15, rfl, rfl⟩
  ·refine st_skip ?_
   exact hk5 _ _ _ ⟨((IntKind.i32.wrap q3), 1), h, (Sto.Le.refl _), rfl, rfl⟩
 ·refine st_exit rfl ?_
  obtain rfl := he2 _ h
  replace h := hA2
  exact hk1 _ _ _ ⟨s2, h, hl2, rfl, rfl⟩
theorem strings_trimLeftUnicode_ok {a0 : ByteArray} {a1 : ByteArray} {r : ByteArray} (h : strings_trimLeftUnicode a0 a1 r) (σ : Sto)  :
    Does Tryz.prog 141 [.string a0, .string a1] σ [] (fun v τ gs => gs = [] ∧ .string r = v) := by
 refine call_of Tryz.func141 Tryz.ntmps141 rfl rfl (fun cs fs => ?_)
 refine Z 2 rfl ?_
 refine o_assign rfl rfl rfl (ev_str z_str0) ?_
 refine Z 2 rfl ?_
 refine st_cut (fun ρ τ1 gs => ∃ (s1 : ByteArray), strings_trimLeftUnicode_j1 s1 r ∧ σ.Le τ1 ∧ ESub ρ [(0, .string s1), (4, .string (bstr []))] ∧ gs = []) ?_ (fun hk1 => ?_)
 ·rintro ρ1 τ1 gs1 ⟨s1, h, hl1, hρ, rfl⟩
  refine st_es hρ ?_
  refine Z 5 rfl ?_
  obtain rfl := Eq.symm h
  exact st_ret (gs' := []) Tryz.func141 rfl (List.Sublist.refl _) hl1 ⟨rfl, rfl⟩
 obtain ⟨e2, hL2, hA2⟩ := h
 refine st_loop hL2 (fun (s2 : ByteArray) ρ τ2 gs => σ.Le τ2 ∧ ESub ρ [(0, .string s2), (1, .string a1), (4, .string (bstr []))] ∧ gs = []) ⟨Sto.Le.refl _, rfl, rfl⟩ ?_
 rintro s2 o2 h he2 ρ2 τ2 gs2 ⟨hl2, hρ, rfl⟩ hn2
 refine st_es hρ ?_
 refine Z 7 rfl ?_
 refine st_if rfl h (fun h => ?_) (fun h => ?_)
 ·refine Z 5 rfl ?_
  obtain ⟨r3, hr4, h⟩ := h
  refine st_call (foot := []) rfl rfl rfl rfl rfl rfl (callV_fn z_en147 (unicode_utf8_DecodeRuneInString_ok hr4 τ2)) ?_
  rintro vτ5 τ5 gsτ5 hl6 ⟨rfl, rfl⟩
  refine Z 11 rfl ?_
  obtain ⟨r7, hr8, h⟩ := h
  refine st_call (foot := []) rfl rfl rfl rfl rfl rfl (callV_fn z_en165 (strings_ContainsRune_ok hr8 τ5)) ?_
  rintro vτ9 τ9 gsτ9 hl10 ⟨rfl, rfl⟩
  refine Z 2 rfl ?_
  refine st_if rfl h (fun h => ?_) (fun h => ?_)
  ·refine st_exit rfl ?_
   obtain rfl := he2 _ h
   replace h := hA2
   exact hk1 _ _ _ ⟨s2, h, ((hl2.trans hl6).trans hl10), rfl, rfl⟩
  ·refine Z 4 rfl ?_
   obtain ⟨hf11, hf12, h⟩ := h
   refine o_sliceSl rfl rfl rfl Tryz.underlying9 rfl rfl hf11 hf12 ?_
   refine Z 3 rfl ?_
   exact hn2 _ _ _ _ h ⟨((hl2.trans hl6).trans hl10), rfl, rfl⟩
 ·refine st_exit rfl ?_
  obtain rfl := he2 _ h
  replace h := hA2
  exact hk1 _ _ _ ⟨s2, h, hl2, rfl, rfl⟩
theorem strings_Trim_ok {a0 : ByteArray} {a1 : ByteArray} {r : ByteArray} (h : strings_Trim a0 a1 r) (σ : Sto)  :
    Does Tryz.prog 108 [.string a0, .string a1] σ [] (fun v τ gs => gs = [] ∧ .string r = v) := by
 refine call_of Tryz.func108 Tryz.ntmps108 rfl rfl (fun cs fs => ?_)
 refine Z 2 rfl ?_
 refine o_assign rfl rfl rfl (ev_str z_str0) ?_
 refine Z 3 rfl ?_
 refine st_cut (fun ρ τ1 gs => ∃ (s1 : Bool), strings_Trim_j1 a0 a1 s1 r ∧ σ.Le τ1 ∧ ESub ρ [(0, .string a0), (1, .string a1), (4, .string (bstr [])), (12, .bool s1)] ∧ gs = []) ?_ (fun hk1 => ?_)
 ·rintro ρ1 τ1 gs1 ⟨s1, h, hl1, hρ, rfl⟩
  refine st_es hρ ?_
  refine st_if rfl h (fun h => ?_) (fun h => ?_)
  ·refine Z 5 rfl ?_
   obtain rfl := Eq.symm h
   exact st_ret (gs' := []) Tryz.func108 rfl (List.Sublist.refl _) hl1 ⟨rfl, rfl⟩
  ·refine Z 3 rfl ?_
   refine st_cut (fun ρ τ2 gs => ∃ (s2 : Bool), strings_Trim_j2 a0 a1 s2 r ∧ τ1.Le τ2 ∧ ESub ρ [(0, .string a0), (1, .string a1), (4, .string (bstr [])), (21, .bool s2)] ∧ gs = []) ?_ (fun hk2 => ?_)
   ·rintro ρ2 τ2 gs2 ⟨s2, h, hl2, hρ, rfl⟩
    refine st_es hρ ?_
    refine st_if rfl h (fun h => ?_) (fun h => ?_)
    ·refine st_seq ?_
     obtain ⟨q3, hf4, r5, hr6, q9, hf10, r11, hr12, h⟩ := h
     refine st_draw 7 (dl [.v (.string a0), .v (.string a1), .v (.int .u8 q3), .v (.string r5), .v (.string a1), .v (.int .u8 q9), .v (.string r11)]) (fun _ _ => []) z_mix rfl (dl_mono trivial) (allB_cons (allB_cons (allB_cons (allB_cons (allB_cons (allB_cons (allB_cons allB_nil (p1 dA)) (p1 dA)) ?_) ?_) (p1 dA)) ?_) ?_) ?_
     ·intro ρ' τ pool rs hl hd hout hk
      obtain ⟨_, e1, rfl⟩ := hd 1 rfl
      refine o_indexS rfl rfl rfl Tryz.underlying9 e1 rfl hf4 ?_
      exact st_addNil (hk _ _ (Sto.Le.refl _) rfl)
     ·intro ρ' τ pool rs hl hd hout hk
      obtain ⟨_, e0, rfl⟩ := hd 0 rfl
      obtain ⟨_, e2, rfl⟩ := hd 2 rfl
      refine st_call (foot := []) rfl rfl rfl rfl (evs_cons e0 (evs_cons e2 rfl)) rfl (callV_fn z_en137 (strings_trimRightByte_ok hr6 τ)) ?_
      rintro vτ7 τ7 gsτ7 hl8 ⟨rfl, rfl⟩
      exact st_addNil (hk _ _ hl8 rfl)
     ·intro ρ' τ pool rs hl hd hout hk
      obtain ⟨_, e4, rfl⟩ := hd 4 rfl
      refine o_indexS rfl rfl rfl Tryz.underlying9 e4 rfl hf10 ?_
      exact st_addNil (hk _ _ (Sto.Le.refl _) rfl)
     ·intro ρ' τ pool rs hl hd hout hk
      obtain ⟨_, e3, rfl⟩ := hd 3 rfl
      obtain ⟨_, e5, rfl⟩ := hd 5 rfl
      refine st_call (foot := []) rfl rfl rfl rfl (evs_cons e3 (evs_cons e5 rfl)) rfl (callV_fn z_en136 (strings_trimLeftByte_ok hr12 τ)) ?_
      rintro vτ13 τ13 gsτ13 hl14 ⟨rfl, rfl⟩
      exact st_addNil (hk _ _ hl14 rfl)
     intro ρ' τ15 vals hl15 hv hout
     refine st_ord [] _ rfl ?_
     refine st_env (ρ' := [(28, .string r11), (0, .string a0), (1, .string a1), (4, .string (bstr []))]) ⟨(lv1 hv 6 rfl rfl), (hout 0 rfl).trans rfl, (hout 1 rfl).trans rfl, (hout 4 rfl).trans rfl, trivial⟩ ?_
     refine Z 2 rfl ?_
     obtain rfl := Eq.symm h
     exact st_ret (gs' := []) Tryz.func108 rfl (List.Sublist.refl _) ((hl1.trans hl2).trans hl15) ⟨rfl, rfl⟩
    ·refine Z 5 rfl ?_
     obtain ⟨r16, hr17, h⟩ := h
     refine st_call (foot := []) rfl rfl rfl rfl rfl rfl (callV_fn z_en138 (strings_makeASCIISet_ok hr17 τ2)) ?_
     rintro vτ18 τ18 gsτ18 hl19 ⟨rfl, rfl⟩
     refine Z 3 rfl ?_
     refine o_alloc rfl rfl rfl z_zero234 (fun b20 => ?_)
     refine o_store (j := 0) (vs := (cellsN Value.bool false 256 r16.1)) (cs' := (cellsN Value.bool false 256 r16.1)) rfl rfl rfl z_size234 rfl rfl rfl ones_cellsNB rfl rfl rfl ?_
     refine st_gs [[(b20, .cells (cellsN Value.bool false 256 r16.1).toArray 234 (0, 0))]] rfl ?_
     refine Z 6 rfl ?_
     refine st_if rfl h (fun h => ?_) (fun h => ?_)
     ·refine Z 3 rfl ?_
      obtain ⟨r21, hr22, h⟩ := h
      refine st_call (foot := [[(b20, .cells (cellsN Value.bool false 256 r16.1).toArray 234 (0, 0))]]) rfl rfl rfl rfl rfl rfl (callV_fn z_en140 (strings_trimRightASCII_ok hr22 τ18)) ?_
      rintro vτ23 τ23 gsτ23 hl24 ⟨rfl, rfl⟩
      obtain ⟨r25, hr26, h⟩ := h
      refine st_call (foot := [[(b20, .cells (cellsN Value.bool false 256 r16.1).toArray 234 (0, 0))]]) rfl rfl rfl rfl rfl rfl (callV_fn z_en139 (strings_trimLeftASCII_ok hr26 τ23)) ?_
      rintro vτ27 τ27 gsτ27 hl28 ⟨rfl, rfl⟩
      refine Z 2 rfl ?_
      refine st_ord [] _ rfl ?_
      obtain rfl := Eq.symm h
      exact st_ret (gs' := []) Tryz.func108 rfl (List.Sublist.refl _) ((((hl1.trans hl2).trans hl19).trans hl24).trans hl28) ⟨rfl, rfl⟩
     ·refine Z 5 rfl ?_
      obtain ⟨r29, hr30, h⟩ := h
      refine st_call (foot := []) rfl rfl rfl rfl rfl rfl (callV_fn z_en142 (strings_trimRightUnicode_ok hr30 τ18)) ?_
      rintro vτ31 τ31 gsτ31 hl32 ⟨rfl, rfl⟩
      refine o_move rfl rfl rfl rfl ?_
      obtain ⟨r33, hr34, h⟩ := h
      refine st_call (foot := []) rfl rfl rfl rfl rfl rfl (callV_fn z_en141 (strings_trimLeftUnicode_ok hr34 τ31)) ?_
      rintro vτ35 τ35 gsτ35 hl36 ⟨rfl, rfl⟩
      refine Z 2 rfl ?_
      refine st_ord [] _ rfl ?_
      obtain rfl := Eq.symm h
      exact st_ret (gs' := []) Tryz.func108 rfl (List.Sublist.refl _) ((((hl1.trans hl2).trans hl19).trans hl32).trans hl36) ⟨rfl, rfl⟩
   refine Z 4 rfl ?_
   refine o_mif rfl rfl rfl rfl h (fun h => ?_) (fun h => ?_)
   ·refine o_move rfl rfl rfl rfl ?_
    obtain ⟨q37, hf38, h⟩ := h
    refine o_indexS rfl rfl rfl Tryz.underlying9 rfl rfl hf38 ?_
    refine Z 3 rfl ?_
    exact hk2 _ _ _ ⟨(decide (q37 < 128)), h, (Sto.Le.refl _), rfl, rfl⟩
   ·refine Z 5 rfl ?_
    exact hk2 _ _ _ ⟨false, h, (Sto.Le.refl _), rfl, rfl⟩
 refine Z 2 rfl ?_
 refine o_sbin (v := .bool (decide (a0 = (bstr [])))) rfl rfl rfl rfl (ev_str z_str0) rfl ?_
 refine o_mif rfl rfl rfl rfl h (fun h => ?_) (fun h => ?_)
 ·refine Z 4 rfl ?_
  exact hk1 _ _ _ ⟨true, h, (Sto.Le.refl _), rfl, rfl⟩
 ·refine o_move rfl rfl rfl rfl ?_
  refine o_sbin (v := .bool (decide (a1 = (bstr [])))) rfl rfl rfl rfl (ev_str z_str0) rfl ?_
  refine Z 2 rfl ?_
  exact hk1 _ _ _ ⟨(decide (a1 = (bstr []))), h, (Sto.Le.refl _), rfl, rfl⟩
theorem say_Read_ok {a0 : ByteArray} {r : Int × Int} (h : say_Read a0 r) (σ : Sto) (hE : Errs Tryz.prog σ) :
    Does Tryz.prog 66 [.string a0] σ [] (fun v τ gs => gs = [] ∧ .tuple [.int .i64 r.1, .int .i64 r.2].toArray = v) := by
 refine call_of Tryz.func66 Tryz.ntmps66 rfl rfl (fun cs fs => ?_)
 refine Z 8 rfl ?_
 obtain ⟨r1, hr2, h⟩ := h
 refine st_call (foot := []) rfl rfl rfl rfl rfl rfl (callV_fn z_en106 (strconv_ParseInt_ok hr2 σ hE)) ?_
 rintro vτ3 τ3 gsτ3 hl4 ⟨v5, rfl, rfl, hi6⟩
 refine Z 9 rfl ?_
 obtain ⟨r7, hr8, h⟩ := h
 refine st_call (foot := []) rfl rfl rfl rfl (evs_cons rfl (evs_cons (ev_str z_str28) rfl)) rfl (callV_fn z_en107 (strings_TrimPrefix_ok hr8 τ3)) ?_
 rintro vτ9 τ9 gsτ9 hl10 ⟨rfl, rfl⟩
 refine Z 5 rfl ?_
 refine st_cut (fun ρ τ11 gs => ∃ (s11 : Bool), say_Read_j1 r1 s11 r ∧ τ9.Le τ11 ∧ ESub ρ [(2, .int .i64 0), (3, .int .i64 0), (4, .int .i64 r1.1), (5, v5), (14, .bool s11)] ∧ gs = []) ?_ (fun hk11 => ?_)
 ·rintro ρ11 τ11 gs11 ⟨s11, h, hl11, hρ, rfl⟩
  refine st_es hρ ?_
  refine st_if rfl h (fun h => ?_) (fun h => ?_)
  ·refine Z 5 rfl ?_
   obtain rfl := Eq.symm h
   exact st_ret (gs' := []) Tryz.func66 rfl (List.Sublist.refl _) ((hl4.trans hl10).trans hl11) ⟨rfl, rfl⟩
  ·refine Z 3 rfl ?_
   refine o_ifNil rfl rfl rfl Tryz.underlying195 rfl (hi6.up (hl10.trans hl11)) rfl ?_
   refine Z 2 rfl ?_
   refine st_if rfl h (fun h => ?_) (fun h => ?_)
   ·refine Z 5 rfl ?_
    obtain rfl := Eq.symm h
    exact st_ret (gs' := []) Tryz.func66 rfl (List.Sublist.refl _) ((hl4.trans hl10).trans hl11) ⟨rfl, rfl⟩
   ·refine Z 8 rfl ?_
    obtain rfl := Eq.symm h
    exact st_ret (gs' := []) Tryz.func66 rfl (List.Sublist.refl _) ((hl4.trans hl10).trans hl11) ⟨rfl, rfl⟩
 refine Z 2 rfl ?_
 refine o_sbin (v := .bool (decide (r7 = (bstr [])))) rfl rfl rfl rfl (ev_str z_str0) rfl ?_
 refine o_mif rfl rfl rfl rfl h (fun h => ?_) (fun h => ?_)
 ·refine Z 15 rfl ?_
  exact hk11 _ _ _ ⟨true, h, (Sto.Le.refl _), rfl, rfl⟩
 ·refine o_move rfl rfl rfl rfl ?_
  obtain ⟨r12, hr13, h⟩ := h
  refine st_call (foot := []) rfl rfl rfl rfl (evs_cons rfl (evs_cons (ev_str z_str30) rfl)) rfl (callV_fn z_en108 (strings_Trim_ok hr13 τ9)) ?_
  rintro vτ14 τ14 gsτ14 hl15 ⟨rfl, rfl⟩
  refine o_sbin (v := .bool (!(decide (r12 = (bstr []))))) rfl rfl rfl rfl (ev_str z_str0) rfl ?_
  refine o_pick rfl rfl rfl rfl rfl ?_
  refine o_mif rfl rfl rfl rfl h (fun h => ?_) (fun h => ?_)
  ·refine Z 10 rfl ?_
   exact hk11 _ _ _ ⟨true, h, hl15, rfl, rfl⟩
  ·refine o_move rfl rfl rfl rfl ?_
   obtain ⟨q16, hf17, h⟩ := h
   refine o_indexS rfl rfl rfl Tryz.underlying9 rfl rfl hf17 ?_
   refine o_ibin (v := .bool (decide (q16 = 48))) rfl rfl rfl rfl rfl rfl ?_
   refine o_mif rfl rfl rfl rfl h (fun h => ?_) (fun h => ?_)
   ·refine o_move rfl rfl rfl rfl ?_
    refine o_sbin (v := .bool (!(decide (a0 = (bstr [48]))))) rfl rfl rfl rfl (ev_str z_str31) rfl ?_
    refine Z 4 rfl ?_
    exact hk11 _ _ _ ⟨(!(decide (a0 = (bstr [48])))), h, hl15, rfl, rfl⟩
   ·refine Z 6 rfl ?_
    exact hk11 _ _ _ ⟨false, h, hl15, rfl, rfl⟩
theorem say_points_ok {a0 : ByteArray} {r : (List (Int × Int)) × Int} (h : say_points a0 r) (σ : Sto) (hE : Errs Tryz.prog σ) :
    Does Tryz.prog 78 [.string a0] σ [] (fun v τ gs => ∃ (v63 : Value), gs = [] ∧ .tuple [v63, .int .i64 r.2].toArray = v ∧ Sl (kP (kI .i64) (kI .i64)) τ v63 r.1) := by
 refine call_of Tryz.func78 Tryz.ntmps78 rfl rfl (fun cs fs => ?_)
 refine Z 2 rfl ?_
 refine o_alloc rfl rfl rfl z_zero36 (fun b1 => ?_)
 refine o_alloc rfl rfl rfl z_zero46 (fun b2 => ?_)
 refine Z 3 rfl ?_
 refine o_alloc rfl rfl rfl z_zero36 (fun b3 => ?_)
 refine Z 5 rfl ?_
 obtain ⟨r4, hr5, h⟩ := h
 refine st_call (foot := []) rfl rfl rfl rfl (evs_cons rfl (evs_cons (ev_str z_str27) rfl)) rfl (callV_fn z_en76 (strings_SplitSeq_ok hr5 σ)) ?_
 rintro vτ6 τ6 gsτ6 hl7 ⟨f8, q9, b11, rfl, rfl, hit10⟩
 refine Z 2 rfl ?_
 obtain ⟨t15, w15, hR15, hA15⟩ := h
 refine st_env (ρ' := [(2, .pointer (some ⟨b1, 0, none⟩)), (3, .pointer (some ⟨b2, 0, none⟩)), (4, .pointer (some ⟨b3, 0, none⟩)), (13, .func (.func f8) #[] q9)]) ⟨rfl, rfl, rfl, rfl, trivial⟩ ?_
 refine st_addNil ?_
 refine st_ord [1, 3, 2, 1, 0] _ rfl ?_
 refine st_range (B := say_points_l1) (s0 := []) ranges_fctx rfl (hit10 r4.2 τ6 (Sto.Le.refl _)) (Sto.Le.refl _) hR15 rfl (fun _ _ _ h => by cases h; rfl) (fun (s15 : (List (Int × Int))) τ15 gs => τ6.Le τ15 ∧ ∃ (v16 : Value) (g17 : Grp), gs = [[(b1, .cells #[.slice none 0 0] 36 (0, 0))], [(b2, .cells #[.int .i64 0] 46 (0, 0))], [(b3, .cells #[v16] 36 (0, 0))], g17] ∧ Ow (kP (kI .i64) (kI .i64)) 105 τ15 v16 s15 g17) (fun (p44 : Int × (List (Int × Int))) cd τ45 gs => cd = .ret ∧ τ6.Le τ45 ∧ ∃ (v47 : Value) (g48 : Grp), gs = [[(b1, .cells #[.slice none 0 0] 36 (0, 0))], [(b2, .cells #[.int .i64 p44.1] 46 (0, 0))], [(b3, .cells #[v47] 36 (0, 0))], g48] ∧ Ow (kP (kI .i64) (kI .i64)) 105 τ45 v47 p44.2 g48) (fun _ _ _ _ hl ⟨hb, v16, g17, hg, ho18⟩ => ⟨hb.trans hl, v16, g17, hg, ho18.up hl⟩) (fun _ _ _ _ _ hl ⟨hc, hb, v47, g48, hg, ho49⟩ => ⟨hc, hb.trans hl, v47, g48, hg, ho49.up hl⟩) ⟨Sto.Le.refl _, _, _, rfl, Ow.nil⟩ ?_ ?_ ?_
 ·rintro x15 s15 o15 τ15 gs15 vx15 hl15 h rfl ⟨hb15, v16, g17, rfl, ho18⟩ l15 rc15 caller15 cs15 fs15
  refine Z 3 rfl ?_
  refine st_begin ?_
  refine Z 4 rfl ?_
  obtain ⟨r19, hr20, h⟩ := h
  refine st_call (foot := []) rfl rfl rfl rfl (evs_cons rfl (evs_cons (ev_str z_str26) rfl)) rfl (callV_fn z_en115 (strings_Cut_ok hr20 τ15)) ?_
  rintro vτ21 τ21 gsτ21 hl22 ⟨rfl, rfl⟩
  refine Z 10 rfl ?_
  refine st_cut (fun ρ τ23 gs => ∃ (s23 : Bool), say_points_j2 s15 r19 s23 o15 ∧ τ21.Le τ23 ∧ ESub ρ [(2, .pointer (some ⟨b1, 0, none⟩)), (3, .pointer (some ⟨b2, 0, none⟩)), (4, .pointer (some ⟨b3, 0, none⟩)), (14, .string x15), (5, .string x15), (6, .string r19.1), (7, .string r19.2.1), (26, .bool s23)] ∧ gs = [[(b1, .cells #[.slice none 0 0] 36 (0, 0))], [(b2, .cells #[.int .i64 0] 46 (0, 0))], [(b3, .cells #[v16] 36 (0, 0))], g17]) ?_ (fun hk23 => ?_)
  ·rintro ρ23 τ23 gs23 ⟨s23, h, hl23, hρ, rfl⟩
   refine st_es hρ ?_
   refine st_if rfl h (fun h => ?_) (fun h => ?_)
   ·refine ZZ 5 [0, 1] rfl rfl ?_
    exact st_rret (List.Sublist.refl _) (hl22.trans hl23) ⟨_, h, rfl, ((hl15.trans hl22).trans hl23), _, _, rfl, (ho18.up (hl22.trans hl23))⟩
   ·refine Z 4 rfl ?_
    obtain ⟨r24, hr25, h⟩ := h
    refine st_call (foot := []) rfl rfl rfl rfl rfl rfl (callV_fn z_en66 (say_Read_ok hr25 τ23 (hE.up (((hl7.trans hl15).trans hl22).trans hl23)))) ?_
    rintro vτ26 τ26 gsτ26 hl27 ⟨rfl, rfl⟩
    refine Z 12 rfl ?_
    refine st_if rfl h (fun h => ?_) (fun h => ?_)
    ·refine ZZ 6 [0, 1] rfl rfl ?_
     exact st_rret (List.Sublist.refl _) ((hl22.trans hl23).trans hl27) ⟨_, h, rfl, (((hl15.trans hl22).trans hl23).trans hl27), _, _, rfl, (ho18.up ((hl22.trans hl23).trans hl27))⟩
    ·refine Z 4 rfl ?_
     obtain ⟨r28, hr29, h⟩ := h
     refine st_call (foot := []) rfl rfl rfl rfl rfl rfl (callV_fn z_en66 (say_Read_ok hr29 τ26 (hE.up ((((hl7.trans hl15).trans hl22).trans hl23).trans hl27)))) ?_
     rintro vτ30 τ30 gsτ30 hl31 ⟨rfl, rfl⟩
     refine Z 12 rfl ?_
     refine st_if rfl h (fun h => ?_) (fun h => ?_)
     ·refine ZZ 6 [0, 1] rfl rfl ?_
      exact st_rret (List.Sublist.refl _) (((hl22.trans hl23).trans hl27).trans hl31) ⟨_, h, rfl, ((((hl15.trans hl22).trans hl23).trans hl27).trans hl31), _, _, rfl, (ho18.up (((hl22.trans hl23).trans hl27).trans hl31))⟩
     ·refine ZZ 6 [2] rfl rfl ?_
      refine o_litE (eP (eI .i64) (eI .i64)) [(r24.1, r28.1)] rfl rfl rfl z_slT36 z_zero105 ⟨rfl, ⟨_, rfl, rfl⟩, trivial⟩ rfl rfl rfl rfl (fun v32 g33 ho34 => ?_)
      obtain ⟨hf38, hf39, h⟩ := h
      refine st_ord [4, 0, 0, 0, 0] _ rfl ?_
      refine o_append (dk := (kP (kI .i64) (kI .i64))) (xs := s15) (ys := [(r24.1, r28.1)]) rfl rfl rfl rfl z_slT36 rfl (ho18.up (((hl22.trans hl23).trans hl27).trans hl31)) rfl (Ow.src (j := 1) ho34 rfl) hf38 hf39 (fun v35 g36 ho37 => ?_)
      refine o_store (j := 4) (vs := [v35]) (cs' := [v35]) rfl rfl rfl z_size36 rfl rfl (oneL_ow ho37) (ones_cons ho37.one' ones_nil) rfl rfl rfl ?_
      refine st_gs [g36, g33, [(b1, .cells #[.slice none 0 0] 36 (0, 0))], [(b2, .cells #[.int .i64 0] 46 (0, 0))], [(b3, .cells #[v35] 36 (0, 0))]] rfl ?_
      refine Z 2 rfl ?_
      refine st_ord [2, 2, 2, 0] _ rfl ?_
      exact st_rend (List.Sublist.refl _) (((hl22.trans hl23).trans hl27).trans hl31) ⟨_, h, ((((hl15.trans hl22).trans hl23).trans hl27).trans hl31), _, _, rfl, ho37⟩
  refine Z 3 rfl ?_
  refine o_mif rfl rfl rfl rfl h (fun h => ?_) (fun h => ?_)
  ·refine Z 4 rfl ?_
   exact hk23 _ _ _ ⟨true, h, (Sto.Le.refl _), rfl, rfl⟩
  ·refine o_move rfl rfl rfl rfl ?_
   obtain ⟨r40, hr41, h⟩ := h
   refine st_call (foot := []) rfl rfl rfl rfl (evs_cons rfl (evs_cons (ev_str z_str26) rfl)) rfl (callV_fn z_en116 (strings_Contains_ok hr41 τ21)) ?_
   rintro vτ42 τ42 gsτ42 hl43 ⟨rfl, rfl⟩
   refine Z 2 rfl ?_
   exact hk23 _ _ _ ⟨r40, h, hl43, rfl, rfl⟩
 ·rintro p51 τ52 gs15 f15 ht hl53 ⟨hb, v54, g55, rfl, ho56⟩ rfl
  subst ht
  replace h := hA15
  refine st_gs [[(b11, .cells #[.string w15] 9 (0, 0))], [(b1, .cells #[.slice none 0 0] 36 (0, 0))], [(b2, .cells #[.int .i64 0] 46 (0, 0))], [(b3, .cells #[v54] 36 (0, 0))], g55] rfl ?_
  refine ZZ 4 [3] rfl rfl ?_
  refine o_store (j := 1) (vs := [v54]) (cs' := [v54]) rfl rfl rfl z_size36 rfl rfl (oneL_ow ho56) (ones_cons ho56.one' ones_nil) rfl rfl rfl ?_
  refine st_gs [[(b11, .cells #[.string w15] 9 (0, 0))], [(b1, .cells #[v54] 36 (0, 0))], [(b2, .cells #[.int .i64 0] 46 (0, 0))], [(b3, .cells #[v54] 36 (0, 0))], g55] rfl ?_
  refine ZZ 2 [2] rfl rfl ?_
  refine st_ord [4, 0, 0, 0, 0] _ rfl ?_
  refine st_freeze (fun τ57 hl58 hg59 => ?_)
  have hs60 := ho56.freeze hl58 hg59
  obtain rfl := Eq.symm h
  exact st_retC (gs' := []) [v54, .int .i64 0] Tryz.func78 ⟨⟨_, _, _, _, rfl, mem_flat 1 rfl, fun w hw => cellOf z_sc36 rfl w hw⟩, ⟨_, _, _, _, rfl, mem_flat 2 rfl, fun w hw => cellOf z_sc46 rfl w hw⟩, trivial⟩ (by simp) ((hl7.trans hl53).trans hl58) ⟨_, rfl, rfl, hs60⟩
 ·rintro p44 cd15 τ45 gs15 f15 ht hl46 ⟨rfl, hb, v47, g48, rfl, ho49⟩ rfl
  subst ht
  replace h := hA15
  refine st_gs [[(b11, .cells #[.string w15] 9 (0, 0))], [(b1, .cells #[.slice none 0 0] 36 (0, 0))], [(b2, .cells #[.int .i64 p44.1] 46 (0, 0))], [(b3, .cells #[v47] 36 (0, 0))], g48] rfl ?_
  obtain rfl := Eq.symm h
  exact st_retC (gs' := []) [.slice none 0 0, .int .i64 p44.1] Tryz.func78 ⟨⟨_, _, _, _, rfl, mem_flat 1 rfl, fun w hw => cellOf z_sc36 rfl w hw⟩, ⟨_, _, _, _, rfl, mem_flat 2 rfl, fun w hw => cellOf z_sc46 rfl w hw⟩, trivial⟩ (by simp) (hl7.trans hl46) ⟨_, rfl, rfl, Sl.nil⟩
theorem say_cells_ok {a0 : ByteArray} {r : List Int × Int} (h : say_cells a0 r) (σ : Sto) (hE : Errs Tryz.prog σ) :
    Does Tryz.prog 79 [.string a0] σ [] (fun v τ gs => ∃ (v50 : Value), gs = [] ∧ .tuple [v50, .int .i64 r.2].toArray = v ∧ Sl (kI .i64) τ v50 r.1) := by
 refine call_of Tryz.func79 Tryz.ntmps79 rfl rfl (fun cs fs => ?_)
 refine Z 2 rfl ?_
 refine o_alloc rfl rfl rfl z_zero27 (fun b1 => ?_)
 refine o_alloc rfl rfl rfl z_zero46 (fun b2 => ?_)
 refine Z 3 rfl ?_
 refine o_alloc rfl rfl rfl z_zero27 (fun b3 => ?_)
 refine Z 5 rfl ?_
 obtain ⟨r4, hr5, h⟩ := h
 refine st_call (foot := []) rfl rfl rfl rfl (evs_cons rfl (evs_cons (ev_str z_str26) rfl)) rfl (callV_fn z_en76 (strings_SplitSeq_ok hr5 σ)) ?_
 rintro vτ6 τ6 gsτ6 hl7 ⟨f8, q9, b11, rfl, rfl, hit10⟩
 refine Z 2 rfl ?_
 obtain ⟨t15, w15, hR15, hA15⟩ := h
 refine st_env (ρ' := [(2, .pointer (some ⟨b1, 0, none⟩)), (3, .pointer (some ⟨b2, 0, none⟩)), (4, .pointer (some ⟨b3, 0, none⟩)), (9, .func (.func f8) #[] q9)]) ⟨rfl, rfl, rfl, rfl, trivial⟩ ?_
 refine st_addNil ?_
 refine st_ord [1, 3, 2, 1, 0] _ rfl ?_
 refine st_range (B := say_cells_l1) (s0 := []) ranges_fctx rfl (hit10 r4.2 τ6 (Sto.Le.refl _)) (Sto.Le.refl _) hR15 rfl (fun _ _ _ h => by cases h; rfl) (fun (s15 : List Int) τ15 gs => τ6.Le τ15 ∧ ∃ (v16 : Value) (g17 : Grp), gs = [[(b1, .cells #[.slice none 0 0] 27 (0, 0))], [(b2, .cells #[.int .i64 0] 46 (0, 0))], [(b3, .cells #[v16] 27 (0, 0))], g17] ∧ Ow (kI .i64) 3 τ15 v16 s15 g17) (fun (p31 : Int × List Int) cd τ32 gs => cd = .ret ∧ τ6.Le τ32 ∧ ∃ (v34 : Value) (g35 : Grp), gs = [[(b1, .cells #[.slice none 0 0] 27 (0, 0))], [(b2, .cells #[.int .i64 p31.1] 46 (0, 0))], [(b3, .cells #[v34] 27 (0, 0))], g35] ∧ Ow (kI .i64) 3 τ32 v34 p31.2 g35) (fun _ _ _ _ hl ⟨hb, v16, g17, hg, ho18⟩ => ⟨hb.trans hl, v16, g17, hg, ho18.up hl⟩) (fun _ _ _ _ _ hl ⟨hc, hb, v34, g35, hg, ho36⟩ => ⟨hc, hb.trans hl, v34, g35, hg, ho36.up hl⟩) ⟨Sto.Le.refl _, _, _, rfl, Ow.nil⟩ ?_ ?_ ?_
 ·rintro x15 s15 o15 τ15 gs15 vx15 hl15 h rfl ⟨hb15, v16, g17, rfl, ho18⟩ l15 rc15 caller15 cs15 fs15
  refine Z 3 rfl ?_
  refine st_begin ?_
  refine Z 4 rfl ?_
  obtain ⟨r19, hr20, h⟩ := h
  refine st_call (foot := []) rfl rfl rfl rfl rfl rfl (callV_fn z_en66 (say_Read_ok hr20 τ15 (hE.up (hl7.trans hl15)))) ?_
  rintro vτ21 τ21 gsτ21 hl22 ⟨rfl, rfl⟩
  refine Z 12 rfl ?_
  refine st_if rfl h (fun h => ?_) (fun h => ?_)
  ·refine ZZ 6 [0, 1] rfl rfl ?_
   exact st_rret (List.Sublist.refl _) hl22 ⟨_, h, rfl, (hl15.trans hl22), _, _, rfl, (ho18.up hl22)⟩
  ·refine ZZ 4 [2] rfl rfl ?_
   refine o_litE (eI .i64) [r19.1] rfl rfl rfl z_slT27 z_zero3 ⟨rfl, ⟨_, rfl, rfl⟩, trivial⟩ rfl rfl rfl rfl (fun v23 g24 ho25 => ?_)
   obtain ⟨hf29, hf30, h⟩ := h
   refine st_ord [4, 0, 0, 0, 0] _ rfl ?_
   refine o_append (dk := (kI .i64)) (xs := s15) (ys := [r19.1]) rfl rfl rfl rfl z_slT27 rfl (ho18.up hl22) rfl (Ow.src (j := 1) ho25 rfl) hf29 hf30 (fun v26 g27 ho28 => ?_)
   refine o_store (j := 4) (vs := [v26]) (cs' := [v26]) rfl rfl rfl z_size27 rfl rfl (oneL_ow ho28) (ones_cons ho28.one' ones_nil) rfl rfl rfl ?_
   refine st_gs [g27, g24, [(b1, .cells #[.slice none 0 0] 27 (0, 0))], [(b2, .cells #[.int .i64 0] 46 (0, 0))], [(b3, .cells #[v26] 27 (0, 0))]] rfl ?_
   refine Z 2 rfl ?_
   refine st_ord [2, 2, 2, 0] _ rfl ?_
   exact st_rend (List.Sublist.refl _) hl22 ⟨_, h, (hl15.trans hl22), _, _, rfl, ho28⟩
 ·rintro p38 τ39 gs15 f15 ht hl40 ⟨hb, v41, g42, rfl, ho43⟩ rfl
  subst ht
  replace h := hA15
  refine st_gs [[(b11, .cells #[.string w15] 9 (0, 0))], [(b1, .cells #[.slice none 0 0] 27 (0, 0))], [(b2, .cells #[.int .i64 0] 46 (0, 0))], [(b3, .cells #[v41] 27 (0, 0))], g42] rfl ?_
  refine ZZ 4 [3] rfl rfl ?_
  refine o_store (j := 1) (vs := [v41]) (cs' := [v41]) rfl rfl rfl z_size27 rfl rfl (oneL_ow ho43) (ones_cons ho43.one' ones_nil) rfl rfl rfl ?_
  refine st_gs [[(b11, .cells #[.string w15] 9 (0, 0))], [(b1, .cells #[v41] 27 (0, 0))], [(b2, .cells #[.int .i64 0] 46 (0, 0))], [(b3, .cells #[v41] 27 (0, 0))], g42] rfl ?_
  refine ZZ 2 [2] rfl rfl ?_
  refine st_ord [4, 0, 0, 0, 0] _ rfl ?_
  refine st_freeze (fun τ44 hl45 hg46 => ?_)
  have hs47 := ho43.freeze hl45 hg46
  obtain rfl := Eq.symm h
  exact st_retC (gs' := []) [v41, .int .i64 0] Tryz.func79 ⟨⟨_, _, _, _, rfl, mem_flat 1 rfl, fun w hw => cellOf z_sc27 rfl w hw⟩, ⟨_, _, _, _, rfl, mem_flat 2 rfl, fun w hw => cellOf z_sc46 rfl w hw⟩, trivial⟩ (by simp) ((hl7.trans hl40).trans hl45) ⟨_, rfl, rfl, hs47⟩
 ·rintro p31 cd15 τ32 gs15 f15 ht hl33 ⟨rfl, hb, v34, g35, rfl, ho36⟩ rfl
  subst ht
  replace h := hA15
  refine st_gs [[(b11, .cells #[.string w15] 9 (0, 0))], [(b1, .cells #[.slice none 0 0] 27 (0, 0))], [(b2, .cells #[.int .i64 p31.1] 46 (0, 0))], [(b3, .cells #[v34] 27 (0, 0))], g35] rfl ?_
  obtain rfl := Eq.symm h
  exact st_retC (gs' := []) [.slice none 0 0, .int .i64 p31.1] Tryz.func79 ⟨⟨_, _, _, _, rfl, mem_flat 1 rfl, fun w hw => cellOf z_sc27 rfl w hw⟩, ⟨_, _, _, _, rfl, mem_flat 2 rfl, fun w hw => cellOf z_sc46 rfl w hw⟩, trivial⟩ (by simp) (hl7.trans hl33) ⟨_, rfl, rfl, Sl.nil⟩
theorem say_unhex_ok {a0 : ByteArray} {r : ByteArray × Int} (h : say_unhex a0 r) (σ : Sto)  :
    Does Tryz.prog 80 [.string a0] σ [] (fun v τ gs => gs = [] ∧ .tuple [.string r.1, .int .i64 r.2].toArray = v) := by
 refine call_of Tryz.func80 Tryz.ntmps80 rfl rfl (fun cs fs => ?_)
 refine Z 2 rfl ?_
 refine o_assign rfl rfl rfl (ev_str z_str0) ?_
 refine Z 10 rfl ?_
 refine o_sbin (v := .bool (decide (a0 = (bstr [45])))) rfl rfl rfl rfl (ev_str z_str28) rfl ?_
 refine st_end ?_
 refine st_if rfl h (fun h => ?_) (fun h => ?_)
 ·refine Z 2 rfl ?_
  refine o_assign rfl rfl rfl (ev_str z_str0) ?_
  refine Z 2 rfl ?_
  obtain rfl := Eq.symm h
  exact st_ret (gs' := []) Tryz.func80 rfl (List.Sublist.refl _) (Sto.Le.refl _) ⟨rfl, rfl⟩
 ·refine Z 3 rfl ?_
  refine st_cut (fun ρ τ1 gs => ∃ (s1 : Bool), say_unhex_j1 a0 s1 r ∧ σ.Le τ1 ∧ ESub ρ [(0, .string a0), (2, .string (bstr [])), (3, .int .i64 0), (4, .slice none 0 0), (17, .bool s1)] ∧ gs = []) ?_ (fun hk1 => ?_)
  ·rintro ρ1 τ1 gs1 ⟨s1, h, hl1, hρ, rfl⟩
   refine st_es hρ ?_
   refine st_if rfl h (fun h => ?_) (fun h => ?_)
   ·refine Z 2 rfl ?_
    refine o_assign rfl rfl rfl (ev_str z_str0) ?_
    refine Z 2 rfl ?_
    obtain rfl := Eq.symm h
    exact st_ret (gs' := []) Tryz.func80 rfl (List.Sublist.refl _) hl1 ⟨rfl, rfl⟩
   ·refine Z 2 rfl ?_
    refine st_cut (fun ρ τ2 gs => ∃ (s2 : List Int) (v3 : Value) (g4 : Grp), say_unhex_j2 s2 r ∧ τ1.Le τ2 ∧ ESub ρ [(2, .string (bstr [])), (3, .int .i64 0), (4, v3)] ∧ gs = [g4] ∧ Ow (kI .u8) 5 τ2 v3 s2 g4) ?_ (fun hk2 => ?_)
    ·rintro ρ2 τ2 gs2 ⟨s2, v3, g4, h, hl2, hρ, rfl, ho5⟩
     refine st_es hρ ?_
     refine Z 3 rfl ?_
     refine st_freeze (fun τ6 hl7 hg8 => ?_)
     have hs9 := ho5.freeze hl7 hg8
     refine o_bstr (xs := s2) rfl rfl rfl Tryz.underlying23 Tryz.underlying5 Tryz.underlying9 rfl hs9 ?_
     refine Z 3 rfl ?_
     obtain rfl := Eq.symm h
     exact st_ret (gs' := []) Tryz.func80 rfl (List.Sublist.refl _) ((hl1.trans hl2).trans hl7) ⟨rfl, rfl⟩
    refine Z 4 rfl ?_
    obtain ⟨e11, hL11, hA11⟩ := h
    refine st_addNil ?_
    refine st_loop hL11 (fun (s11 : List Int × Int) ρ τ11 gs => τ1.Le τ11 ∧ ∃ (v12 : Value) (g13 : Grp), ESub ρ [(0, .string a0), (2, .string (bstr [])), (3, .int .i64 0), (4, v12), (5, .int .i64 s11.2)] ∧ gs = [g13] ∧ Ow (kI .u8) 5 τ11 v12 s11.1 g13) ⟨Sto.Le.refl _, _, _, rfl, rfl, Ow.nil⟩ ?_
    rintro s11 o11 h he11 ρ11 τ11 gs11 ⟨hl11, v12, g13, hρ, rfl, ho14⟩ hn11
    refine st_es hρ ?_
    refine Z 8 rfl ?_
    refine st_if rfl h (fun h => ?_) (fun h => ?_)
    ·refine Z 4 rfl ?_
     obtain ⟨q15, hf16, r17, hr18, q21, hf22, r23, hr24, h⟩ := h
     refine st_draw 10 (dl [.v (.string a0), .v (.int .i64 s11.2), .v (.int .u8 q15), .v (.int .i64 r17), .v (.string a0), .v (.int .i64 s11.2), .v (.int .i64 (IntKind.i64.wrap (s11.2 + 1))), .v (.int .u8 q21), .v (.int .i64 r23), .v (.int .i64 r17)]) (fun _ _ => []) z_mix rfl (dl_mono trivial) (allB_cons (allB_cons (allB_cons (allB_cons (allB_cons (allB_cons (allB_cons (allB_cons (allB_cons (allB_cons allB_nil (p1 dA)) (p1 dA)) ?_) ?_) (p1 dA)) (p1 dA)) (p1 dA)) ?_) ?_) (p1 dA)) ?_
     ·intro ρ' τ pool rs hl hd hout hk
      obtain ⟨_, e0, rfl⟩ := hd 0 rfl
      obtain ⟨_, e1, rfl⟩ := hd 1 rfl
      refine o_indexS rfl rfl rfl Tryz.underlying9 e0 e1 hf16 ?_
      exact st_addNil (hk _ _ (Sto.Le.refl _) rfl)
     ·intro ρ' τ pool rs hl hd hout hk
      obtain ⟨_, e2, rfl⟩ := hd 2 rfl
      refine st_call (foot := []) rfl rfl rfl rfl (evs_cons (ev_str z_str29) (evs_cons e2 rfl)) rfl (callV_fn z_en105 (strings_IndexByte_ok hr18 τ)) ?_
      rintro vτ19 τ19 gsτ19 hl20 ⟨rfl, rfl⟩
      exact st_addNil (hk _ _ hl20 rfl)
     ·intro ρ' τ pool rs hl hd hout hk
      obtain ⟨_, e4, rfl⟩ := hd 4 rfl
      obtain ⟨_, e6, rfl⟩ := hd 6 rfl
      refine o_indexS rfl rfl rfl Tryz.underlying9 e4 e6 hf22 ?_
      exact st_addNil (hk _ _ (Sto.Le.refl _) rfl)
     ·intro ρ' τ pool rs hl hd hout hk
      obtain ⟨_, e7, rfl⟩ := hd 7 rfl
      refine st_call (foot := []) rfl rfl rfl rfl (evs_cons (ev_str z_str29) (evs_cons e7 rfl)) rfl (callV_fn z_en105 (strings_IndexByte_ok hr24 τ)) ?_
      rintro vτ25 τ25 gsτ25 hl26 ⟨rfl, rfl⟩
      exact st_addNil (hk _ _ hl26 rfl)
     intro ρ' τ27 vals hl27 hv hout
     refine st_ord [0] _ rfl ?_
     refine st_env (ρ' := [(32, .int .i64 r23), (6, .int .i64 r17), (0, .string a0), (2, .string (bstr [])), (3, .int .i64 0), (4, v12), (5, .int .i64 s11.2)]) ⟨(lv1 hv 8 rfl rfl), (lv1 hv 9 rfl rfl), (hout 0 rfl).trans rfl, (hout 2 rfl).trans rfl, (hout 3 rfl).trans rfl, (hout 4 rfl).trans rfl, (hout 5 rfl).trans rfl, trivial⟩ ?_
     refine Z 4 rfl ?_
     refine st_cut (fun ρ τ28 gs => ∃ (s28 : Bool), say_unhex_j4 s11 r17 r23 s28 o11 ∧ τ27.Le τ28 ∧ ESub ρ [(6, .int .i64 r17), (0, .string a0), (2, .string (bstr [])), (3, .int .i64 0), (4, v12), (5, .int .i64 s11.2), (7, .int .i64 r23), (38, .bool s28)] ∧ gs = [g13]) ?_ (fun hk28 => ?_)
     ·rintro ρ28 τ28 gs28 ⟨s28, h, hl28, hρ, rfl⟩
      refine st_es hρ ?_
      refine st_if rfl h (fun h => ?_) (fun h => ?_)
      ·refine Z 2 rfl ?_
       refine o_assign rfl rfl rfl (ev_str z_str0) ?_
       refine Z 2 rfl ?_
       refine st_ord [] _ rfl ?_
       obtain rfl := he11 _ h
       replace h := hA11
       obtain rfl := Eq.symm h
       exact st_ret (gs' := []) Tryz.func80 rfl (List.Sublist.refl _) (((hl1.trans hl11).trans hl27).trans hl28) ⟨rfl, rfl⟩
      ·refine Z 8 rfl ?_
       refine o_litE (eI .u8) [(IntKind.u8.wrap (ior .i64 (ishl .i64 r17 4) r23))] rfl rfl rfl z_slT23 z_zero5 ⟨rfl, ⟨_, rfl, rfl⟩, trivial⟩ rfl rfl rfl rfl (fun v29 g30 ho31 => ?_)
       obtain ⟨hf35, hf36, h⟩ := h
       refine st_ord [1, 0] _ rfl ?_
       refine o_append (dk := (kI .u8)) (xs := s11.1) (ys := [(IntKind.u8.wrap (ior .i64 (ishl .i64 r17 4) r23))]) rfl rfl rfl rfl z_slT23 rfl (ho14.up (hl27.trans hl28)) rfl (Ow.src (j := 1) ho31 rfl) hf35 hf36 (fun v32 g33 ho34 => ?_)
       refine Z 8 rfl ?_
       refine st_ord [0] _ rfl ?_
       exact hn11 _ _ _ _ h ⟨((hl11.trans hl27).trans hl28), _, _, rfl, rfl, ho34⟩
     refine Z 3 rfl ?_
     refine o_mif rfl rfl rfl rfl h (fun h => ?_) (fun h => ?_)
     ·refine Z 4 rfl ?_
      exact hk28 _ _ _ ⟨true, h, (Sto.Le.refl _), rfl, rfl⟩
     ·refine Z 4 rfl ?_
      exact hk28 _ _ _ ⟨(decide (r23 < 0)), h, (Sto.Le.refl _), rfl, rfl⟩
    ·refine st_exit rfl ?_
     obtain rfl := he11 _ h
     replace h := hA11
     exact hk2 _ _ _ ⟨s11.1, _, _, h, hl11, rfl, rfl, ho14⟩
  refine Z 2 rfl ?_
  refine o_sbin (v := .bool (decide (a0 = (bstr [])))) rfl rfl rfl rfl (ev_str z_str0) rfl ?_
  refine o_mif rfl rfl rfl rfl h (fun h => ?_) (fun h => ?_)
  ·refine Z 6 rfl ?_
   exact hk1 _ _ _ ⟨true, h, (Sto.Le.refl _), rfl, rfl⟩
  ·refine Z 6 rfl ?_
   exact hk1 _ _ _ ⟨(!(decide (((a0.size : Int).tmod 2) = 0))), h, (Sto.Le.refl _), rfl, rfl⟩
theorem say_read_ok {a0 : Int × List Int × List (Int × Int) × List Int × ByteArray × ByteArray} {a1 : ByteArray × Int × Int × Int × Int × Int × Int} {a2 : ByteArray} {ba0 : Nat} {v1 : Value} {v2 : Value} {r : Int × (Int × List Int × List (Int × Int) × List Int × ByteArray × ByteArray)} (h : say_read a0 a1 a2 r) (σ : Sto) (hs3 : Sl (kP (kI .i64) (kI .i64)) σ v1 a0.2.2.1) (hs4 : Sl (kI .i64) σ v2 a0.2.2.2.1) (hE : Errs Tryz.prog σ) :
    Does Tryz.prog 44 [.pointer (some ⟨ba0, 0, none⟩), .agg [.string a1.1, .int .i64 a1.2.1, .int .i64 a1.2.2.1, .int .i64 a1.2.2.2.1, .int .i64 a1.2.2.2.2.1, .int .i64 a1.2.2.2.2.2.1, .int .i64 a1.2.2.2.2.2.2].toArray, .string a2] σ [[(ba0, .cells [.int .i64 a0.1, .int .i64 (a0.2.1.getD 0 0), .int .i64 (a0.2.1.getD 1 0), .int .i64 (a0.2.1.getD 2 0), .int .i64 (a0.2.1.getD 3 0), .int .i64 (a0.2.1.getD 4 0), .int .i64 (a0.2.1.getD 5 0), v1, v2, .string a0.2.2.2.2.1, .string a0.2.2.2.2.2].toArray 38 (0, 0))]] (fun v τ gs => ∃ (v38 : Value) (v39 : Value), gs = [[(ba0, .cells [.int .i64 r.2.1, .int .i64 (r.2.2.1.getD 0 0), .int .i64 (r.2.2.1.getD 1 0), .int .i64 (r.2.2.1.getD 2 0), .int .i64 (r.2.2.1.getD 3 0), .int .i64 (r.2.2.1.getD 4 0), .int .i64 (r.2.2.1.getD 5 0), v38, v39, .string r.2.2.2.2.2.1, .string r.2.2.2.2.2.2].toArray 38 (0, 0))]] ∧ .int .i64 r.1 = v ∧ Sl (kP (kI .i64) (kI .i64)) τ v38 r.2.2.2.1 ∧ Sl (kI .i64) τ v39 r.2.2.2.2.1) := by
 refine call_of Tryz.func44 Tryz.ntmps44 rfl rfl (fun cs fs => ?_)
 refine Z 2 rfl ?_
 refine o_boxC rfl rfl rfl rfl rfl rfl (fun b5 => ?_)
 refine Z 3 rfl ?_
 refine st_cut (fun ρ τ6 gs => ∃ (s6 : Int × Int × Int × Int × Int × Int × Int × (List (Int × Int)) × List Int × ByteArray × ByteArray) (v7 : Value) (v9 : Value), say_read_j1 a0 s6 r ∧ σ.Le τ6 ∧ ESub ρ [(6, .int .i64 s6.1)] ∧ gs = [[(ba0, .cells #[.int .i64 a0.1, .int .i64 s6.2.1, .int .i64 s6.2.2.1, .int .i64 s6.2.2.2.1, .int .i64 s6.2.2.2.2.1, .int .i64 s6.2.2.2.2.2.1, .int .i64 s6.2.2.2.2.2.2.1, v7, v9, .string s6.2.2.2.2.2.2.2.2.2.1, .string s6.2.2.2.2.2.2.2.2.2.2] 38 (0, 0))]] ∧ Sl (kP (kI .i64) (kI .i64)) τ6 v7 s6.2.2.2.2.2.2.2.1 ∧ Sl (kI .i64) τ6 v9 s6.2.2.2.2.2.2.2.2.1) ?_ (fun hk6 => ?_)
 ·rintro ρ6 τ6 gs6 ⟨s6, v7, v9, h, hl6, hρ, rfl, hs8, hs10⟩
  refine st_es hρ ?_
  refine Z 5 rfl ?_
  obtain rfl := Eq.symm h
  exact st_ret (gs' := [[(ba0, .cells #[.int .i64 a0.1, .int .i64 s6.2.1, .int .i64 s6.2.2.1, .int .i64 s6.2.2.2.1, .int .i64 s6.2.2.2.2.1, .int .i64 s6.2.2.2.2.2.1, .int .i64 s6.2.2.2.2.2.2.1, v7, v9, .string s6.2.2.2.2.2.2.2.2.2.1, .string s6.2.2.2.2.2.2.2.2.2.2] 38 (0, 0))]]) Tryz.func44 rfl (List.Sublist.refl _) hl6 ⟨_, _, rfl, rfl, hs8, hs10⟩
 refine ZZ 11 [0] rfl rfl ?_
 refine st_if rfl h (fun h => ?_) (fun h => ?_)
 ·refine Z 3 rfl ?_
  obtain ⟨r11, hr12, h⟩ := h
  refine st_call (foot := []) rfl rfl rfl rfl rfl rfl (callV_fn z_en78 (say_points_ok hr12 σ hE)) ?_
  rintro vτ13 τ13 gsτ13 hl14 ⟨v15, rfl, rfl, hs16⟩
  refine Z 5 rfl ?_
  refine o_store (j := 1) (vs := [v15]) (cs' := [.int .i64 a0.1, .int .i64 (a0.2.1.getD 0 0), .int .i64 (a0.2.1.getD 1 0), .int .i64 (a0.2.1.getD 2 0), .int .i64 (a0.2.1.getD 3 0), .int .i64 (a0.2.1.getD 4 0), .int .i64 (a0.2.1.getD 5 0), v15, v2, .string a0.2.2.2.2.1, .string a0.2.2.2.2.2]) rfl rfl rfl z_size36 rfl rfl (oneL_sl hs16) (ones_cons hs16.one' ones_nil) rfl rfl rfl ?_
  refine st_gs [[(b5, .cells #[.string a1.1, .int .i64 a1.2.1, .int .i64 a1.2.2.1, .int .i64 a1.2.2.2.1, .int .i64 a1.2.2.2.2.1, .int .i64 a1.2.2.2.2.2.1, .int .i64 a1.2.2.2.2.2.2] 96 (0, 0))], [(ba0, .cells #[.int .i64 a0.1, .int .i64 (a0.2.1.getD 0 0), .int .i64 (a0.2.1.getD 1 0), .int .i64 (a0.2.1.getD 2 0), .int .i64 (a0.2.1.getD 3 0), .int .i64 (a0.2.1.getD 4 0), .int .i64 (a0.2.1.getD 5 0), v15, v2, .string a0.2.2.2.2.1, .string a0.2.2.2.2.2] 38 (0, 0))]] rfl ?_
  refine Z 3 rfl ?_
  refine st_ord [1] _ rfl ?_
  exact hk6 _ _ _ ⟨(r11.2, (a0.2.1.getD 0 0), (a0.2.1.getD 1 0), (a0.2.1.getD 2 0), (a0.2.1.getD 3 0), (a0.2.1.getD 4 0), (a0.2.1.getD 5 0), r11.1, a0.2.2.2.1, a0.2.2.2.2.1, a0.2.2.2.2.2), _, _, h, hl14, rfl, rfl, hs16, (hs4.up hl14)⟩
 ·refine Z 5 rfl ?_
  refine st_if rfl h (fun h => ?_) (fun h => ?_)
  ·refine Z 3 rfl ?_
   obtain ⟨r17, hr18, h⟩ := h
   refine st_call (foot := []) rfl rfl rfl rfl rfl rfl (callV_fn z_en79 (say_cells_ok hr18 σ hE)) ?_
   rintro vτ19 τ19 gsτ19 hl20 ⟨v21, rfl, rfl, hs22⟩
   refine Z 5 rfl ?_
   refine o_store (j := 1) (vs := [v21]) (cs' := [.int .i64 a0.1, .int .i64 (a0.2.1.getD 0 0), .int .i64 (a0.2.1.getD 1 0), .int .i64 (a0.2.1.getD 2 0), .int .i64 (a0.2.1.getD 3 0), .int .i64 (a0.2.1.getD 4 0), .int .i64 (a0.2.1.getD 5 0), v1, v21, .string a0.2.2.2.2.1, .string a0.2.2.2.2.2]) rfl rfl rfl z_size27 rfl rfl (oneL_sl hs22) (ones_cons hs22.one' ones_nil) rfl rfl rfl ?_
   refine st_gs [[(b5, .cells #[.string a1.1, .int .i64 a1.2.1, .int .i64 a1.2.2.1, .int .i64 a1.2.2.2.1, .int .i64 a1.2.2.2.2.1, .int .i64 a1.2.2.2.2.2.1, .int .i64 a1.2.2.2.2.2.2] 96 (0, 0))], [(ba0, .cells #[.int .i64 a0.1, .int .i64 (a0.2.1.getD 0 0), .int .i64 (a0.2.1.getD 1 0), .int .i64 (a0.2.1.getD 2 0), .int .i64 (a0.2.1.getD 3 0), .int .i64 (a0.2.1.getD 4 0), .int .i64 (a0.2.1.getD 5 0), v1, v21, .string a0.2.2.2.2.1, .string a0.2.2.2.2.2] 38 (0, 0))]] rfl ?_
   refine Z 3 rfl ?_
   refine st_ord [1] _ rfl ?_
   exact hk6 _ _ _ ⟨(r17.2, (a0.2.1.getD 0 0), (a0.2.1.getD 1 0), (a0.2.1.getD 2 0), (a0.2.1.getD 3 0), (a0.2.1.getD 4 0), (a0.2.1.getD 5 0), a0.2.2.1, r17.1, a0.2.2.2.2.1, a0.2.2.2.2.2), _, _, h, hl20, rfl, rfl, (hs3.up hl20), hs22⟩
  ·refine Z 5 rfl ?_
   refine st_if rfl h (fun h => ?_) (fun h => ?_)
   ·refine Z 3 rfl ?_
    obtain ⟨r23, hr24, h⟩ := h
    refine st_call (foot := []) rfl rfl rfl rfl rfl rfl (callV_fn z_en80 (say_unhex_ok hr24 σ)) ?_
    rintro vτ25 τ25 gsτ25 hl26 ⟨rfl, rfl⟩
    refine ZZ 9 [1] rfl rfl ?_
    refine st_ord [1] _ rfl ?_
    exact hk6 _ _ _ ⟨(r23.2, (a0.2.1.getD 0 0), (a0.2.1.getD 1 0), (a0.2.1.getD 2 0), (a0.2.1.getD 3 0), (a0.2.1.getD 4 0), (a0.2.1.getD 5 0), a0.2.2.1, a0.2.2.2.1, r23.1, a0.2.2.2.2.2), _, _, h, hl26, rfl, rfl, (hs3.up hl26), (hs4.up hl26)⟩
   ·refine Z 5 rfl ?_
    refine st_if rfl h (fun h => ?_) (fun h => ?_)
    ·refine Z 3 rfl ?_
     obtain ⟨r27, hr28, h⟩ := h
     refine st_call (foot := []) rfl rfl rfl rfl rfl rfl (callV_fn z_en80 (say_unhex_ok hr28 σ)) ?_
     rintro vτ29 τ29 gsτ29 hl30 ⟨rfl, rfl⟩
     refine ZZ 9 [1] rfl rfl ?_
     refine st_ord [1] _ rfl ?_
     exact hk6 _ _ _ ⟨(r27.2, (a0.2.1.getD 0 0), (a0.2.1.getD 1 0), (a0.2.1.getD 2 0), (a0.2.1.getD 3 0), (a0.2.1.getD 4 0), (a0.2.1.getD 5 0), a0.2.2.1, a0.2.2.2.1, a0.2.2.2.2.1, r27.1), _, _, h, hl30, rfl, rfl, (hs3.up hl30), (hs4.up hl30)⟩
    ·obtain ⟨r31, hr32, hf35, hf36, h⟩ := h
     refine st_d41 [[(b5, .cells #[.string a1.1, .int .i64 a1.2.1, .int .i64 a1.2.2.1, .int .i64 a1.2.2.2.1, .int .i64 a1.2.2.2.2.1, .int .i64 a1.2.2.2.2.2.1, .int .i64 a1.2.2.2.2.2.2] 96 (0, 0))]] [[(ba0, .cells #[.int .i64 a0.1, .int .i64 (a0.2.1.getD 0 0), .int .i64 (a0.2.1.getD 1 0), .int .i64 (a0.2.1.getD 2 0), .int .i64 (a0.2.1.getD 3 0), .int .i64 (a0.2.1.getD 4 0), .int .i64 (a0.2.1.getD 5 0), v1, v2, .string a0.2.2.2.2.1, .string a0.2.2.2.2.2] 38 (0, 0))]] 12 1 [none, none, none, none, none, none, none, none, none, none, none, some (0, 0)] [none, none, none, none, none, none, none, none, none, none, none, none] [[none, none]] [.v (.pointer (some ⟨ba0, 0, none⟩)), .v (.pointer (some ⟨b5, 2, none⟩)), .v (.int .i64 a1.2.2.1), .v (.string a2), .v (.tuple #[.int .i64 r31.1, .int .i64 r31.2]), .v (.tuple #[.int .i64 r31.1, .int .i64 r31.2]), .v (.int .i64 r31.1), .v (.int .i64 r31.2), .v (.pointer (some ⟨ba0, 0, none⟩)), .v (.pointer (some ⟨ba0, 1, none⟩)), .v (.pointer (some ⟨ba0, 1 + a1.2.2.1.toNat * 1, none⟩)), .t fun _ _ => True] [[fun τ u F => F = [[(ba0, .cells #[.int .i64 a0.1, .int .i64 (a0.2.1.getD 0 0), .int .i64 (a0.2.1.getD 1 0), .int .i64 (a0.2.1.getD 2 0), .int .i64 (a0.2.1.getD 3 0), .int .i64 (a0.2.1.getD 4 0), .int .i64 (a0.2.1.getD 5 0), v1, v2, .string a0.2.2.2.2.1, .string a0.2.2.2.2.2] 38 (0, 0))]], fun τ u F => F = [[(ba0, .cells #[.int .i64 a0.1, .int .i64 ((putN 6 0 a0.2.1 a1.2.2.1.toNat r31.1).getD 0 0), .int .i64 ((putN 6 0 a0.2.1 a1.2.2.1.toNat r31.1).getD 1 0), .int .i64 ((putN 6 0 a0.2.1 a1.2.2.1.toNat r31.1).getD 2 0), .int .i64 ((putN 6 0 a0.2.1 a1.2.2.1.toNat r31.1).getD 3 0), .int .i64 ((putN 6 0 a0.2.1 a1.2.2.1.toNat r31.1).getD 4 0), .int .i64 ((putN 6 0 a0.2.1 a1.2.2.1.toNat r31.1).getD 5 0), v1, v2, .string a0.2.2.2.2.1, .string a0.2.2.2.2.2] 38 (0, 0))]]]] rfl z_mix rfl ⟨fun _ _ _ _ _ => trivial, trivial⟩ ⟨⟨fun _ _ _ _ hl h => h, ⟨fun _ _ _ _ hl h => h, trivial⟩⟩, trivial⟩ rfl rfl ?_ (allB_cons (allB_cons (allB_cons (allB_cons (allB_cons (allB_cons (allB_cons (allB_cons (allB_cons (allB_cons (allB_cons (allB_cons allB_nil (p4 dA)) (p4 dA)) ?_) (p4 dA)) ?_) ?_) (p4 dA)) (p4 dA)) (p4 dA)) (p4 dA)) ?_) ?_) ?_
     ·exact rfl
     ·intro ρ' τ pool rs hl hd hout hw hk
      obtain ⟨_, e1, rfl⟩ := hd 1 rfl _ rfl
      refine o_load (j := 0) (v := .int .i64 a1.2.2.1) rfl rfl rfl z_sc3 e1 rfl rfl ?_
      exact hk _ _ (Sto.Le.refl _) rfl
     ·intro ρ' τ pool rs hl hd hout hw hk
      obtain ⟨_, e3, rfl⟩ := hd 3 rfl _ rfl
      refine st_call (foot := []) rfl rfl rfl rfl (evs_cons e3 rfl) rfl (callV_fn z_en66 (say_Read_ok hr32 τ (hE.up hl))) ?_
      rintro vτ33 τ33 gsτ33 hl34 ⟨rfl, rfl⟩
      exact hk _ _ hl34 rfl
     ·intro ρ' τ pool rs hl hd hout hw hk
      obtain ⟨_, e4, rfl⟩ := hd 4 rfl _ rfl
      refine o_move rfl rfl rfl e4 ?_
      exact hk _ _ (Sto.Le.refl _) rfl
     ·intro ρ' τ pool rs hl hd hout hw hk
      obtain ⟨_, e2, rfl⟩ := hd 2 rfl _ rfl
      obtain ⟨_, e9, rfl⟩ := hd 9 rfl _ rfl
      refine o_indexA rfl rfl rfl z_arr35 e9 e2 hf35 hf36 ?_
      exact hk _ _ (Sto.Le.refl _) rfl
     ·intro ρ' τ u Fv pool rs hl hI hu hd hout hw hk
      obtain ⟨_, e6, rfl⟩ := hd 6 rfl _ rfl
      obtain ⟨_, e10, rfl⟩ := hd 10 rfl _ rfl
      have hI0 := hI
      obtain rfl := hI
      refine st_gs [[(b5, .cells #[.string a1.1, .int .i64 a1.2.1, .int .i64 a1.2.2.1, .int .i64 a1.2.2.2.1, .int .i64 a1.2.2.2.2.1, .int .i64 a1.2.2.2.2.2.1, .int .i64 a1.2.2.2.2.2.2] 96 (0, 0))], [(ba0, .cells #[.int .i64 a0.1, .int .i64 (a0.2.1.getD 0 0), .int .i64 (a0.2.1.getD 1 0), .int .i64 (a0.2.1.getD 2 0), .int .i64 (a0.2.1.getD 3 0), .int .i64 (a0.2.1.getD 4 0), .int .i64 (a0.2.1.getD 5 0), v1, v2, .string a0.2.2.2.2.1, .string a0.2.2.2.2.2] 38 (0, 0))], pool] rfl ?_
      refine o_storeV (j := 1) (a1.2.2.1.toNat) (f := (Value.int .i64)) (zz := 0) (a := r31.1) (l := 6) (xs := a0.2.1) [.int .i64 a0.1] [v1, v2, .string a0.2.2.2.2.1, .string a0.2.2.2.2.2] rfl rfl rfl z_size3 e10 e6 rfl rfl rfl (by simp only [List.length_cons, List.length_nil] <;> omega) (by omega) ?_
      refine st_gs [[(b5, .cells #[.string a1.1, .int .i64 a1.2.1, .int .i64 a1.2.2.1, .int .i64 a1.2.2.2.1, .int .i64 a1.2.2.2.2.1, .int .i64 a1.2.2.2.2.2.1, .int .i64 a1.2.2.2.2.2.2] 96 (0, 0))], [(ba0, .cells #[.int .i64 a0.1, .int .i64 ((putN 6 0 a0.2.1 a1.2.2.1.toNat r31.1).getD 0 0), .int .i64 ((putN 6 0 a0.2.1 a1.2.2.1.toNat r31.1).getD 1 0), .int .i64 ((putN 6 0 a0.2.1 a1.2.2.1.toNat r31.1).getD 2 0), .int .i64 ((putN 6 0 a0.2.1 a1.2.2.1.toNat r31.1).getD 3 0), .int .i64 ((putN 6 0 a0.2.1 a1.2.2.1.toNat r31.1).getD 4 0), .int .i64 ((putN 6 0 a0.2.1 a1.2.2.1.toNat r31.1).getD 5 0), v1, v2, .string a0.2.2.2.2.1, .string a0.2.2.2.2.2] 38 (0, 0))], pool] rfl ?_
      exact hk _ _ [[(ba0, .cells #[.int .i64 a0.1, .int .i64 ((putN 6 0 a0.2.1 a1.2.2.1.toNat r31.1).getD 0 0), .int .i64 ((putN 6 0 a0.2.1 a1.2.2.1.toNat r31.1).getD 1 0), .int .i64 ((putN 6 0 a0.2.1 a1.2.2.1.toNat r31.1).getD 2 0), .int .i64 ((putN 6 0 a0.2.1 a1.2.2.1.toNat r31.1).getD 3 0), .int .i64 ((putN 6 0 a0.2.1 a1.2.2.1.toNat r31.1).getD 4 0), .int .i64 ((putN 6 0 a0.2.1 a1.2.2.1.toNat r31.1).getD 5 0), v1, v2, .string a0.2.2.2.2.1, .string a0.2.2.2.2.2] 38 (0, 0))]] (Sto.Le.refl _) trivial (by exact rfl)
     intro ρ' τ37 vals u Fv hl37 hI hu hv hout
     obtain rfl := hI
     refine st_gs [[(b5, .cells #[.string a1.1, .int .i64 a1.2.1, .int .i64 a1.2.2.1, .int .i64 a1.2.2.2.1, .int .i64 a1.2.2.2.2.1, .int .i64 a1.2.2.2.2.2.1, .int .i64 a1.2.2.2.2.2.2] 96 (0, 0))], [(ba0, .cells #[.int .i64 a0.1, .int .i64 ((putN 6 0 a0.2.1 a1.2.2.1.toNat r31.1).getD 0 0), .int .i64 ((putN 6 0 a0.2.1 a1.2.2.1.toNat r31.1).getD 1 0), .int .i64 ((putN 6 0 a0.2.1 a1.2.2.1.toNat r31.1).getD 2 0), .int .i64 ((putN 6 0 a0.2.1 a1.2.2.1.toNat r31.1).getD 3 0), .int .i64 ((putN 6 0 a0.2.1 a1.2.2.1.toNat r31.1).getD 4 0), .int .i64 ((putN 6 0 a0.2.1 a1.2.2.1.toNat r31.1).getD 5 0), v1, v2, .string a0.2.2.2.2.1, .string a0.2.2.2.2.2] 38 (0, 0))]] rfl ?_
     refine st_env (ρ' := [(16, .int .i64 r31.2), (6, .int .i64 0)]) ⟨(lv4 hv 7 rfl rfl rfl), (hout 6 rfl).trans rfl, trivial⟩ ?_
     refine Z 3 rfl ?_
     refine st_ord [1] _ rfl ?_
     exact hk6 _ _ _ ⟨(r31.2, ((putN 6 0 a0.2.1 a1.2.2.1.toNat r31.1).getD 0 0), ((putN 6 0 a0.2.1 a1.2.2.1.toNat r31.1).getD 1 0), ((putN 6 0 a0.2.1 a1.2.2.1.toNat r31.1).getD 2 0), ((putN 6 0 a0.2.1 a1.2.2.1.toNat r31.1).getD 3 0), ((putN 6 0 a0.2.1 a1.2.2.1.toNat r31.1).getD 4 0), ((putN 6 0 a0.2.1 a1.2.2.1.toNat r31.1).getD 5 0), a0.2.2.1, a0.2.2.2.1, a0.2.2.2.2.1, a0.2.2.2.2.2), _, _, h, hl37, rfl, rfl, (hs3.up hl37), (hs4.up hl37)⟩
theorem say_Parse_ok {a0 : ByteArray} {r : (Int × List Int × List (Int × Int) × List Int × ByteArray × ByteArray) × Int} (h : say_Parse a0 r) (σ : Sto) (hE : Errs Tryz.prog σ) :
    Does Tryz.prog 17 [.string a0] σ [] (fun v τ gs => ∃ (v111 : Value) (v112 : Value), gs = [] ∧ .tuple [.agg [.int .i64 r.1.1, .int .i64 (r.1.2.1.getD 0 0), .int .i64 (r.1.2.1.getD 1 0), .int .i64 (r.1.2.1.getD 2 0), .int .i64 (r.1.2.1.getD 3 0), .int .i64 (r.1.2.1.getD 4 0), .int .i64 (r.1.2.1.getD 5 0), v111, v112, .string r.1.2.2.2.2.1, .string r.1.2.2.2.2.2].toArray, .int .i64 r.2].toArray = v ∧ Sl (kP (kI .i64) (kI .i64)) τ v111 r.1.2.2.1 ∧ Sl (kI .i64) τ v112 r.1.2.2.2.1) := by
 refine call_of Tryz.func17 Tryz.ntmps17 rfl rfl (fun cs fs => ?_)
 refine Z 2 rfl ?_
 refine o_alloc rfl rfl rfl z_zero38 (fun b1 => ?_)
 refine Z 5 rfl ?_
 refine o_alloc rfl rfl rfl z_zero106 (fun b2 => ?_)
 refine Z 5 rfl ?_
 obtain ⟨r3, hr4, h⟩ := h
 refine st_call (foot := []) rfl rfl rfl rfl rfl rfl (callV_fn z_en41 (say_Words_ok hr4 σ)) ?_
 rintro vτ5 τ5 gsτ5 hl6 ⟨f7, q8, rfl, rfl, hit9⟩
 refine Z 2 rfl ?_
 obtain ⟨t10, w10, hR10, hA10⟩ := h
 refine st_env (ρ' := [(2, .pointer (some ⟨b1, 0, none⟩)), (3, .int .i64 0), (4, .pointer (some ⟨b2, 0, none⟩)), (18, .func (.func f7) #[] q8)]) ⟨rfl, rfl, rfl, rfl, trivial⟩ ?_
 refine st_addNil ?_
 refine st_ord [2, 1, 0] _ rfl ?_
 refine st_addNil ?_
 refine st_range (B := say_Parse_l1) (s0 := []) ranges_fctx rfl hit9 (Sto.Le.refl _) hR10 rfl (fun _ _ _ h => by cases h; rfl) (fun (s10 : List ByteArray) τ10 gs => τ5.Le τ10 ∧ ∃ (v11 : Value) (g12 : Grp), gs = [[(b1, .cells #[.int .i64 0, .int .i64 0, .int .i64 0, .int .i64 0, .int .i64 0, .int .i64 0, .int .i64 0, .slice none 0 0, .slice none 0 0, .string (bstr []), .string (bstr [])] 38 (0, 0))], [(b2, .cells #[v11] 106 (0, 0))], g12] ∧ Ow kS 9 τ10 v11 s10 g12) (fun _ _ _ _ => False) (fun _ _ _ _ hl ⟨hb, v11, g12, hg, ho13⟩ => ⟨hb.trans hl, v11, g12, hg, ho13.up hl⟩) (fun _ _ _ _ _ _ h => h.elim) ⟨Sto.Le.refl _, _, _, rfl, Ow.nil⟩ ?_ ?_ ?_
 ·rintro x10 s10 o10 τ10 gs10 vx10 hl10 h rfl ⟨hb10, v11, g12, rfl, ho13⟩ l10 rc10 caller10 cs10 fs10
  refine Z 3 rfl ?_
  refine st_begin ?_
  refine ZZ 4 [1] rfl rfl ?_
  refine o_litE eS [x10.2] rfl rfl rfl z_slT106 z_zero9 ⟨rfl, ⟨_, rfl, rfl⟩, trivial⟩ rfl rfl rfl rfl (fun v14 g15 ho16 => ?_)
  obtain ⟨hf20, hf21, h⟩ := h
  refine st_ord [3, 0, 0, 0] _ rfl ?_
  refine o_append (dk := kS) (xs := s10) (ys := [x10.2]) rfl rfl rfl rfl z_slT106 rfl ho13 rfl (Ow.src (j := 1) ho16 rfl) hf20 hf21 (fun v17 g18 ho19 => ?_)
  refine o_store (j := 3) (vs := [v17]) (cs' := [v17]) rfl rfl rfl z_size106 rfl rfl (oneL_ow ho19) (ones_cons ho19.one' ones_nil) rfl rfl rfl ?_
  refine st_gs [g18, g15, [(b1, .cells #[.int .i64 0, .int .i64 0, .int .i64 0, .int .i64 0, .int .i64 0, .int .i64 0, .int .i64 0, .slice none 0 0, .slice none 0 0, .string (bstr []), .string (bstr [])] 38 (0, 0))], [(b2, .cells #[v17] 106 (0, 0))]] rfl ?_
  refine Z 2 rfl ?_
  refine st_ord [2, 2, 0] _ rfl ?_
  exact st_rend (List.Sublist.refl _) (Sto.Le.refl _) ⟨_, h, hl10, _, _, rfl, ho19⟩
 ·rintro p22 τ23 gs10 f10 ht hl24 ⟨hb, v25, g26, rfl, ho27⟩ rfl
  subst ht
  replace h := hA10
  refine st_ord [1, 1, 1] _ rfl ?_
  refine Z 4 rfl ?_
  refine o_alloc rfl rfl rfl z_zero110 (fun b28 => ?_)
  refine ZZ 5 [0, 0] rfl rfl ?_
  obtain ⟨r33, hr34, h⟩ := h
  refine st_ord [3, 0, 0, 0] _ rfl ?_
  refine st_freeze (fun τ29 hl30 hg31 => ?_)
  have hs32 := ho27.freeze hl30 hg31
  refine st_ord [2, 0, 0] _ rfl ?_
  refine st_call (foot := [[(b2, .cells #[v25] 106 (0, 0))]]) rfl rfl rfl rfl rfl rfl (callV_of2 (caps := [.pointer (some ⟨b2, 0, none⟩)]) z_en42 (say_Parse_1_ok hr34 τ29 hs32) rfl) ?_
  rintro vτ35 τ35 gsτ35 hl36 ⟨v37, rfl, rfl, hs38⟩
  refine Z 9 rfl ?_
  obtain ⟨r39, hr40, h⟩ := h
  refine st_call (foot := []) rfl rfl rfl rfl rfl rfl (callV_fn z_en43 (field_Kind_ok hr40 τ35)) ?_
  rintro vτ41 τ41 gsτ41 hl42 ⟨rfl, rfl⟩
  refine ZZ 1 [] rfl rfl ?_
  refine o_alloc rfl rfl rfl z_zero38 (fun b43 => ?_)
  refine ZZ 4 [0] rfl rfl ?_
  refine o_alloc rfl rfl rfl z_zero46 (fun b44 => ?_)
  refine ZZ 3 [0] rfl rfl ?_
  refine st_cut (fun ρ τ45 gs => ∃ (s45 : Int), say_Parse_j2 r33 r39 s45 r ∧ τ41.Le τ45 ∧ ESub ρ [(2, .pointer (some ⟨b1, 0, none⟩)), (3, .int .i64 0), (4, .pointer (some ⟨b2, 0, none⟩)), (7, .pointer (some ⟨b28, 0, none⟩)), (10, .pointer (some ⟨b43, 0, none⟩)), (11, .pointer (some ⟨b44, 0, none⟩))] ∧ gs = [[(b1, .cells #[.int .i64 0, .int .i64 0, .int .i64 0, .int .i64 0, .int .i64 0, .int .i64 0, .int .i64 0, .slice none 0 0, .slice none 0 0, .string (bstr []), .string (bstr [])] 38 (0, 0))], [(b2, .cells #[v37] 106 (0, 0))], [(b28, .cells #[.func (.func 42) #[] #[.pointer (some ⟨b2, 0, none⟩)]] 110 (0, 0))], [(b43, .cells #[.int .i64 r39, .int .i64 0, .int .i64 0, .int .i64 0, .int .i64 0, .int .i64 0, .int .i64 0, .slice none 0 0, .slice none 0 0, .string (bstr []), .string (bstr [])] 38 (0, 0))], [(b44, .cells #[.int .i64 s45] 46 (0, 0))]]) ?_ (fun hk45 => ?_)
  ·rintro ρ45 τ45 gs45 ⟨s45, h, hl45, hρ, rfl⟩
   refine st_es hρ ?_
   refine Z 3 rfl ?_
   refine st_cut (fun ρ τ46 gs => ∃ (s46 : List ByteArray × Int × Int × Int × Int × Int × Int × Int × (List (Int × Int)) × List Int × ByteArray × ByteArray × Int) (v47 : Value) (v49 : Value) (v51 : Value), say_Parse_j3 s46 r ∧ τ45.Le τ46 ∧ ESub ρ [(2, .pointer (some ⟨b1, 0, none⟩)), (3, .int .i64 0), (4, .pointer (some ⟨b2, 0, none⟩)), (10, .pointer (some ⟨b43, 0, none⟩)), (11, .pointer (some ⟨b44, 0, none⟩))] ∧ gs = [[(b1, .cells #[.int .i64 0, .int .i64 0, .int .i64 0, .int .i64 0, .int .i64 0, .int .i64 0, .int .i64 0, .slice none 0 0, .slice none 0 0, .string (bstr []), .string (bstr [])] 38 (0, 0))], [(b2, .cells #[v47] 106 (0, 0))], [(b43, .cells #[.int .i64 s46.2.1, .int .i64 s46.2.2.1, .int .i64 s46.2.2.2.1, .int .i64 s46.2.2.2.2.1, .int .i64 s46.2.2.2.2.2.1, .int .i64 s46.2.2.2.2.2.2.1, .int .i64 s46.2.2.2.2.2.2.2.1, v49, v51, .string s46.2.2.2.2.2.2.2.2.2.2.1, .string s46.2.2.2.2.2.2.2.2.2.2.2.1] 38 (0, 0))], [(b44, .cells #[.int .i64 s46.2.2.2.2.2.2.2.2.2.2.2.2] 46 (0, 0))]] ∧ Sl kS τ46 v47 s46.1 ∧ Sl (kP (kI .i64) (kI .i64)) τ46 v49 s46.2.2.2.2.2.2.2.2.1 ∧ Sl (kI .i64) τ46 v51 s46.2.2.2.2.2.2.2.2.2.1) ?_ (fun hk46 => ?_)
   ·rintro ρ46 τ46 gs46 ⟨s46, v47, v49, v51, h, hl46, hρ, rfl, hs48, hs50, hs52⟩
    refine st_es hρ ?_
    refine ZZ 8 [3] rfl rfl ?_
    refine st_if rfl h (fun h => ?_) (fun h => ?_)
    ·refine st_seq ?_
     refine st_d40 3 [.v (.agg #[.int .i64 0, .int .i64 0, .int .i64 0, .int .i64 0, .int .i64 0, .int .i64 0, .int .i64 0, .slice none 0 0, .slice none 0 0, .string (bstr []), .string (bstr [])]), .v (.int .i64 s46.2.2.2.2.2.2.2.2.2.2.2.2), .t fun _ _ => True] z_mix rfl ⟨fun _ _ _ _ _ => trivial, trivial⟩ (allB_cons (allB_cons (allB_cons allB_nil ?_) ?_) ?_) ?_
     ·intro ρ' τ pool rs hl hd hout hw hk
      refine ZZ 1 [] rfl rfl ?_
      exact hk _ _ (Sto.Le.refl _) rfl
     ·intro ρ' τ pool rs hl hd hout hw hk
      refine o_load (j := 3) (v := .int .i64 s46.2.2.2.2.2.2.2.2.2.2.2.2) rfl rfl rfl z_sc46 ((hout 11 rfl).trans rfl) rfl rfl ?_
      exact hk _ _ (Sto.Le.refl _) rfl
     ·intro ρ' τ pool rs hl hd hout hw hk
      obtain ⟨_, e0, rfl⟩ := hd 0 rfl _ rfl
      refine o_store (j := 0) (vs := [.int .i64 0, .int .i64 0, .int .i64 0, .int .i64 0, .int .i64 0, .int .i64 0, .int .i64 0, .slice none 0 0, .slice none 0 0, .string (bstr []), .string (bstr [])]) (cs' := [.int .i64 0, .int .i64 0, .int .i64 0, .int .i64 0, .int .i64 0, .int .i64 0, .int .i64 0, .slice none 0 0, .slice none 0 0, .string (bstr []), .string (bstr [])]) rfl rfl rfl z_size38 ((hout 2 rfl).trans rfl) e0 rfl (ones_cons rfl (ones_cons rfl (ones_cons rfl (ones_cons rfl (ones_cons rfl (ones_cons rfl (ones_cons rfl (ones_cons rfl (ones_cons rfl (ones_cons rfl (ones_cons rfl ones_nil))))))))))) rfl rfl rfl ?_
      refine st_gs [[(b1, .cells #[.int .i64 0, .int .i64 0, .int .i64 0, .int .i64 0, .int .i64 0, .int .i64 0, .int .i64 0, .slice none 0 0, .slice none 0 0, .string (bstr []), .string (bstr [])] 38 (0, 0))], [(b2, .cells #[v47] 106 (0, 0))], [(b43, .cells #[.int .i64 s46.2.1, .int .i64 s46.2.2.1, .int .i64 s46.2.2.2.1, .int .i64 s46.2.2.2.2.1, .int .i64 s46.2.2.2.2.2.1, .int .i64 s46.2.2.2.2.2.2.1, .int .i64 s46.2.2.2.2.2.2.2.1, v49, v51, .string s46.2.2.2.2.2.2.2.2.2.2.1, .string s46.2.2.2.2.2.2.2.2.2.2.2.1] 38 (0, 0))], [(b44, .cells #[.int .i64 s46.2.2.2.2.2.2.2.2.2.2.2.2] 46 (0, 0))], pool] rfl ?_
      exact hk _ _ (Sto.Le.refl _) trivial
     intro ρ' τ53 vals hl53 hv hout
     refine st_env (ρ' := [(68, .int .i64 s46.2.2.2.2.2.2.2.2.2.2.2.2), (2, .pointer (some ⟨b1, 0, none⟩)), (3, .int .i64 0), (10, .pointer (some ⟨b43, 0, none⟩))]) ⟨(lv4 hv 1 rfl rfl rfl), (hout 2 rfl).trans rfl, (hout 3 rfl).trans rfl, (hout 10 rfl).trans rfl, trivial⟩ ?_
     refine Z 2 rfl ?_
     obtain rfl := Eq.symm h
     exact st_retC (gs' := []) [.agg #[.int .i64 0, .int .i64 0, .int .i64 0, .int .i64 0, .int .i64 0, .int .i64 0, .int .i64 0, .slice none 0 0, .slice none 0 0, .string (bstr []), .string (bstr [])], .int .i64 s46.2.2.2.2.2.2.2.2.2.2.2.2] Tryz.func17 ⟨⟨_, _, _, _, rfl, mem_flat 0 rfl, fun w hw => cellOfN (vs := [.int .i64 0, .int .i64 0, .int .i64 0, .int .i64 0, .int .i64 0, .int .i64 0, .int .i64 0, .slice none 0 0, .slice none 0 0, .string (bstr []), .string (bstr [])]) z_agg38 rfl w hw⟩, rfl, trivial⟩ (by simp) (((((((hl6.trans hl24).trans hl30).trans hl36).trans hl42).trans hl45).trans hl46).trans hl53) ⟨_, _, rfl, rfl, Sl.nil, Sl.nil⟩
    ·refine ZZ 3 [1] rfl rfl ?_
     refine o_lenI rfl rfl rfl z_slT106 rfl hs48 ?_
     refine Z 3 rfl ?_
     refine st_if rfl h (fun h => ?_) (fun h => ?_)
     ·refine ZZ 6 [0] rfl rfl ?_
      obtain rfl := Eq.symm h
      exact st_retC (gs' := []) [.agg #[.int .i64 0, .int .i64 0, .int .i64 0, .int .i64 0, .int .i64 0, .int .i64 0, .int .i64 0, .slice none 0 0, .slice none 0 0, .string (bstr []), .string (bstr [])], .int .i64 6] Tryz.func17 ⟨⟨_, _, _, _, rfl, mem_flat 0 rfl, fun w hw => cellOfN (vs := [.int .i64 0, .int .i64 0, .int .i64 0, .int .i64 0, .int .i64 0, .int .i64 0, .int .i64 0, .slice none 0 0, .slice none 0 0, .string (bstr []), .string (bstr [])]) z_agg38 rfl w hw⟩, rfl, trivial⟩ (by simp) ((((((hl6.trans hl24).trans hl30).trans hl36).trans hl42).trans hl45).trans hl46) ⟨_, _, rfl, rfl, Sl.nil, Sl.nil⟩
     ·refine ZZ 6 [2] rfl rfl ?_
      obtain ⟨r54, hr55, h⟩ := h
      refine st_call (foot := []) rfl rfl rfl rfl rfl rfl (callV_fn z_en18 (msg_Check_ok hr55 τ46 hs50 hs52)) ?_
      rintro vτ56 τ56 gsτ56 hl57 ⟨rfl, rfl⟩
      refine Z 7 rfl ?_
      refine st_if rfl h (fun h => ?_) (fun h => ?_)
      ·refine ZZ 7 [0] rfl rfl ?_
       obtain rfl := Eq.symm h
       exact st_retC (gs' := []) [.agg #[.int .i64 0, .int .i64 0, .int .i64 0, .int .i64 0, .int .i64 0, .int .i64 0, .int .i64 0, .slice none 0 0, .slice none 0 0, .string (bstr []), .string (bstr [])], .int .i64 r54] Tryz.func17 ⟨⟨_, _, _, _, rfl, mem_flat 0 rfl, fun w hw => cellOfN (vs := [.int .i64 0, .int .i64 0, .int .i64 0, .int .i64 0, .int .i64 0, .int .i64 0, .int .i64 0, .slice none 0 0, .slice none 0 0, .string (bstr []), .string (bstr [])]) z_agg38 rfl w hw⟩, rfl, trivial⟩ (by simp) (((((((hl6.trans hl24).trans hl30).trans hl36).trans hl42).trans hl45).trans hl46).trans hl57) ⟨_, _, rfl, rfl, Sl.nil, Sl.nil⟩
      ·refine ZZ 4 [2] rfl rfl ?_
       refine o_store (j := 0) (vs := [.int .i64 s46.2.1, .int .i64 s46.2.2.1, .int .i64 s46.2.2.2.1, .int .i64 s46.2.2.2.2.1, .int .i64 s46.2.2.2.2.2.1, .int .i64 s46.2.2.2.2.2.2.1, .int .i64 s46.2.2.2.2.2.2.2.1, v49, v51, .string s46.2.2.2.2.2.2.2.2.2.2.1, .string s46.2.2.2.2.2.2.2.2.2.2.2.1]) (cs' := [.int .i64 s46.2.1, .int .i64 s46.2.2.1, .int .i64 s46.2.2.2.1, .int .i64 s46.2.2.2.2.1, .int .i64 s46.2.2.2.2.2.1, .int .i64 s46.2.2.2.2.2.2.1, .int .i64 s46.2.2.2.2.2.2.2.1, v49, v51, .string s46.2.2.2.2.2.2.2.2.2.2.1, .string s46.2.2.2.2.2.2.2.2.2.2.2.1]) rfl rfl rfl z_size38 rfl rfl rfl (ones_cons rfl (ones_cons rfl (ones_cons rfl (ones_cons rfl (ones_cons rfl (ones_cons rfl (ones_cons rfl (ones_cons (hs50.up hl57).one' (ones_cons (hs52.up hl57).one' (ones_cons rfl (ones_cons rfl ones_nil))))))))))) rfl rfl rfl ?_
       refine st_gs [[(b1, .cells #[.int .i64 s46.2.1, .int .i64 s46.2.2.1, .int .i64 s46.2.2.2.1, .int .i64 s46.2.2.2.2.1, .int .i64 s46.2.2.2.2.2.1, .int .i64 s46.2.2.2.2.2.2.1, .int .i64 s46.2.2.2.2.2.2.2.1, v49, v51, .string s46.2.2.2.2.2.2.2.2.2.2.1, .string s46.2.2.2.2.2.2.2.2.2.2.2.1] 38 (0, 0))], [(b2, .cells #[v47] 106 (0, 0))], [(b43, .cells #[.int .i64 s46.2.1, .int .i64 s46.2.2.1, .int .i64 s46.2.2.2.1, .int .i64 s46.2.2.2.2.1, .int .i64 s46.2.2.2.2.2.1, .int .i64 s46.2.2.2.2.2.2.1, .int .i64 s46.2.2.2.2.2.2.2.1, v49, v51, .string s46.2.2.2.2.2.2.2.2.2.2.1, .string s46.2.2.2.2.2.2.2.2.2.2.2.1] 38 (0, 0))], [(b44, .cells #[.int .i64 s46.2.2.2.2.2.2.2.2.2.2.2.2] 46 (0, 0))]] rfl ?_
       refine Z 2 rfl ?_
       obtain rfl := Eq.symm h
       exact st_retC (gs' := []) [.agg #[.int .i64 s46.2.1, .int .i64 s46.2.2.1, .int .i64 s46.2.2.2.1, .int .i64 s46.2.2.2.2.1, .int .i64 s46.2.2.2.2.2.1, .int .i64 s46.2.2.2.2.2.2.1, .int .i64 s46.2.2.2.2.2.2.2.1, v49, v51, .string s46.2.2.2.2.2.2.2.2.2.2.1, .string s46.2.2.2.2.2.2.2.2.2.2.2.1], .int .i64 0] Tryz.func17 ⟨⟨_, _, _, _, rfl, mem_flat 0 rfl, fun w hw => cellOfN (vs := [.int .i64 s46.2.1, .int .i64 s46.2.2.1, .int .i64 s46.2.2.2.1, .int .i64 s46.2.2.2.2.1, .int .i64 s46.2.2.2.2.2.1, .int .i64 s46.2.2.2.2.2.2.1, .int .i64 s46.2.2.2.2.2.2.2.1, v49, v51, .string s46.2.2.2.2.2.2.2.2.2.2.1, .string s46.2.2.2.2.2.2.2.2.2.2.2.1]) z_agg38 rfl w hw⟩, rfl, trivial⟩ (by simp) (((((((hl6.trans hl24).trans hl30).trans hl36).trans hl42).trans hl45).trans hl46).trans hl57) ⟨_, _, rfl, rfl, (hs50.up hl57), (hs52.up hl57)⟩
   refine ZZ 4 [3] rfl rfl ?_
   obtain ⟨r58, hr59, h⟩ := h
   refine st_call (foot := []) rfl rfl rfl rfl rfl rfl (callV_fn z_en34 (field_All_ok hr59 τ45)) ?_
   rintro vτ60 τ60 gsτ60 hl61 ⟨f62, q63, rfl, rfl, hit64⟩
   refine Z 2 rfl ?_
   obtain ⟨t65, w65, hR65, hA65⟩ := h
   refine st_env (ρ' := [(2, .pointer (some ⟨b1, 0, none⟩)), (3, .int .i64 0), (4, .pointer (some ⟨b2, 0, none⟩)), (7, .pointer (some ⟨b28, 0, none⟩)), (10, .pointer (some ⟨b43, 0, none⟩)), (11, .pointer (some ⟨b44, 0, none⟩)), (39, .func (.func f62) #[] q63)]) ⟨rfl, rfl, rfl, rfl, rfl, rfl, rfl, trivial⟩ ?_
   refine st_addNil ?_
   refine st_range (B := say_Parse_l4) (s0 := (r33.2.2, r39, 0, 0, 0, 0, 0, 0, [], [], (bstr []), (bstr []), s45)) ranges_fctx rfl hit64 (Sto.Le.refl _) hR65 rfl (fun _ _ _ h => by cases h; rfl) (fun (s65 : List ByteArray × Int × Int × Int × Int × Int × Int × Int × (List (Int × Int)) × List Int × ByteArray × ByteArray × Int) τ65 gs => τ60.Le τ65 ∧ ∃ (v66 : Value) (v68 : Value) (v70 : Value), gs = [[(b1, .cells #[.int .i64 0, .int .i64 0, .int .i64 0, .int .i64 0, .int .i64 0, .int .i64 0, .int .i64 0, .slice none 0 0, .slice none 0 0, .string (bstr []), .string (bstr [])] 38 (0, 0))], [(b2, .cells #[v66] 106 (0, 0))], [(b28, .cells #[.func (.func 42) #[] #[.pointer (some ⟨b2, 0, none⟩)]] 110 (0, 0))], [(b43, .cells #[.int .i64 s65.2.1, .int .i64 s65.2.2.1, .int .i64 s65.2.2.2.1, .int .i64 s65.2.2.2.2.1, .int .i64 s65.2.2.2.2.2.1, .int .i64 s65.2.2.2.2.2.2.1, .int .i64 s65.2.2.2.2.2.2.2.1, v68, v70, .string s65.2.2.2.2.2.2.2.2.2.2.1, .string s65.2.2.2.2.2.2.2.2.2.2.2.1] 38 (0, 0))], [(b44, .cells #[.int .i64 s65.2.2.2.2.2.2.2.2.2.2.2.2] 46 (0, 0))]] ∧ Sl kS τ65 v66 s65.1 ∧ Sl (kP (kI .i64) (kI .i64)) τ65 v68 s65.2.2.2.2.2.2.2.2.1 ∧ Sl (kI .i64) τ65 v70 s65.2.2.2.2.2.2.2.2.2.1) (fun (p93 : List ByteArray × Int × Int × Int × Int × Int × Int × Int × (List (Int × Int)) × List Int × ByteArray × ByteArray × Int) cd τ94 gs => cd = .exit 2 ∧ τ60.Le τ94 ∧ ∃ (v96 : Value) (v98 : Value) (v100 : Value), gs = [[(b1, .cells #[.int .i64 0, .int .i64 0, .int .i64 0, .int .i64 0, .int .i64 0, .int .i64 0, .int .i64 0, .slice none 0 0, .slice none 0 0, .string (bstr []), .string (bstr [])] 38 (0, 0))], [(b2, .cells #[v96] 106 (0, 0))], [(b28, .cells #[.func (.func 42) #[] #[.pointer (some ⟨b2, 0, none⟩)]] 110 (0, 0))], [(b43, .cells #[.int .i64 p93.2.1, .int .i64 p93.2.2.1, .int .i64 p93.2.2.2.1, .int .i64 p93.2.2.2.2.1, .int .i64 p93.2.2.2.2.2.1, .int .i64 p93.2.2.2.2.2.2.1, .int .i64 p93.2.2.2.2.2.2.2.1, v98, v100, .string p93.2.2.2.2.2.2.2.2.2.2.1, .string p93.2.2.2.2.2.2.2.2.2.2.2.1] 38 (0, 0))], [(b44, .cells #[.int .i64 p93.2.2.2.2.2.2.2.2.2.2.2.2] 46 (0, 0))]] ∧ Sl kS τ94 v96 p93.1 ∧ Sl (kP (kI .i64) (kI .i64)) τ94 v98 p93.2.2.2.2.2.2.2.2.1 ∧ Sl (kI .i64) τ94 v100 p93.2.2.2.2.2.2.2.2.2.1) (fun _ _ _ _ hl ⟨hb, v66, v68, v70, hg, hs67, hs69, hs71⟩ => ⟨hb.trans hl, v66, v68, v70, hg, hs67.up hl, hs69.up hl, hs71.up hl⟩) (fun _ _ _ _ _ hl ⟨hc, hb, v96, v98, v100, hg, hs97, hs99, hs101⟩ => ⟨hc, hb.trans hl, v96, v98, v100, hg, hs97.up hl, hs99.up hl, hs101.up hl⟩) ⟨Sto.Le.refl _, _, _, _, rfl, (hs38.up ((hl42.trans hl45).trans hl61)), Sl.nil, Sl.nil⟩ ?_ ?_ ?_
   ·rintro x65 s65 o65 τ65 gs65 vx65 hl65 h rfl ⟨hb65, v66, v68, v70, rfl, hs67, hs69, hs71⟩ l65 rc65 caller65 cs65 fs65
    refine st_region ?_
    refine o_alloc rfl rfl rfl z_zero96 (fun b72 => ?_)
    refine ZZ 2 [0] rfl rfl ?_
    refine st_begin ?_
    refine ZZ 4 [3] rfl rfl ?_
    obtain ⟨r73, hr74, h⟩ := h
    refine st_ord [2, 0, 0, 0, 0, 0] _ rfl ?_
    refine st_call (foot := [[(b2, .cells #[v66] 106 (0, 0))]]) rfl rfl rfl rfl rfl rfl (callV_of2 (caps := [.pointer (some ⟨b2, 0, none⟩)]) z_en42 (say_Parse_1_ok hr74 τ65 hs67) rfl) ?_
    rintro vτ75 τ75 gsτ75 hl76 ⟨v77, rfl, rfl, hs78⟩
    refine Z 12 rfl ?_
    refine st_if rfl h (fun h => ?_) (fun h => ?_)
    ·refine ZZ 4 [5] rfl rfl ?_
     refine st_ord [2, 0, 1, 1, 1] _ rfl ?_
     exact st_rexit rfl (List.Sublist.refl _) hl76 ⟨_, h, rfl, (hl65.trans hl76), _, _, _, rfl, hs78, (hs69.up hl76), (hs71.up hl76)⟩
    ·refine ZZ 9 [1] rfl rfl ?_
     refine st_if rfl h (fun h => ?_) (fun h => ?_)
     ·refine ZZ 4 [5] rfl rfl ?_
      refine st_ord [2, 0, 1, 1, 1] _ rfl ?_
      exact st_rexit rfl (List.Sublist.refl _) hl76 ⟨_, h, rfl, (hl65.trans hl76), _, _, _, rfl, hs78, (hs69.up hl76), (hs71.up hl76)⟩
     ·refine ZZ 4 [3] rfl rfl ?_
      obtain ⟨r79, hr80, h⟩ := h
      refine st_call (foot := [[(b2, .cells #[v77] 106 (0, 0))]]) rfl rfl rfl rfl rfl rfl (callV_of2 (caps := [.pointer (some ⟨b2, 0, none⟩)]) z_en42 (say_Parse_1_ok hr80 τ75 hs78) rfl) ?_
      rintro vτ81 τ81 gsτ81 hl82 ⟨v83, rfl, rfl, hs84⟩
      refine Z 12 rfl ?_
      refine st_if rfl h (fun h => ?_) (fun h => ?_)
      ·refine ZZ 4 [5] rfl rfl ?_
       refine st_ord [2, 0, 1, 1, 1] _ rfl ?_
       exact st_rexit rfl (List.Sublist.refl _) (hl76.trans hl82) ⟨_, h, rfl, ((hl65.trans hl76).trans hl82), _, _, _, rfl, hs84, (hs69.up (hl76.trans hl82)), (hs71.up (hl76.trans hl82))⟩
      ·refine ZZ 5 [1] rfl rfl ?_
       obtain ⟨r85, hr86, h⟩ := h
       refine st_ord [4, 0, 0, 0, 0, 0] _ rfl ?_
       refine st_call (foot := [[(b43, .cells #[.int .i64 s65.2.1, .int .i64 s65.2.2.1, .int .i64 s65.2.2.2.1, .int .i64 s65.2.2.2.2.1, .int .i64 s65.2.2.2.2.2.1, .int .i64 s65.2.2.2.2.2.2.1, .int .i64 s65.2.2.2.2.2.2.2.1, v68, v70, .string s65.2.2.2.2.2.2.2.2.2.2.1, .string s65.2.2.2.2.2.2.2.2.2.2.2.1] 38 (0, 0))]]) rfl rfl rfl rfl rfl rfl (callV_fn z_en44 (say_read_ok hr86 τ81 (hs69.up (hl76.trans hl82)) (hs71.up (hl76.trans hl82)) (hE.up (((((((((hl6.trans hl24).trans hl30).trans hl36).trans hl42).trans hl45).trans hl61).trans hl65).trans hl76).trans hl82)))) ?_
       rintro vτ87 τ87 gsτ87 hl88 ⟨v89, v90, rfl, rfl, hs91, hs92⟩
       refine ZZ 7 [5, 5] rfl rfl ?_
       refine st_if rfl h (fun h => ?_) (fun h => ?_)
       ·refine st_ord [3, 1, 2, 0, 1] _ rfl ?_
        exact st_rexit rfl (List.Sublist.refl _) ((hl76.trans hl82).trans hl88) ⟨_, h, rfl, (((hl65.trans hl76).trans hl82).trans hl88), _, _, _, rfl, (hs84.up hl88), hs91, hs92⟩
       ·refine Z 2 rfl ?_
        refine st_ord [3, 1, 2, 0, 1] _ rfl ?_
        exact st_rend (List.Sublist.refl _) ((hl76.trans hl82).trans hl88) ⟨_, h, (((hl65.trans hl76).trans hl82).trans hl88), _, _, _, rfl, (hs84.up hl88), hs91, hs92⟩
   ·rintro p102 τ103 gs65 f65 ht hl104 ⟨hb, v105, v107, v109, rfl, hs106, hs108, hs110⟩ rfl
    subst ht
    replace h := hA65
    refine st_ord [1, 1, 1, 1, 1] _ rfl ?_
    refine st_inBlock ?_
    refine st_ord [0, 0, 1, 1] _ rfl ?_
    exact hk46 _ _ _ ⟨(p102.1, p102.2.1, p102.2.2.1, p102.2.2.2.1, p102.2.2.2.2.1, p102.2.2.2.2.2.1, p102.2.2.2.2.2.2.1, p102.2.2.2.2.2.2.2.1, p102.2.2.2.2.2.2.2.2.1, p102.2.2.2.2.2.2.2.2.2.1, p102.2.2.2.2.2.2.2.2.2.2.1, p102.2.2.2.2.2.2.2.2.2.2.2.1, p102.2.2.2.2.2.2.2.2.2.2.2.2), _, _, _, h, (hl61.trans hl104), rfl, rfl, hs106, hs108, hs110⟩
   ·rintro p93 cd65 τ94 gs65 f65 ht hl95 ⟨rfl, hb, v96, v98, v100, rfl, hs97, hs99, hs101⟩ rfl
    subst ht
    replace h := hA65
    refine st_ord [1, 1, 1, 1, 1] _ rfl ?_
    refine st_exit rfl ?_
    refine st_ord [0, 0, 1, 1] _ rfl ?_
    exact hk46 _ _ _ ⟨(p93.1, p93.2.1, p93.2.2.1, p93.2.2.2.1, p93.2.2.2.2.1, p93.2.2.2.2.2.1, p93.2.2.2.2.2.2.1, p93.2.2.2.2.2.2.2.1, p93.2.2.2.2.2.2.2.2.1, p93.2.2.2.2.2.2.2.2.2.1, p93.2.2.2.2.2.2.2.2.2.2.1, p93.2.2.2.2.2.2.2.2.2.2.2.1, p93.2.2.2.2.2.2.2.2.2.2.2.2), _, _, _, h, (hl61.trans hl95), rfl, rfl, hs97, hs99, hs101⟩
  refine ZZ 6 [1] rfl rfl ?_
  refine st_if rfl h (fun h => ?_) (fun h => ?_)
  ·refine ZZ 3 [0] rfl rfl ?_
   refine st_ord [4, 2, 2, 1, 0] _ rfl ?_
   exact hk45 _ _ _ ⟨9, h, (Sto.Le.refl _), rfl, rfl⟩
  ·refine st_skip ?_
   refine st_ord [4, 2, 2, 1, 0] _ rfl ?_
   exact hk45 _ _ _ ⟨0, h, (Sto.Le.refl _), rfl, rfl⟩
 ·exact fun _ _ _ _ _ _ _ h => h.elim
theorem law20_known_ok  {r : Bool} (h : law20_known r) (σ : Sto) (hT : Tab Tryz.prog σ) :
    Does Tryz.prog 19 [] σ [] (fun v τ gs => gs = [] ∧ .bool r = v) := by
 refine call_of Tryz.func19 Tryz.ntmps19 rfl rfl (fun cs fs => ?_)
 refine Z 6 rfl ?_
 refine o_buildA (ps := [(0, [.int .i64 300]), (1, [.int .i64 2]), (2, [.int .i64 9])]) (cs := [.int .i64 300, .int .i64 2, .int .i64 9, .int .i64 0, .int .i64 0, .int .i64 0]) rfl rfl rfl z_arrz35 ⟨rfl, ⟨_, rfl, rfl⟩, ⟨rfl, ⟨_, rfl, rfl⟩, ⟨rfl, ⟨_, rfl, rfl⟩, trivial⟩⟩⟩ rfl ?_
 refine ZZ 1 [] rfl rfl ?_
 obtain ⟨r1, hr2, h⟩ := h
 refine st_call (foot := []) rfl rfl rfl rfl rfl rfl (callV_fn z_en14 (say_Line_ok hr2 σ Sl.nil Sl.nil hT)) ?_
 rintro vτ3 τ3 gsτ3 hl4 ⟨rfl, rfl⟩
 refine Z 4 rfl ?_
 refine o_buildA (ps := [(0, [.int .i64 1]), (1, [.int .i64 2]), (2, [.int .i64 3]), (3, [.int .i64 0]), (4, [.int .i64 1])]) (cs := [.int .i64 1, .int .i64 2, .int .i64 3, .int .i64 0, .int .i64 1, .int .i64 0]) rfl rfl rfl z_arrz35 ⟨rfl, ⟨_, rfl, rfl⟩, ⟨rfl, ⟨_, rfl, rfl⟩, ⟨rfl, ⟨_, rfl, rfl⟩, ⟨rfl, ⟨_, rfl, rfl⟩, ⟨rfl, ⟨_, rfl, rfl⟩, trivial⟩⟩⟩⟩⟩ rfl ?_
 refine o_build (ps := [(0, [.int .i64 5]), (1, [.int .i64 1, .int .i64 2, .int .i64 3, .int .i64 0, .int .i64 1, .int .i64 0]), (4, [.string (bstr [104, 105])])]) (cs := [.int .i64 5, .int .i64 1, .int .i64 2, .int .i64 3, .int .i64 0, .int .i64 1, .int .i64 0, .slice none 0 0, .slice none 0 0, .string (bstr [104, 105]), .string (bstr [])]) rfl rfl rfl z_struct38 ⟨rfl, ⟨_, rfl, rfl⟩, ⟨rfl, ⟨_, rfl, rfl⟩, ⟨rfl, ⟨_, (ev_str z_str32), rfl⟩, trivial⟩⟩⟩ rfl ?_
 obtain ⟨r5, hr6, h⟩ := h
 refine st_call (foot := []) rfl rfl rfl rfl rfl rfl (callV_fn z_en14 (say_Line_ok hr6 τ3 Sl.nil Sl.nil (hT.up hl4))) ?_
 rintro vτ7 τ7 gsτ7 hl8 ⟨rfl, rfl⟩
 refine Z 3 rfl ?_
 refine st_cut (fun ρ τ9 gs => ∃ (s9 : Bool), law20_known_j1 s9 r ∧ τ7.Le τ9 ∧ ESub ρ [(0, .bool s9)] ∧ gs = []) ?_ (fun hk9 => ?_)
 ·rintro ρ9 τ9 gs9 ⟨s9, h, hl9, hρ, rfl⟩
  refine st_es hρ ?_
  obtain rfl := Eq.symm h
  exact st_ret (gs' := []) Tryz.func19 rfl (List.Sublist.refl _) ((hl4.trans hl8).trans hl9) ⟨rfl, rfl⟩
 refine Z 2 rfl ?_
 refine o_sbin (v := .bool (decide (r1 = (bstr [104, 111, 108, 100, 32, 114, 111, 98, 111, 116, 32, 51, 48, 48, 32, 114, 101, 97, 115, 111, 110, 32, 50, 32, 122, 111, 110, 101, 32, 57])))) rfl rfl rfl rfl (ev_str z_str33) rfl ?_
 refine o_mif rfl rfl rfl rfl h (fun h => ?_) (fun h => ?_)
 ·refine o_move rfl rfl rfl rfl ?_
  refine o_sbin (v := .bool (decide (r5 = (bstr [102, 97, 117, 108, 116, 32, 114, 111, 98, 111, 116, 32, 49, 32, 99, 111, 100, 101, 32, 50, 32, 115, 101, 118, 101, 114, 105, 116, 121, 32, 51, 32, 112, 97, 114, 116, 32, 48, 32, 116, 105, 109, 101, 115, 32, 49, 32, 116, 101, 120, 116, 32, 54, 56, 54, 57])))) rfl rfl rfl rfl (ev_str z_str34) rfl ?_
  refine Z 3 rfl ?_
  exact hk9 _ _ _ ⟨(decide (r5 = (bstr [102, 97, 117, 108, 116, 32, 114, 111, 98, 111, 116, 32, 49, 32, 99, 111, 100, 101, 32, 50, 32, 115, 101, 118, 101, 114, 105, 116, 121, 32, 51, 32, 112, 97, 114, 116, 32, 48, 32, 116, 105, 109, 101, 115, 32, 49, 32, 116, 101, 120, 116, 32, 54, 56, 54, 57]))), h, (Sto.Le.refl _), rfl, rfl⟩
 ·refine Z 5 rfl ?_
  exact hk9 _ _ _ ⟨false, h, (Sto.Le.refl _), rfl, rfl⟩
theorem law20_SayLines_ok {a0 : Int × List Int × List (Int × Int) × List Int × ByteArray × ByteArray} {v1 : Value} {v2 : Value} {r : Bool} (h : law20_SayLines a0 r) (σ : Sto) (hs3 : Sl (kP (kI .i64) (kI .i64)) σ v1 a0.2.2.1) (hs4 : Sl (kI .i64) σ v2 a0.2.2.2.1) (hT : Tab Tryz.prog σ) (hE : Errs Tryz.prog σ) :
    Does Tryz.prog 4 [.agg [.int .i64 a0.1, .int .i64 (a0.2.1.getD 0 0), .int .i64 (a0.2.1.getD 1 0), .int .i64 (a0.2.1.getD 2 0), .int .i64 (a0.2.1.getD 3 0), .int .i64 (a0.2.1.getD 4 0), .int .i64 (a0.2.1.getD 5 0), v1, v2, .string a0.2.2.2.2.1, .string a0.2.2.2.2.2].toArray] σ [] (fun v τ gs => gs = [] ∧ .bool r = v) := by
 refine call_of Tryz.func4 Tryz.ntmps4 rfl rfl (fun cs fs => ?_)
 refine Z 2 rfl ?_
 refine o_box (cs := [.int .i64 a0.1, .int .i64 (a0.2.1.getD 0 0), .int .i64 (a0.2.1.getD 1 0), .int .i64 (a0.2.1.getD 2 0), .int .i64 (a0.2.1.getD 3 0), .int .i64 (a0.2.1.getD 4 0), .int .i64 (a0.2.1.getD 5 0), v1, v2, .string a0.2.2.2.2.1, .string a0.2.2.2.2.2]) rfl rfl rfl rfl rfl (fun b5 => ?_)
 refine ZZ 5 [0] rfl rfl ?_
 obtain ⟨r6, hr7, h⟩ := h
 refine st_call (foot := []) rfl rfl rfl rfl rfl rfl (callV_fn z_en13 (law17_Cut_ok hr7 σ hs3 hs4)) ?_
 rintro vτ8 τ8 gsτ8 hl9 ⟨v10, v11, rfl, rfl, hs12, hs13⟩
 refine o_store (j := 0) (vs := [.int .i64 r6.1, .int .i64 (r6.2.1.getD 0 0), .int .i64 (r6.2.1.getD 1 0), .int .i64 (r6.2.1.getD 2 0), .int .i64 (r6.2.1.getD 3 0), .int .i64 (r6.2.1.getD 4 0), .int .i64 (r6.2.1.getD 5 0), v10, v11, .string r6.2.2.2.2.1, .string r6.2.2.2.2.2]) (cs' := [.int .i64 r6.1, .int .i64 (r6.2.1.getD 0 0), .int .i64 (r6.2.1.getD 1 0), .int .i64 (r6.2.1.getD 2 0), .int .i64 (r6.2.1.getD 3 0), .int .i64 (r6.2.1.getD 4 0), .int .i64 (r6.2.1.getD 5 0), v10, v11, .string r6.2.2.2.2.1, .string r6.2.2.2.2.2]) rfl rfl rfl z_size38 rfl rfl rfl (ones_cons rfl (ones_cons rfl (ones_cons rfl (ones_cons rfl (ones_cons rfl (ones_cons rfl (ones_cons rfl (ones_cons hs12.one' (ones_cons hs13.one' (ones_cons rfl (ones_cons rfl ones_nil))))))))))) rfl rfl rfl ?_
 refine st_gs [[(b5, .cells #[.int .i64 r6.1, .int .i64 (r6.2.1.getD 0 0), .int .i64 (r6.2.1.getD 1 0), .int .i64 (r6.2.1.getD 2 0), .int .i64 (r6.2.1.getD 3 0), .int .i64 (r6.2.1.getD 4 0), .int .i64 (r6.2.1.getD 5 0), v10, v11, .string r6.2.2.2.2.1, .string r6.2.2.2.2.2] 38 (0, 0))]] rfl ?_
 refine ZZ 4 [0] rfl rfl ?_
 obtain ⟨r14, hr15, h⟩ := h
 refine st_call (foot := []) rfl rfl rfl rfl rfl rfl (callV_fn z_en14 (say_Line_ok hr15 τ8 hs12 hs13 (hT.up hl9))) ?_
 rintro vτ16 τ16 gsτ16 hl17 ⟨rfl, rfl⟩
 refine ZZ 7 [0] rfl rfl ?_
 obtain ⟨r18, hr19, h⟩ := h
 refine st_call (foot := []) rfl rfl rfl rfl rfl rfl (callV_fn z_en16 (law17_Of_ok hr19 τ16 (hs12.up hl17) (hs13.up hl17))) ?_
 rintro vτ20 τ20 gsτ20 hl21 ⟨v22, v23, rfl, rfl, hs24, hs25⟩
 obtain ⟨r26, hr27, h⟩ := h
 refine st_call (foot := []) rfl rfl rfl rfl rfl rfl (callV_fn z_en15 (ref20_Line_ok hr27 τ20 hs24 hs25)) ?_
 rintro vτ28 τ28 gsτ28 hl29 ⟨rfl, rfl⟩
 refine Z 2 rfl ?_
 refine st_if rfl h (fun h => ?_) (fun h => ?_)
 ·refine Z 4 rfl ?_
  refine st_ord [] _ rfl ?_
  obtain rfl := Eq.symm h
  exact st_ret (gs' := []) Tryz.func4 rfl (List.Sublist.refl _) (((hl9.trans hl17).trans hl21).trans hl29) ⟨rfl, rfl⟩
 ·refine Z 4 rfl ?_
  obtain ⟨r30, hr31, h⟩ := h
  refine st_call (foot := []) rfl rfl rfl rfl rfl rfl (callV_fn z_en17 (say_Parse_ok hr31 τ28 (hE.up (((hl9.trans hl17).trans hl21).trans hl29)))) ?_
  rintro vτ32 τ32 gsτ32 hl33 ⟨v34, v35, rfl, rfl, hs36, hs37⟩
  refine Z 3 rfl ?_
  refine o_alloc rfl rfl rfl z_zero38 (fun b38 => ?_)
  refine o_store (j := 0) (vs := [.int .i64 r30.1.1, .int .i64 (r30.1.2.1.getD 0 0), .int .i64 (r30.1.2.1.getD 1 0), .int .i64 (r30.1.2.1.getD 2 0), .int .i64 (r30.1.2.1.getD 3 0), .int .i64 (r30.1.2.1.getD 4 0), .int .i64 (r30.1.2.1.getD 5 0), v34, v35, .string r30.1.2.2.2.2.1, .string r30.1.2.2.2.2.2]) (cs' := [.int .i64 r30.1.1, .int .i64 (r30.1.2.1.getD 0 0), .int .i64 (r30.1.2.1.getD 1 0), .int .i64 (r30.1.2.1.getD 2 0), .int .i64 (r30.1.2.1.getD 3 0), .int .i64 (r30.1.2.1.getD 4 0), .int .i64 (r30.1.2.1.getD 5 0), v34, v35, .string r30.1.2.2.2.2.1, .string r30.1.2.2.2.2.2]) rfl rfl rfl z_size38 rfl rfl rfl (ones_cons rfl (ones_cons rfl (ones_cons rfl (ones_cons rfl (ones_cons rfl (ones_cons rfl (ones_cons rfl (ones_cons hs36.one' (ones_cons hs37.one' (ones_cons rfl (ones_cons rfl ones_nil))))))))))) rfl rfl rfl ?_
  refine st_gs [[(b38, .cells #[.int .i64 r30.1.1, .int .i64 (r30.1.2.1.getD 0 0), .int .i64 (r30.1.2.1.getD 1 0), .int .i64 (r30.1.2.1.getD 2 0), .int .i64 (r30.1.2.1.getD 3 0), .int .i64 (r30.1.2.1.getD 4 0), .int .i64 (r30.1.2.1.getD 5 0), v34, v35, .string r30.1.2.2.2.2.1, .string r30.1.2.2.2.2.2] 38 (0, 0))], [(b5, .cells #[.int .i64 r6.1, .int .i64 (r6.2.1.getD 0 0), .int .i64 (r6.2.1.getD 1 0), .int .i64 (r6.2.1.getD 2 0), .int .i64 (r6.2.1.getD 3 0), .int .i64 (r6.2.1.getD 4 0), .int .i64 (r6.2.1.getD 5 0), v10, v11, .string r6.2.2.2.2.1, .string r6.2.2.2.2.2] 38 (0, 0))]] rfl ?_
  refine ZZ 5 [1] rfl rfl ?_
  obtain ⟨r39, hr40, h⟩ := h
  refine st_call (foot := []) rfl rfl rfl rfl rfl rfl (callV_fn z_en18 (msg_Check_ok hr40 τ32 (hs12.up (((hl17.trans hl21).trans hl29).trans hl33)) (hs13.up (((hl17.trans hl21).trans hl29).trans hl33)))) ?_
  rintro vτ41 τ41 gsτ41 hl42 ⟨rfl, rfl⟩
  refine Z 4 rfl ?_
  refine st_cut (fun ρ τ43 gs => ∃ (s43 : Bool), law20_SayLines_j1 s43 r ∧ τ41.Le τ43 ∧ ESub ρ [(2, .bool s43)] ∧ gs = []) ?_ (fun hk43 => ?_)
  ·rintro ρ43 τ43 gs43 ⟨s43, h, hl43, hρ, rfl⟩
   refine st_es hρ ?_
   obtain rfl := Eq.symm h
   exact st_ret (gs' := []) Tryz.func4 rfl (List.Sublist.refl _) ((((((hl9.trans hl17).trans hl21).trans hl29).trans hl33).trans hl42).trans hl43) ⟨rfl, rfl⟩
  refine st_region ?_
  obtain ⟨r44, hr45, h⟩ := h
  refine st_call (foot := []) rfl rfl rfl rfl rfl rfl (callV_fn z_en19 (law20_known_ok hr45 τ41 (hT.up (((((hl9.trans hl17).trans hl21).trans hl29).trans hl33).trans hl42)))) ?_
  rintro vτ46 τ46 gsτ46 hl47 ⟨rfl, rfl⟩
  refine o_mif rfl rfl rfl rfl h (fun h => ?_) (fun h => ?_)
  ·refine o_move rfl rfl rfl rfl ?_
   refine o_sbin (v := .bool (decide (r14 = (bstr [])))) rfl rfl rfl rfl (ev_str z_str0) rfl ?_
   refine Z 4 rfl ?_
   refine o_mif rfl rfl rfl rfl h (fun h => ?_) (fun h => ?_)
   ·refine Z 5 rfl ?_
    refine o_mif rfl rfl rfl rfl h (fun h => ?_) (fun h => ?_)
    ·refine Z 2 rfl ?_
     refine o_mif rfl rfl rfl rfl h (fun h => ?_) (fun h => ?_)
     ·refine Z 7 rfl ?_
      refine st_ord [] _ rfl ?_
      exact hk43 _ _ _ ⟨true, h, hl47, rfl, rfl⟩
     ·refine ZZ 2 [0, 1] rfl rfl ?_
      obtain ⟨r48, hr49, h⟩ := h
      refine st_call (foot := []) rfl rfl rfl rfl rfl rfl (callV_fn z_en20 (msg_Same_ok hr49 τ46 (hs36.up (hl42.trans hl47)) (hs37.up (hl42.trans hl47)) (hs12.up (((((hl17.trans hl21).trans hl29).trans hl33).trans hl42).trans hl47)) (hs13.up (((((hl17.trans hl21).trans hl29).trans hl33).trans hl42).trans hl47)))) ?_
      rintro vτ50 τ50 gsτ50 hl51 ⟨rfl, rfl⟩
      refine Z 4 rfl ?_
      refine st_ord [] _ rfl ?_
      exact hk43 _ _ _ ⟨r48, h, (hl47.trans hl51), rfl, rfl⟩
    ·refine Z 10 rfl ?_
     refine st_ord [] _ rfl ?_
     exact hk43 _ _ _ ⟨false, h, hl47, rfl, rfl⟩
   ·refine Z 16 rfl ?_
    refine st_ord [] _ rfl ?_
    exact hk43 _ _ _ ⟨false, h, hl47, rfl, rfl⟩
  ·refine Z 23 rfl ?_
   refine st_ord [] _ rfl ?_
   exact hk43 _ _ _ ⟨false, h, hl47, rfl, rfl⟩
end Go.Rel
