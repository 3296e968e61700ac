import Derived.Test.YtgokdchgjpneoaaDoorURel
import Derived.Test.YtgokdchgjpneoaaDoorUFacts
import Derived.Test.YtgokdchgjpneoaaDoorUWalk1
/-! The walks. -/
set_option linter.unusedVariables false
set_option linter.unusedSimpArgs false
set_option maxRecDepth 4000
set_option maxHeartbeats 4000000
namespace Go.Rel
open Go Go.Eng Go.Proofs
theorem ref20_Line_ok {a0 : Int × List Int × List (List Int) × List Int × ByteArray × ByteArray} {v1 : Value} {v2 : Value} {r : ByteArray} (h : ref20_Line a0 r) (σ : Sto) (hs3 : Sl (kA .i64 2) σ v1 a0.2.2.1) (hs4 : Sl (kI .i64) σ v2 a0.2.2.2.1) :
    Does Tryd.prog 79 [.agg [.int .i64 a0.1, .int .i64 (a0.2.1.getD 0 0), .int .i64 (a0.2.1.getD 1 0), .int .i64 (a0.2.1.getD 2 0), .int .i64 (a0.2.1.getD 3 0), .int .i64 (a0.2.1.getD 4 0), .int .i64 (a0.2.1.getD 5 0), v1, v2, .string a0.2.2.2.2.1, .string a0.2.2.2.2.2].toArray] σ [] (fun v τ gs => gs = [] ∧ .string r = v) := by
  refine call_of Tryd.func79 Tryd.ntmps79 rfl rfl (fun cs fs => ?_)
  refine Z 2 rfl ?_
  refine o_box (cs := [.int .i64 a0.1, .int .i64 (a0.2.1.getD 0 0), .int .i64 (a0.2.1.getD 1 0), .int .i64 (a0.2.1.getD 2 0), .int .i64 (a0.2.1.getD 3 0), .int .i64 (a0.2.1.getD 4 0), .int .i64 (a0.2.1.getD 5 0), v1, v2, .string a0.2.2.2.2.1, .string a0.2.2.2.2.2]) rfl rfl rfl rfl rfl (fun b5 => ?_)
  refine o_assign rfl rfl rfl (ev_str z_str19) ?_
  refine Z 4 rfl ?_
  refine o_loadN (j := 0) (vs := [.int .i64 a0.1, .int .i64 (a0.2.1.getD 0 0), .int .i64 (a0.2.1.getD 1 0), .int .i64 (a0.2.1.getD 2 0), .int .i64 (a0.2.1.getD 3 0), .int .i64 (a0.2.1.getD 4 0), .int .i64 (a0.2.1.getD 5 0), v1, v2, .string a0.2.2.2.2.1, .string a0.2.2.2.2.2]) rfl rfl rfl z_agg39 rfl rfl rfl ?_
  obtain ⟨r6, hr7, h⟩ := h
  refine st_call (foot := []) rfl rfl rfl rfl rfl rfl (callV_fn z_en114 (ref17_Check_ok hr7 σ hs3 hs4)) ?_
  rintro vτ8 τ8 gsτ8 hl9 ⟨rfl, rfl⟩
  refine Z 2 rfl ?_
  refine st_cond rfl (fun hc => ?_) (fun hc => ?_)
  · replace h := (if_pos hc).mp h
    refine Z 2 rfl ?_
    refine o_assign rfl rfl rfl (ev_str z_str19) ?_
    refine st_end ?_
    refine st_ord [] [] rfl ?_
    obtain rfl := Eq.symm h
    exact st_ret (gs' := []) Tryd.func79 rfl (List.Sublist.refl _) hl9 ⟨rfl, rfl⟩
  · replace h := (if_neg (ne_t hc)).mp h
    refine Z 4 rfl ?_
    refine o_load (j := 0) (v := .int .i64 a0.1) rfl rfl rfl z_sc3 rfl rfl rfl ?_
    obtain ⟨r10, hr11, h⟩ := h
    refine st_call (foot := []) rfl rfl rfl rfl rfl rfl (callV_fn z_en115 (ref16_Word_ok hr11 τ8)) ?_
    rintro vτ12 τ12 gsτ12 hl13 ⟨rfl, rfl⟩
    refine Z 5 rfl ?_
    refine o_load (j := 0) (v := .int .i64 a0.1) rfl rfl rfl z_sc3 rfl rfl rfl ?_
    obtain ⟨r14, hr15, h⟩ := h
    refine st_call (foot := []) rfl rfl rfl rfl rfl rfl (callV_fn z_en116 (ref16_All_ok hr15 τ12)) ?_
    rintro vτ16 τ16 gsτ16 hl17 ⟨v18, rfl, rfl, hs19⟩
    refine Z 3 rfl ?_
    refine st_cut (fun ρ τ20 gs => ∃ (s20 : ByteArray), ref20_Line_j1 s20 r ∧ τ16.Le τ20 ∧ ρ = [(2, .string (bstr [])), (3, .string s20)] ∧ gs = []) ?_ (fun hk20 => ?_)
    · rintro ρ20 τ20 gs20 ⟨s20, h, hl20, rfl, rfl⟩
      refine Z 5 rfl ?_
      obtain rfl := Eq.symm h
      exact st_ret (gs' := []) Tryd.func79 rfl (List.Sublist.refl _) (((hl9.trans hl13).trans hl17).trans hl20) ⟨rfl, rfl⟩
    refine Z 4 rfl ?_
    obtain ⟨e21, hL21, hA21⟩ := h
    refine st_env (ρ' := [(1, .pointer (some ⟨b5, 0, none⟩)), (2, .string (bstr [])), (3, .string r10), (4, v18), (5, .int .i64 0)]) ⟨rfl, rfl, rfl, rfl, rfl, trivial⟩ ?_
    refine st_loop hL21 (fun (s21 : ByteArray × Int) ρ τ21 gs => τ16.Le τ21 ∧ ρ = [(1, .pointer (some ⟨b5, 0, none⟩)), (2, .string (bstr [])), (3, .string s21.1), (4, v18), (5, .int .i64 s21.2)] ∧ gs = [[(b5, .cells [.int .i64 a0.1, .int .i64 (a0.2.1.getD 0 0), .int .i64 (a0.2.1.getD 1 0), .int .i64 (a0.2.1.getD 2 0), .int .i64 (a0.2.1.getD 3 0), .int .i64 (a0.2.1.getD 4 0), .int .i64 (a0.2.1.getD 5 0), v1, v2, .string a0.2.2.2.2.1, .string a0.2.2.2.2.2].toArray 39 (0, 0))]]) ⟨Sto.Le.refl _, rfl, rfl⟩ ?_
    rintro s21 o21 h he21 ρ21 τ21 gs21 ⟨hl21, rfl, rfl⟩ hn21
    refine Z 5 rfl ?_
    refine o_lenI rfl rfl rfl z_slT180 rfl (hs19.up hl21) ?_
    refine Z 2 rfl ?_
    refine st_cond rfl (fun hc => ?_) (fun hc => ?_)
    · replace h := (if_pos hc).mp h
      refine Z 5 rfl ?_
      refine o_assign rfl rfl rfl (ev_str z_str19) ?_
      refine Z 2 rfl ?_
      refine st_cut (fun ρ τ22 gs => ∃ (s22 : ByteArray), ref20_Line_j3 r14 s21 s22 o21 ∧ τ21.Le τ22 ∧ ρ = [(1, .pointer (some ⟨b5, 0, none⟩)), (2, .string (bstr [])), (3, .string s21.1), (4, v18), (5, .int .i64 s21.2), (6, .string s22)] ∧ gs = [[(b5, .cells [.int .i64 a0.1, .int .i64 (a0.2.1.getD 0 0), .int .i64 (a0.2.1.getD 1 0), .int .i64 (a0.2.1.getD 2 0), .int .i64 (a0.2.1.getD 3 0), .int .i64 (a0.2.1.getD 4 0), .int .i64 (a0.2.1.getD 5 0), v1, v2, .string a0.2.2.2.2.1, .string a0.2.2.2.2.2].toArray 39 (0, 0))]]) ?_ (fun hk22 => ?_)
      · rintro ρ22 τ22 gs22 ⟨s22, h, hl22, rfl, rfl⟩
        refine Z 2 rfl ?_
        obtain ⟨hf23, h⟩ := h
        refine o_sadd rfl rfl rfl rfl (ev_str z_str25) hf23 ?_
        refine Z 2 rfl ?_
        obtain ⟨q24, hf25, h⟩ := h
        refine o_index rfl rfl rfl z_slT180 rfl rfl (hs19.up (hl21.trans hl22)) rfl hf25 (fun b26 of27 vs hc28 hrep => ?_)
        obtain ⟨_, _, rfl, rfl, ⟨_, _, rfl, rfl, ⟨_, _, rfl, rfl, ⟨_, _, rfl, rfl, ⟨_, _, rfl, rfl, ⟨_, _, rfl, rfl, rfl⟩⟩⟩⟩⟩⟩ := hrep
        refine o_fieldAddr rfl rfl rfl z_field182_0 rfl ?_
        refine o_loadI (v := .string q24.1) rfl rfl rfl z_sc9 rfl (hc28 0 _ rfl) ?_
        obtain ⟨hf29, h⟩ := h
        refine o_sadd rfl rfl rfl rfl rfl hf29 ?_
        obtain ⟨hf30, h⟩ := h
        refine o_sadd rfl rfl rfl rfl (ev_str z_str25) hf30 ?_
        refine o_move rfl rfl rfl rfl ?_
        obtain ⟨hf31, h⟩ := h
        refine o_sadd rfl rfl rfl rfl rfl hf31 ?_
        refine Z 8 rfl ?_
        refine st_env (ρ' := [(1, .pointer (some ⟨b5, 0, none⟩)), (2, .string (bstr [])), (3, .string ((((s21.1 ++ (bstr [32])) ++ q24.1) ++ (bstr [32])) ++ s22)), (4, v18), (5, .int .i64 (IntKind.i64.wrap (s21.2 + 1)))]) ⟨rfl, rfl, rfl, rfl, rfl, trivial⟩ ?_
        exact hn21 _ _ _ _ h ⟨(hl21.trans hl22), rfl, rfl⟩
      refine Z 4 rfl ?_
      obtain ⟨q32, hf33, h⟩ := h
      refine o_index rfl rfl rfl z_slT180 rfl rfl (hs19.up hl21) rfl hf33 (fun b34 of35 vs hc36 hrep => ?_)
      obtain ⟨_, _, rfl, rfl, ⟨_, _, rfl, rfl, ⟨_, _, rfl, rfl, ⟨_, _, rfl, rfl, ⟨_, _, rfl, rfl, ⟨_, _, rfl, rfl, rfl⟩⟩⟩⟩⟩⟩ := hrep
      refine o_fieldAddr rfl rfl rfl z_field182_1 rfl ?_
      refine o_loadI (v := .int .i64 q32.2.1) rfl rfl rfl z_sc3 rfl (hc36 1 _ rfl) ?_
      refine Z 7 rfl ?_
      refine st_cond rfl (fun hc => ?_) (fun hc => ?_)
      · replace h := (if_pos hc).mp h
        refine Z 4 rfl ?_
        obtain ⟨e37, hL37, hA37⟩ := h
        refine st_env (ρ' := [(1, .pointer (some ⟨b5, 0, none⟩)), (2, .string (bstr [])), (3, .string s21.1), (4, v18), (5, .int .i64 s21.2), (6, .string (bstr [])), (7, .int .i64 0)]) ⟨rfl, rfl, rfl, rfl, rfl, rfl, rfl, trivial⟩ ?_
        refine st_loop hL37 (fun (s37 : ByteArray × Int) ρ τ37 gs => τ21.Le τ37 ∧ ρ = [(1, .pointer (some ⟨b5, 0, none⟩)), (2, .string (bstr [])), (3, .string s21.1), (4, v18), (5, .int .i64 s21.2), (6, .string s37.1), (7, .int .i64 s37.2)] ∧ gs = [[(b5, .cells [.int .i64 a0.1, .int .i64 (a0.2.1.getD 0 0), .int .i64 (a0.2.1.getD 1 0), .int .i64 (a0.2.1.getD 2 0), .int .i64 (a0.2.1.getD 3 0), .int .i64 (a0.2.1.getD 4 0), .int .i64 (a0.2.1.getD 5 0), v1, v2, .string a0.2.2.2.2.1, .string a0.2.2.2.2.2].toArray 39 (0, 0))]]) ⟨Sto.Le.refl _, rfl, rfl⟩ ?_
        rintro s37 o37 h he37 ρ37 τ37 gs37 ⟨hl37, rfl, rfl⟩ hn37
        refine Z 5 rfl ?_
        refine o_load (j := 0) (v := v1) rfl rfl rfl z_sc37 rfl rfl rfl ?_
        refine o_lenI rfl rfl rfl z_slT37 rfl (hs3.up ((((hl9.trans hl13).trans hl17).trans hl21).trans hl37)) ?_
        refine Z 2 rfl ?_
        refine st_cond rfl (fun hc => ?_) (fun hc => ?_)
        · replace h := (if_pos hc).mp h
          refine Z 4 rfl ?_
          refine st_cut (fun ρ τ38 gs => ∃ (s38 : ByteArray), ref20_Line_j5 a0 s37 s38 o37 ∧ τ37.Le τ38 ∧ ρ = [(1, .pointer (some ⟨b5, 0, none⟩)), (2, .string (bstr [])), (3, .string s21.1), (4, v18), (5, .int .i64 s21.2), (6, .string s38), (7, .int .i64 s37.2)] ∧ gs = [[(b5, .cells [.int .i64 a0.1, .int .i64 (a0.2.1.getD 0 0), .int .i64 (a0.2.1.getD 1 0), .int .i64 (a0.2.1.getD 2 0), .int .i64 (a0.2.1.getD 3 0), .int .i64 (a0.2.1.getD 4 0), .int .i64 (a0.2.1.getD 5 0), v1, v2, .string a0.2.2.2.2.1, .string a0.2.2.2.2.2].toArray 39 (0, 0))]]) ?_ (fun hk38 => ?_)
          · rintro ρ38 τ38 gs38 ⟨s38, h, hl38, rfl, rfl⟩
            obtain ⟨q39, hf40, r44, hr45, hf48, hf49, q50, hf51, r55, hr56, hf59, h⟩ := h
            refine st_draw 18 (tl [fun τ v => (.string s38 : Value) = v,
    fun τ v => (.pointer (some ⟨b5, 7, none⟩) : Value) = v,
    fun τ v => (v1 : Value) = v,
    fun τ v => (.int .i64 s37.2 : Value) = v,
    fun τ v => ∃ (b41 : Nat) (of42 : Nat) (vsb41 : List Value), (.pointer (some ⟨b41, of42, none⟩) : Value) = v ∧ CelN τ ⟨b41, of42, none⟩ vsb41 ∧ (kA .i64 2).rep τ vsb41 q39,
    fun τ v => ∃ (b41 : Nat) (of42 : Nat) (vsb41 : List Value), (.pointer (some ⟨b41, of42 + (0 : Int).toNat * 1, none⟩) : Value) = v ∧ CelN τ ⟨b41, of42, none⟩ vsb41 ∧ (kA .i64 2).rep τ vsb41 q39,
    fun τ v => (.int .i64 (q39.getD 0 0) : Value) = v,
    fun τ v => (.string r44 : Value) = v,
    fun τ v => (.string (s38 ++ r44) : Value) = v,
    fun τ v => (.string ((s38 ++ r44) ++ (bstr [44])) : Value) = v,
    fun τ v => (.pointer (some ⟨b5, 7, none⟩) : Value) = v,
    fun τ v => (v1 : Value) = v,
    fun τ v => (.int .i64 s37.2 : Value) = v,
    fun τ v => ∃ (b52 : Nat) (of53 : Nat) (vsb52 : List Value), (.pointer (some ⟨b52, of53, none⟩) : Value) = v ∧ CelN τ ⟨b52, of53, none⟩ vsb52 ∧ (kA .i64 2).rep τ vsb52 q50,
    fun τ v => ∃ (b52 : Nat) (of53 : Nat) (vsb52 : List Value), (.pointer (some ⟨b52, of53 + (1 : Int).toNat * 1, none⟩) : Value) = v ∧ CelN τ ⟨b52, of53, none⟩ vsb52 ∧ (kA .i64 2).rep τ vsb52 q50,
    fun τ v => (.int .i64 (q50.getD 1 0) : Value) = v,
    fun τ v => (.string r55 : Value) = v,
    fun τ v => (.string (((s38 ++ r44) ++ (bstr [44])) ++ r55) : Value) = v]) (fun _ _ => []) z_mix rfl (tl_mono ⟨fun _ _ _ _ h => h, ⟨fun _ _ _ _ h => h, ⟨fun _ _ _ _ h => h, ⟨fun _ _ _ _ h => h, ⟨fun _ _ _ hl ⟨b41, of42, vsb41, hv, hc43, hrepb41⟩ => ⟨b41, of42, vsb41, hv, hc43.up hl, Kd.mono _ hl hrepb41⟩, ⟨fun _ _ _ hl ⟨b41, of42, vsb41, hv, hc43, hrepb41⟩ => ⟨b41, of42, vsb41, hv, hc43.up hl, Kd.mono _ hl hrepb41⟩, ⟨fun _ _ _ _ h => h, ⟨fun _ _ _ _ h => h, ⟨fun _ _ _ _ h => h, ⟨fun _ _ _ _ h => h, ⟨fun _ _ _ _ h => h, ⟨fun _ _ _ _ h => h, ⟨fun _ _ _ _ h => h, ⟨fun _ _ _ hl ⟨b52, of53, vsb52, hv, hc54, hrepb52⟩ => ⟨b52, of53, vsb52, hv, hc54.up hl, Kd.mono _ hl hrepb52⟩, ⟨fun _ _ _ hl ⟨b52, of53, vsb52, hv, hc54, hrepb52⟩ => ⟨b52, of53, vsb52, hv, hc54.up hl, Kd.mono _ hl hrepb52⟩, ⟨fun _ _ _ _ h => h, ⟨fun _ _ _ _ h => h, ⟨fun _ _ _ _ h => h, trivial⟩⟩⟩⟩⟩⟩⟩⟩⟩⟩⟩⟩⟩⟩⟩⟩⟩⟩) (allB_cons (allB_cons (allB_cons (allB_cons (allB_cons (allB_cons (allB_cons (allB_cons (allB_cons (allB_cons (allB_cons (allB_cons (allB_cons (allB_cons (allB_cons (allB_cons (allB_cons (allB_cons allB_nil ?_) ?_) ?_) ?_) ?_) ?_) ?_) ?_) ?_) ?_) ?_) ?_) ?_) ?_) ?_) ?_) ?_) ?_) ?_
            · intro ρ' τ pool rs hl hd hout hk
              refine o_move rfl rfl rfl ((hout 6 rfl).trans rfl) ?_
              exact st_addNil (hk _ _ (Sto.Le.refl _) rfl)
            · intro ρ' τ pool rs hl hd hout hk
              refine o_fieldAddr rfl rfl rfl z_field39_2 ((hout 1 rfl).trans rfl) ?_
              exact st_addNil (hk _ _ (Sto.Le.refl _) rfl)
            · intro ρ' τ pool rs hl hd hout hk
              obtain ⟨_, e1, rfl⟩ := hd 1 rfl
              refine o_load (j := 0) (v := v1) rfl rfl rfl z_sc37 e1 rfl rfl ?_
              exact st_addNil (hk _ _ (Sto.Le.refl _) rfl)
            · intro ρ' τ pool rs hl hd hout hk
              refine o_move rfl rfl rfl ((hout 7 rfl).trans rfl) ?_
              exact st_addNil (hk _ _ (Sto.Le.refl _) rfl)
            · intro ρ' τ pool rs hl hd hout hk
              obtain ⟨_, e2, rfl⟩ := hd 2 rfl
              obtain ⟨_, e3, rfl⟩ := hd 3 rfl
              refine o_index rfl rfl rfl z_slT37 rfl e2 (hs3.up ((((((hl9.trans hl13).trans hl17).trans hl21).trans hl37).trans hl38).trans hl)) e3 hf40 (fun b41 of42 vsb41 hc43 hrepb41 => ?_)
              exact st_addNil (hk _ _ (Sto.Le.refl _) ⟨b41, of42, _, rfl, hc43, hrepb41⟩)
            · intro ρ' τ pool rs hl hd hout hk
              obtain ⟨_, e4, b41, of42, vsb41, rfl, hc43, hrepb41⟩ := hd 4 rfl
              have hrepb41 := hrepb41
              obtain rfl := hrepb41
              refine o_indexA rfl rfl rfl z_arr132 e4 rfl (by decide) (by decide) ?_
              exact st_addNil (hk _ _ (Sto.Le.refl _) ⟨b41, of42, _, rfl, hc43, hrepb41⟩)
            · intro ρ' τ pool rs hl hd hout hk
              obtain ⟨_, e5, b41, of42, vsb41, rfl, hc43, hrepb41⟩ := hd 5 rfl
              have hrepb41 := hrepb41
              obtain rfl := hrepb41
              refine o_loadI (v := .int .i64 (q39.getD 0 0)) rfl rfl rfl z_sc3 e5 (cel_arr (f := (Value.int .i64)) (zz := 0) (n := 2) (xs := q39) (p := 0) (q := 0) hc43 rfl (by omega) (by omega)) ?_
              exact st_addNil (hk _ _ (Sto.Le.refl _) rfl)
            · intro ρ' τ pool rs hl hd hout hk
              obtain ⟨_, e6, rfl⟩ := hd 6 rfl
              refine st_call (foot := []) rfl rfl rfl rfl (evs_cons e6 rfl) rfl (callV_fn z_en78 (ref07_Digits_ok hr45 τ)) ?_
              rintro vτ46 τ46 gsτ46 hl47 ⟨rfl, rfl⟩
              exact st_addNil (hk _ _ hl47 rfl)
            · intro ρ' τ pool rs hl hd hout hk
              obtain ⟨_, e0, rfl⟩ := hd 0 rfl
              obtain ⟨_, e7, rfl⟩ := hd 7 rfl
              refine o_sadd rfl rfl rfl e0 e7 hf48 ?_
              exact st_addNil (hk _ _ (Sto.Le.refl _) rfl)
            · intro ρ' τ pool rs hl hd hout hk
              obtain ⟨_, e8, rfl⟩ := hd 8 rfl
              refine o_sadd rfl rfl rfl e8 (ev_str z_str26) hf49 ?_
              exact st_addNil (hk _ _ (Sto.Le.refl _) rfl)
            · intro ρ' τ pool rs hl hd hout hk
              refine o_fieldAddr rfl rfl rfl z_field39_2 ((hout 1 rfl).trans rfl) ?_
              exact st_addNil (hk _ _ (Sto.Le.refl _) rfl)
            · intro ρ' τ pool rs hl hd hout hk
              obtain ⟨_, e10, rfl⟩ := hd 10 rfl
              refine o_load (j := 0) (v := v1) rfl rfl rfl z_sc37 e10 rfl rfl ?_
              exact st_addNil (hk _ _ (Sto.Le.refl _) rfl)
            · intro ρ' τ pool rs hl hd hout hk
              refine o_move rfl rfl rfl ((hout 7 rfl).trans rfl) ?_
              exact st_addNil (hk _ _ (Sto.Le.refl _) rfl)
            · intro ρ' τ pool rs hl hd hout hk
              obtain ⟨_, e11, rfl⟩ := hd 11 rfl
              obtain ⟨_, e12, rfl⟩ := hd 12 rfl
              refine o_index rfl rfl rfl z_slT37 rfl e11 (hs3.up ((((((hl9.trans hl13).trans hl17).trans hl21).trans hl37).trans hl38).trans hl)) e12 hf51 (fun b52 of53 vsb52 hc54 hrepb52 => ?_)
              exact st_addNil (hk _ _ (Sto.Le.refl _) ⟨b52, of53, _, rfl, hc54, hrepb52⟩)
            · intro ρ' τ pool rs hl hd hout hk
              obtain ⟨_, e13, b52, of53, vsb52, rfl, hc54, hrepb52⟩ := hd 13 rfl
              have hrepb52 := hrepb52
              obtain rfl := hrepb52
              refine o_indexA rfl rfl rfl z_arr132 e13 rfl (by decide) (by decide) ?_
              exact st_addNil (hk _ _ (Sto.Le.refl _) ⟨b52, of53, _, rfl, hc54, hrepb52⟩)
            · intro ρ' τ pool rs hl hd hout hk
              obtain ⟨_, e14, b52, of53, vsb52, rfl, hc54, hrepb52⟩ := hd 14 rfl
              have hrepb52 := hrepb52
              obtain rfl := hrepb52
              refine o_loadI (v := .int .i64 (q50.getD 1 0)) rfl rfl rfl z_sc3 e14 (cel_arr (f := (Value.int .i64)) (zz := 0) (n := 2) (xs := q50) (p := 0) (q := 1) hc54 rfl (by omega) (by omega)) ?_
              exact st_addNil (hk _ _ (Sto.Le.refl _) rfl)
            · intro ρ' τ pool rs hl hd hout hk
              obtain ⟨_, e15, rfl⟩ := hd 15 rfl
              refine st_call (foot := []) rfl rfl rfl rfl (evs_cons e15 rfl) rfl (callV_fn z_en78 (ref07_Digits_ok hr56 τ)) ?_
              rintro vτ57 τ57 gsτ57 hl58 ⟨rfl, rfl⟩
              exact st_addNil (hk _ _ hl58 rfl)
            · intro ρ' τ pool rs hl hd hout hk
              obtain ⟨_, e9, rfl⟩ := hd 9 rfl
              obtain ⟨_, e16, rfl⟩ := hd 16 rfl
              refine o_sadd rfl rfl rfl e9 e16 hf59 ?_
              exact st_addNil (hk _ _ (Sto.Le.refl _) rfl)
            intro ρ' τ60 vals hl60 hv hout
            have l17 : Eng.look ρ' 68 = some (.string (((s38 ++ r44) ++ (bstr [44])) ++ r55)) := ((hv 17 (by decide)).1).trans (congrArg some (show vals 17 = .string (((s38 ++ r44) ++ (bstr [44])) ++ r55) from Eq.symm (hv 17 (by decide)).2))
            refine st_ord [0] [[(b5, .cells [.int .i64 a0.1, .int .i64 (a0.2.1.getD 0 0), .int .i64 (a0.2.1.getD 1 0), .int .i64 (a0.2.1.getD 2 0), .int .i64 (a0.2.1.getD 3 0), .int .i64 (a0.2.1.getD 4 0), .int .i64 (a0.2.1.getD 5 0), v1, v2, .string a0.2.2.2.2.1, .string a0.2.2.2.2.2].toArray 39 (0, 0))]] rfl ?_
            refine st_env (ρ' := [(68, .string (((s38 ++ r44) ++ (bstr [44])) ++ r55)), (1, .pointer (some ⟨b5, 0, none⟩)), (2, .string (bstr [])), (3, .string s21.1), (4, v18), (5, .int .i64 s21.2), (7, .int .i64 s37.2)]) ⟨l17, (hout 1 rfl).trans rfl, (hout 2 rfl).trans rfl, (hout 3 rfl).trans rfl, (hout 4 rfl).trans rfl, (hout 5 rfl).trans rfl, (hout 7 rfl).trans rfl, trivial⟩ ?_
            refine Z 8 rfl ?_
            refine st_env (ρ' := [(1, .pointer (some ⟨b5, 0, none⟩)), (2, .string (bstr [])), (3, .string s21.1), (4, v18), (5, .int .i64 s21.2), (6, .string (((s38 ++ r44) ++ (bstr [44])) ++ r55)), (7, .int .i64 (IntKind.i64.wrap (s37.2 + 1)))]) ⟨rfl, rfl, rfl, rfl, rfl, rfl, rfl, trivial⟩ ?_
            exact hn37 _ _ _ _ h ⟨((hl37.trans hl38).trans hl60), rfl, rfl⟩
          refine Z 5 rfl ?_
          refine st_cond rfl (fun hc => ?_) (fun hc => ?_)
          · replace h := (if_pos hc).mp h
            refine Z 2 rfl ?_
            obtain ⟨hf61, h⟩ := h
            refine o_sadd rfl rfl rfl rfl (ev_str z_str27) hf61 ?_
            refine Z 2 rfl ?_
            refine st_env (ρ' := [(1, .pointer (some ⟨b5, 0, none⟩)), (2, .string (bstr [])), (3, .string s21.1), (4, v18), (5, .int .i64 s21.2), (6, .string (s37.1 ++ (bstr [59]))), (7, .int .i64 s37.2)]) ⟨rfl, rfl, rfl, rfl, rfl, rfl, rfl, trivial⟩ ?_
            exact hk38 _ _ _ ⟨(s37.1 ++ (bstr [59])), h, (Sto.Le.refl _), rfl, rfl⟩
          · replace h := (if_neg (ne_t hc)).mp h
            refine st_skip ?_
            refine st_env (ρ' := [(1, .pointer (some ⟨b5, 0, none⟩)), (2, .string (bstr [])), (3, .string s21.1), (4, v18), (5, .int .i64 s21.2), (6, .string s37.1), (7, .int .i64 s37.2)]) ⟨rfl, rfl, rfl, rfl, rfl, rfl, rfl, trivial⟩ ?_
            exact hk38 _ _ _ ⟨s37.1, h, (Sto.Le.refl _), rfl, rfl⟩
        · replace h := (if_neg (ne_t hc)).mp h
          refine Z 2 rfl ?_
          obtain rfl := he37 _ h
          replace h := hA37
          refine st_env (ρ' := [(1, .pointer (some ⟨b5, 0, none⟩)), (2, .string (bstr [])), (3, .string s21.1), (4, v18), (5, .int .i64 s21.2), (6, .string s37.1)]) ⟨rfl, rfl, rfl, rfl, rfl, rfl, trivial⟩ ?_
          exact hk22 _ _ _ ⟨s37.1, h, hl37, rfl, rfl⟩
      · replace h := (if_neg (ne_t hc)).mp h
        refine Z 5 rfl ?_
        refine st_cond rfl (fun hc => ?_) (fun hc => ?_)
        · replace h := (if_pos hc).mp h
          refine Z 4 rfl ?_
          obtain ⟨e63, hL63, hA63⟩ := h
          refine st_env (ρ' := [(1, .pointer (some ⟨b5, 0, none⟩)), (2, .string (bstr [])), (3, .string s21.1), (4, v18), (5, .int .i64 s21.2), (6, .string (bstr [])), (8, .int .i64 0)]) ⟨rfl, rfl, rfl, rfl, rfl, rfl, rfl, trivial⟩ ?_
          refine st_loop hL63 (fun (s63 : ByteArray × Int) ρ τ63 gs => τ21.Le τ63 ∧ ρ = [(1, .pointer (some ⟨b5, 0, none⟩)), (2, .string (bstr [])), (3, .string s21.1), (4, v18), (5, .int .i64 s21.2), (6, .string s63.1), (8, .int .i64 s63.2)] ∧ gs = [[(b5, .cells [.int .i64 a0.1, .int .i64 (a0.2.1.getD 0 0), .int .i64 (a0.2.1.getD 1 0), .int .i64 (a0.2.1.getD 2 0), .int .i64 (a0.2.1.getD 3 0), .int .i64 (a0.2.1.getD 4 0), .int .i64 (a0.2.1.getD 5 0), v1, v2, .string a0.2.2.2.2.1, .string a0.2.2.2.2.2].toArray 39 (0, 0))]]) ⟨Sto.Le.refl _, rfl, rfl⟩ ?_
          rintro s63 o63 h he63 ρ63 τ63 gs63 ⟨hl63, rfl, rfl⟩ hn63
          refine Z 5 rfl ?_
          refine o_load (j := 0) (v := v2) rfl rfl rfl z_sc24 rfl rfl rfl ?_
          refine o_lenI rfl rfl rfl z_slT24 rfl (hs4.up ((((hl9.trans hl13).trans hl17).trans hl21).trans hl63)) ?_
          refine Z 2 rfl ?_
          refine st_cond rfl (fun hc => ?_) (fun hc => ?_)
          · replace h := (if_pos hc).mp h
            refine Z 4 rfl ?_
            refine st_cut (fun ρ τ64 gs => ∃ (s64 : ByteArray), ref20_Line_j7 a0 s63 s64 o63 ∧ τ63.Le τ64 ∧ ρ = [(1, .pointer (some ⟨b5, 0, none⟩)), (2, .string (bstr [])), (3, .string s21.1), (4, v18), (5, .int .i64 s21.2), (6, .string s64), (8, .int .i64 s63.2)] ∧ gs = [[(b5, .cells [.int .i64 a0.1, .int .i64 (a0.2.1.getD 0 0), .int .i64 (a0.2.1.getD 1 0), .int .i64 (a0.2.1.getD 2 0), .int .i64 (a0.2.1.getD 3 0), .int .i64 (a0.2.1.getD 4 0), .int .i64 (a0.2.1.getD 5 0), v1, v2, .string a0.2.2.2.2.1, .string a0.2.2.2.2.2].toArray 39 (0, 0))]]) ?_ (fun hk64 => ?_)
            · rintro ρ64 τ64 gs64 ⟨s64, h, hl64, rfl, rfl⟩
              refine Z 3 rfl ?_
              refine o_load (j := 0) (v := v2) rfl rfl rfl z_sc24 rfl rfl rfl ?_
              refine o_move rfl rfl rfl rfl ?_
              obtain ⟨q65, hf66, h⟩ := h
              refine o_index rfl rfl rfl z_slT24 rfl rfl (hs4.up (((((hl9.trans hl13).trans hl17).trans hl21).trans hl63).trans hl64)) rfl hf66 (fun b67 of68 vs hc69 hrep => ?_)
              obtain rfl := hrep
              refine o_loadI (v := .int .i64 q65) rfl rfl rfl z_sc3 rfl (hc69 0 _ rfl) ?_
              obtain ⟨r70, hr71, h⟩ := h
              refine st_call (foot := []) rfl rfl rfl rfl rfl rfl (callV_fn z_en78 (ref07_Digits_ok hr71 τ64)) ?_
              rintro vτ72 τ72 gsτ72 hl73 ⟨rfl, rfl⟩
              obtain ⟨hf74, h⟩ := h
              refine o_sadd rfl rfl rfl rfl rfl hf74 ?_
              refine Z 8 rfl ?_
              refine st_env (ρ' := [(1, .pointer (some ⟨b5, 0, none⟩)), (2, .string (bstr [])), (3, .string s21.1), (4, v18), (5, .int .i64 s21.2), (6, .string (s64 ++ r70)), (8, .int .i64 (IntKind.i64.wrap (s63.2 + 1)))]) ⟨rfl, rfl, rfl, rfl, rfl, rfl, rfl, trivial⟩ ?_
              exact hn63 _ _ _ _ h ⟨((hl63.trans hl64).trans hl73), rfl, rfl⟩
            refine Z 5 rfl ?_
            refine st_cond rfl (fun hc => ?_) (fun hc => ?_)
            · replace h := (if_pos hc).mp h
              refine Z 2 rfl ?_
              obtain ⟨hf75, h⟩ := h
              refine o_sadd rfl rfl rfl rfl (ev_str z_str26) hf75 ?_
              refine Z 2 rfl ?_
              refine st_env (ρ' := [(1, .pointer (some ⟨b5, 0, none⟩)), (2, .string (bstr [])), (3, .string s21.1), (4, v18), (5, .int .i64 s21.2), (6, .string (s63.1 ++ (bstr [44]))), (8, .int .i64 s63.2)]) ⟨rfl, rfl, rfl, rfl, rfl, rfl, rfl, trivial⟩ ?_
              exact hk64 _ _ _ ⟨(s63.1 ++ (bstr [44])), h, (Sto.Le.refl _), rfl, rfl⟩
            · replace h := (if_neg (ne_t hc)).mp h
              refine st_skip ?_
              refine st_env (ρ' := [(1, .pointer (some ⟨b5, 0, none⟩)), (2, .string (bstr [])), (3, .string s21.1), (4, v18), (5, .int .i64 s21.2), (6, .string s63.1), (8, .int .i64 s63.2)]) ⟨rfl, rfl, rfl, rfl, rfl, rfl, rfl, trivial⟩ ?_
              exact hk64 _ _ _ ⟨s63.1, h, (Sto.Le.refl _), rfl, rfl⟩
          · replace h := (if_neg (ne_t hc)).mp h
            refine Z 2 rfl ?_
            obtain rfl := he63 _ h
            replace h := hA63
            refine st_env (ρ' := [(1, .pointer (some ⟨b5, 0, none⟩)), (2, .string (bstr [])), (3, .string s21.1), (4, v18), (5, .int .i64 s21.2), (6, .string s63.1)]) ⟨rfl, rfl, rfl, rfl, rfl, rfl, trivial⟩ ?_
            exact hk22 _ _ _ ⟨s63.1, h, hl63, rfl, rfl⟩
        · replace h := (if_neg (ne_t hc)).mp h
          refine Z 5 rfl ?_
          refine st_cond rfl (fun hc => ?_) (fun hc => ?_)
          · replace h := (if_pos hc).mp h
            refine Z 2 rfl ?_
            refine o_load (j := 0) (v := .string a0.2.2.2.2.1) rfl rfl rfl z_sc9 rfl rfl rfl ?_
            obtain ⟨r77, hr78, h⟩ := h
            refine st_call (foot := []) rfl rfl rfl rfl rfl rfl (callV_fn z_en117 (ref20_hex_ok hr78 τ21)) ?_
            rintro vτ79 τ79 gsτ79 hl80 ⟨rfl, rfl⟩
            refine Z 3 rfl ?_
            refine st_env (ρ' := [(1, .pointer (some ⟨b5, 0, none⟩)), (2, .string (bstr [])), (3, .string s21.1), (4, v18), (5, .int .i64 s21.2), (6, .string r77)]) ⟨rfl, rfl, rfl, rfl, rfl, rfl, trivial⟩ ?_
            exact hk22 _ _ _ ⟨r77, h, hl80, rfl, rfl⟩
          · replace h := (if_neg (ne_t hc)).mp h
            refine Z 5 rfl ?_
            refine st_cond rfl (fun hc => ?_) (fun hc => ?_)
            · replace h := (if_pos hc).mp h
              refine Z 2 rfl ?_
              refine o_load (j := 0) (v := .string a0.2.2.2.2.2) rfl rfl rfl z_sc9 rfl rfl rfl ?_
              obtain ⟨r81, hr82, h⟩ := h
              refine st_call (foot := []) rfl rfl rfl rfl rfl rfl (callV_fn z_en117 (ref20_hex_ok hr82 τ21)) ?_
              rintro vτ83 τ83 gsτ83 hl84 ⟨rfl, rfl⟩
              refine Z 3 rfl ?_
              refine st_env (ρ' := [(1, .pointer (some ⟨b5, 0, none⟩)), (2, .string (bstr [])), (3, .string s21.1), (4, v18), (5, .int .i64 s21.2), (6, .string r81)]) ⟨rfl, rfl, rfl, rfl, rfl, rfl, trivial⟩ ?_
              exact hk22 _ _ _ ⟨r81, h, hl84, rfl, rfl⟩
            · replace h := (if_neg (ne_t hc)).mp h
              refine Z 3 rfl ?_
              obtain ⟨q85, hf86, h⟩ := h
              refine o_index rfl rfl rfl z_slT180 rfl rfl (hs19.up hl21) rfl hf86 (fun b87 of88 vs hc89 hrep => ?_)
              obtain ⟨_, _, rfl, rfl, ⟨_, _, rfl, rfl, ⟨_, _, rfl, rfl, ⟨_, _, rfl, rfl, ⟨_, _, rfl, rfl, ⟨_, _, rfl, rfl, rfl⟩⟩⟩⟩⟩⟩ := hrep
              refine o_fieldAddr rfl rfl rfl z_field182_2 rfl ?_
              refine o_loadI (v := .int .i64 q85.2.2.1) rfl rfl rfl z_sc3 rfl (hc89 2 _ rfl) ?_
              refine o_fieldAddr rfl rfl rfl z_field39_1 rfl ?_
              obtain ⟨hf90, hf91, h⟩ := h
              refine o_indexA rfl rfl rfl z_arr22 rfl rfl hf90 hf91 ?_
              refine o_loadV (j := 0) (q85.2.2.1.toNat) (f := (Value.int .i64)) (zz := 0) (l := 6) (xs := a0.2.1) [.int .i64 a0.1] [v1, v2, .string a0.2.2.2.2.1, .string a0.2.2.2.2.2] rfl rfl rfl z_sc3 rfl rfl (by simp only [List.length_cons, List.length_nil]; omega) (by omega) ?_
              obtain ⟨r92, hr93, h⟩ := h
              refine st_call (foot := []) rfl rfl rfl rfl rfl rfl (callV_fn z_en78 (ref07_Digits_ok hr93 τ21)) ?_
              rintro vτ94 τ94 gsτ94 hl95 ⟨rfl, rfl⟩
              refine Z 3 rfl ?_
              refine st_env (ρ' := [(1, .pointer (some ⟨b5, 0, none⟩)), (2, .string (bstr [])), (3, .string s21.1), (4, v18), (5, .int .i64 s21.2), (6, .string r92)]) ⟨rfl, rfl, rfl, rfl, rfl, rfl, trivial⟩ ?_
              exact hk22 _ _ _ ⟨r92, h, hl95, rfl, rfl⟩
    · replace h := (if_neg (ne_t hc)).mp h
      refine st_exit rfl ?_
      obtain rfl := he21 _ h
      replace h := hA21
      refine st_env (ρ' := [(2, .string (bstr [])), (3, .string s21.1)]) ⟨rfl, rfl, trivial⟩ ?_
      refine st_ord [] [] rfl ?_
      exact hk20 _ _ _ ⟨s21.1, h, hl21, rfl, rfl⟩
theorem ref23_Word_ok {a0 : Int} {r : ByteArray} (h : ref23_Word a0 r) (σ : Sto)  :
    Does Tryd.prog 29 [.int .i64 a0] σ [] (fun v τ gs => gs = [] ∧ .string r = v) := by
  refine call_of Tryd.func29 Tryd.ntmps29 rfl rfl (fun cs fs => ?_)
  refine Z 2 rfl ?_
  refine o_assign rfl rfl rfl (ev_str z_str19) ?_
  refine Z 3 rfl ?_
  refine o_lit (dk := (kI .i64)) (xs := [2, 3, 4, 5, 6, 9, 10, 11, 12, 13, 14, 15, 16, 17, 18, 19]) (ps := [(0, [.int .i64 2]), (1, [.int .i64 3]), (2, [.int .i64 4]), (3, [.int .i64 5]), (4, [.int .i64 6]), (5, [.int .i64 9]), (6, [.int .i64 10]), (7, [.int .i64 11]), (8, [.int .i64 12]), (9, [.int .i64 13]), (10, [.int .i64 14]), (11, [.int .i64 15]), (12, [.int .i64 16]), (13, [.int .i64 17]), (14, [.int .i64 18]), (15, [.int .i64 19])]) (cs := [.int .i64 2, .int .i64 3, .int .i64 4, .int .i64 5, .int .i64 6, .int .i64 9, .int .i64 10, .int .i64 11, .int .i64 12, .int .i64 13, .int .i64 14, .int .i64 15, .int .i64 16, .int .i64 17, .int .i64 18, .int .i64 19]) rfl rfl rfl z_slT24 z_zero3 ⟨rfl, ⟨_, rfl, rfl⟩, ⟨rfl, ⟨_, rfl, rfl⟩, ⟨rfl, ⟨_, rfl, rfl⟩, ⟨rfl, ⟨_, rfl, rfl⟩, ⟨rfl, ⟨_, rfl, rfl⟩, ⟨rfl, ⟨_, rfl, rfl⟩, ⟨rfl, ⟨_, rfl, rfl⟩, ⟨rfl, ⟨_, rfl, rfl⟩, ⟨rfl, ⟨_, rfl, rfl⟩, ⟨rfl, ⟨_, rfl, rfl⟩, ⟨rfl, ⟨_, rfl, rfl⟩, ⟨rfl, ⟨_, rfl, rfl⟩, ⟨rfl, ⟨_, rfl, rfl⟩, ⟨rfl, ⟨_, rfl, rfl⟩, ⟨rfl, ⟨_, rfl, rfl⟩, ⟨rfl, ⟨_, rfl, rfl⟩, trivial⟩⟩⟩⟩⟩⟩⟩⟩⟩⟩⟩⟩⟩⟩⟩⟩ rfl rfl rfl rfl (Kd.Many.cons (d := (kI .i64)) (x := 2) (a := [.int .i64 2]) rfl (Kd.Many.cons (d := (kI .i64)) (x := 3) (a := [.int .i64 3]) rfl (Kd.Many.cons (d := (kI .i64)) (x := 4) (a := [.int .i64 4]) rfl (Kd.Many.cons (d := (kI .i64)) (x := 5) (a := [.int .i64 5]) rfl (Kd.Many.cons (d := (kI .i64)) (x := 6) (a := [.int .i64 6]) rfl (Kd.Many.cons (d := (kI .i64)) (x := 9) (a := [.int .i64 9]) rfl (Kd.Many.cons (d := (kI .i64)) (x := 10) (a := [.int .i64 10]) rfl (Kd.Many.cons (d := (kI .i64)) (x := 11) (a := [.int .i64 11]) rfl (Kd.Many.cons (d := (kI .i64)) (x := 12) (a := [.int .i64 12]) rfl (Kd.Many.cons (d := (kI .i64)) (x := 13) (a := [.int .i64 13]) rfl (Kd.Many.cons (d := (kI .i64)) (x := 14) (a := [.int .i64 14]) rfl (Kd.Many.cons (d := (kI .i64)) (x := 15) (a := [.int .i64 15]) rfl (Kd.Many.cons (d := (kI .i64)) (x := 16) (a := [.int .i64 16]) rfl (Kd.Many.cons (d := (kI .i64)) (x := 17) (a := [.int .i64 17]) rfl (Kd.Many.cons (d := (kI .i64)) (x := 18) (a := [.int .i64 18]) rfl (Kd.Many.cons (d := (kI .i64)) (x := 19) (a := [.int .i64 19]) rfl Kd.Many.nil)))))))))))))))) (fun v1 g2 ho3 => ?_)
  refine Z 4 rfl ?_
  refine o_lit (dk := kS) (xs := [(bstr [108, 111, 110, 103]), (bstr [102, 111, 114, 109]), (bstr [101, 110, 100]), (bstr [114, 97, 110, 103, 101]), (bstr [109, 97, 110, 121]), (bstr [107, 105, 110, 100]), (bstr [118, 101, 114, 115, 105, 111, 110]), (bstr [115, 117, 109]), (bstr [115, 116, 117, 102, 102]), (bstr [115, 104, 111, 114, 116]), (bstr [115, 101, 101, 110]), (bstr [111, 108, 100]), (bstr [116, 119, 105, 99, 101]), (bstr [109, 101, 101, 116]), (bstr [108, 97, 116, 101]), (bstr [116, 101, 120, 116])]) (ps := [(0, [.string (bstr [108, 111, 110, 103])]), (1, [.string (bstr [102, 111, 114, 109])]), (2, [.string (bstr [101, 110, 100])]), (3, [.string (bstr [114, 97, 110, 103, 101])]), (4, [.string (bstr [109, 97, 110, 121])]), (5, [.string (bstr [107, 105, 110, 100])]), (6, [.string (bstr [118, 101, 114, 115, 105, 111, 110])]), (7, [.string (bstr [115, 117, 109])]), (8, [.string (bstr [115, 116, 117, 102, 102])]), (9, [.string (bstr [115, 104, 111, 114, 116])]), (10, [.string (bstr [115, 101, 101, 110])]), (11, [.string (bstr [111, 108, 100])]), (12, [.string (bstr [116, 119, 105, 99, 101])]), (13, [.string (bstr [109, 101, 101, 116])]), (14, [.string (bstr [108, 97, 116, 101])]), (15, [.string (bstr [116, 101, 120, 116])])]) (cs := [.string (bstr [108, 111, 110, 103]), .string (bstr [102, 111, 114, 109]), .string (bstr [101, 110, 100]), .string (bstr [114, 97, 110, 103, 101]), .string (bstr [109, 97, 110, 121]), .string (bstr [107, 105, 110, 100]), .string (bstr [118, 101, 114, 115, 105, 111, 110]), .string (bstr [115, 117, 109]), .string (bstr [115, 116, 117, 102, 102]), .string (bstr [115, 104, 111, 114, 116]), .string (bstr [115, 101, 101, 110]), .string (bstr [111, 108, 100]), .string (bstr [116, 119, 105, 99, 101]), .string (bstr [109, 101, 101, 116]), .string (bstr [108, 97, 116, 101]), .string (bstr [116, 101, 120, 116])]) rfl rfl rfl z_slT68 z_zero9 ⟨rfl, ⟨_, (ev_str z_str36), rfl⟩, ⟨rfl, ⟨_, (ev_str z_str37), rfl⟩, ⟨rfl, ⟨_, (ev_str z_str38), rfl⟩, ⟨rfl, ⟨_, (ev_str z_str39), rfl⟩, ⟨rfl, ⟨_, (ev_str z_str40), rfl⟩, ⟨rfl, ⟨_, (ev_str z_str41), rfl⟩, ⟨rfl, ⟨_, (ev_str z_str42), rfl⟩, ⟨rfl, ⟨_, (ev_str z_str43), rfl⟩, ⟨rfl, ⟨_, (ev_str z_str44), rfl⟩, ⟨rfl, ⟨_, (ev_str z_str45), rfl⟩, ⟨rfl, ⟨_, (ev_str z_str46), rfl⟩, ⟨rfl, ⟨_, (ev_str z_str47), rfl⟩, ⟨rfl, ⟨_, (ev_str z_str48), rfl⟩, ⟨rfl, ⟨_, (ev_str z_str49), rfl⟩, ⟨rfl, ⟨_, (ev_str z_str50), rfl⟩, ⟨rfl, ⟨_, (ev_str z_str18), rfl⟩, trivial⟩⟩⟩⟩⟩⟩⟩⟩⟩⟩⟩⟩⟩⟩⟩⟩ rfl rfl rfl rfl (Kd.Many.cons (d := kS) (x := (bstr [108, 111, 110, 103])) (a := [.string (bstr [108, 111, 110, 103])]) rfl (Kd.Many.cons (d := kS) (x := (bstr [102, 111, 114, 109])) (a := [.string (bstr [102, 111, 114, 109])]) rfl (Kd.Many.cons (d := kS) (x := (bstr [101, 110, 100])) (a := [.string (bstr [101, 110, 100])]) rfl (Kd.Many.cons (d := kS) (x := (bstr [114, 97, 110, 103, 101])) (a := [.string (bstr [114, 97, 110, 103, 101])]) rfl (Kd.Many.cons (d := kS) (x := (bstr [109, 97, 110, 121])) (a := [.string (bstr [109, 97, 110, 121])]) rfl (Kd.Many.cons (d := kS) (x := (bstr [107, 105, 110, 100])) (a := [.string (bstr [107, 105, 110, 100])]) rfl (Kd.Many.cons (d := kS) (x := (bstr [118, 101, 114, 115, 105, 111, 110])) (a := [.string (bstr [118, 101, 114, 115, 105, 111, 110])]) rfl (Kd.Many.cons (d := kS) (x := (bstr [115, 117, 109])) (a := [.string (bstr [115, 117, 109])]) rfl (Kd.Many.cons (d := kS) (x := (bstr [115, 116, 117, 102, 102])) (a := [.string (bstr [115, 116, 117, 102, 102])]) rfl (Kd.Many.cons (d := kS) (x := (bstr [115, 104, 111, 114, 116])) (a := [.string (bstr [115, 104, 111, 114, 116])]) rfl (Kd.Many.cons (d := kS) (x := (bstr [115, 101, 101, 110])) (a := [.string (bstr [115, 101, 101, 110])]) rfl (Kd.Many.cons (d := kS) (x := (bstr [111, 108, 100])) (a := [.string (bstr [111, 108, 100])]) rfl (Kd.Many.cons (d := kS) (x := (bstr [116, 119, 105, 99, 101])) (a := [.string (bstr [116, 119, 105, 99, 101])]) rfl (Kd.Many.cons (d := kS) (x := (bstr [109, 101, 101, 116])) (a := [.string (bstr [109, 101, 101, 116])]) rfl (Kd.Many.cons (d := kS) (x := (bstr [108, 97, 116, 101])) (a := [.string (bstr [108, 97, 116, 101])]) rfl (Kd.Many.cons (d := kS) (x := (bstr [116, 101, 120, 116])) (a := [.string (bstr [116, 101, 120, 116])]) rfl Kd.Many.nil)))))))))))))))) (fun v4 g5 ho6 => ?_)
  refine Z 3 rfl ?_
  refine st_cut (fun ρ τ7 gs => ∃ (s7 : Unit), ref23_Word_j1 s7 r ∧ σ.Le τ7 ∧ ρ = [(2, .string (bstr []))] ∧ gs = []) ?_ (fun hk7 => ?_)
  · rintro ρ7 τ7 gs7 ⟨s7, h, hl7, rfl, rfl⟩
    refine Z 2 rfl ?_
    refine o_assign rfl rfl rfl (ev_str z_str19) ?_
    refine st_end ?_
    obtain rfl := Eq.symm h
    exact st_ret (gs' := []) Tryd.func29 rfl (List.Sublist.refl _) hl7 ⟨rfl, rfl⟩
  refine Z 4 rfl ?_
  obtain ⟨e8, hL8, hA8⟩ := h
  refine st_env (ρ' := [(0, .int .i64 a0), (2, .string (bstr [])), (3, v1), (4, v4), (5, .int .i64 0)]) ⟨rfl, rfl, rfl, rfl, rfl, trivial⟩ ?_
  refine st_ord [1, 0] [g2, g5] rfl ?_
  refine st_loop hL8 (fun (s8 : Int) ρ τ8 gs => σ.Le τ8 ∧ ρ = [(0, .int .i64 a0), (2, .string (bstr [])), (3, v1), (4, v4), (5, .int .i64 s8)] ∧ gs = [g2, g5]) ⟨Sto.Le.refl _, rfl, rfl⟩ ?_
  rintro s8 o8 h he8 ρ8 τ8 gs8 ⟨hl8, rfl, rfl⟩ hn8
  refine Z 5 rfl ?_
  refine o_lenO rfl rfl rfl z_slT24 rfl (ho3.up hl8) ?_
  refine Z 2 rfl ?_
  refine st_cond rfl (fun hc => ?_) (fun hc => ?_)
  · replace h := (if_pos hc).mp h
    refine Z 7 rfl ?_
    obtain ⟨q9, hf10, h⟩ := h
    refine o_indexOw rfl rfl rfl z_slT24 rfl rfl (ho3.up hl8) rfl hf10 (fun b11 hb12 => ?_)
    obtain ⟨vs13, hrep14, hat15⟩ := Ow.at (ho3.up hl8) hb12 hf10
    obtain rfl := hrep14
    refine o_loadOw (off := 0) (j := 0) (v := .int .i64 q9) rfl rfl rfl z_sc3 rfl hat15 rfl rfl ?_
    refine Z 3 rfl ?_
    refine st_cond rfl (fun hc => ?_) (fun hc => ?_)
    · replace h := (if_pos hc).mp h
      refine Z 4 rfl ?_
      obtain ⟨q16, hf17, h⟩ := h
      refine o_indexOw rfl rfl rfl z_slT68 rfl rfl (ho6.up hl8) rfl hf17 (fun b18 hb19 => ?_)
      obtain ⟨vs20, hrep21, hat22⟩ := Ow.at (ho6.up hl8) hb19 hf17
      obtain rfl := hrep21
      refine o_loadOw (off := 0) (j := 1) (v := .string q16) rfl rfl rfl z_sc9 rfl hat22 rfl rfl ?_
      refine Z 2 rfl ?_
      refine st_ord [] [] rfl ?_
      obtain rfl := he8 _ h
      replace h := hA8
      obtain rfl := Eq.symm h
      exact st_ret (gs' := []) Tryd.func29 rfl (List.Sublist.refl _) hl8 ⟨rfl, rfl⟩
    · replace h := (if_neg (ne_t hc)).mp h
      refine Z 7 rfl ?_
      refine st_env (ρ' := [(0, .int .i64 a0), (2, .string (bstr [])), (3, v1), (4, v4), (5, .int .i64 (IntKind.i64.wrap (s8 + 1)))]) ⟨rfl, rfl, rfl, rfl, rfl, trivial⟩ ?_
      exact hn8 _ _ _ _ h ⟨hl8, rfl, rfl⟩
  · replace h := (if_neg (ne_t hc)).mp h
    refine st_exit rfl ?_
    obtain rfl := he8 _ h
    replace h := hA8
    refine st_env (ρ' := [(2, .string (bstr []))]) ⟨rfl, trivial⟩ ?_
    refine st_ord [] [] rfl ?_
    exact hk7 _ _ _ ⟨(), h, hl8, rfl, rfl⟩
theorem ref23_Line_ok {a0 : Int × Int × Int × Int × (Int × List Int × List (List Int) × List Int × ByteArray × ByteArray)} {v1 : Value} {v2 : Value} {r : ByteArray} (h : ref23_Line a0 r) (σ : Sto) (hs3 : Sl (kA .i64 2) σ v1 a0.2.2.2.2.2.2.1) (hs4 : Sl (kI .i64) σ v2 a0.2.2.2.2.2.2.2.1) :
    Does Tryd.prog 26 [.agg [.int .i64 a0.1, .int .u32 a0.2.1, .int .i64 a0.2.2.1, .int .i64 a0.2.2.2.1, .int .i64 a0.2.2.2.2.1, .int .i64 (a0.2.2.2.2.2.1.getD 0 0), .int .i64 (a0.2.2.2.2.2.1.getD 1 0), .int .i64 (a0.2.2.2.2.2.1.getD 2 0), .int .i64 (a0.2.2.2.2.2.1.getD 3 0), .int .i64 (a0.2.2.2.2.2.1.getD 4 0), .int .i64 (a0.2.2.2.2.2.1.getD 5 0), v1, v2, .string a0.2.2.2.2.2.2.2.2.1, .string a0.2.2.2.2.2.2.2.2.2].toArray] σ [] (fun v τ gs => gs = [] ∧ .string r = v) := by
  refine call_of Tryd.func26 Tryd.ntmps26 rfl rfl (fun cs fs => ?_)
  refine Z 2 rfl ?_
  refine o_box (cs := [.int .i64 a0.1, .int .u32 a0.2.1, .int .i64 a0.2.2.1, .int .i64 a0.2.2.2.1, .int .i64 a0.2.2.2.2.1, .int .i64 (a0.2.2.2.2.2.1.getD 0 0), .int .i64 (a0.2.2.2.2.2.1.getD 1 0), .int .i64 (a0.2.2.2.2.2.1.getD 2 0), .int .i64 (a0.2.2.2.2.2.1.getD 3 0), .int .i64 (a0.2.2.2.2.2.1.getD 4 0), .int .i64 (a0.2.2.2.2.2.1.getD 5 0), v1, v2, .string a0.2.2.2.2.2.2.2.2.1, .string a0.2.2.2.2.2.2.2.2.2]) rfl rfl rfl rfl rfl (fun b5 => ?_)
  refine o_assign rfl rfl rfl (ev_str z_str19) ?_
  refine Z 4 rfl ?_
  refine o_load (j := 0) (v := .int .u32 a0.2.1) rfl rfl rfl z_sc33 rfl rfl rfl ?_
  refine o_conv rfl rfl rfl Tryd.underlying33 Tryd.underlying3 rfl ?_
  obtain ⟨r6, hr7, h⟩ := h
  refine st_call (foot := []) rfl rfl rfl rfl rfl rfl (callV_fn z_en78 (ref07_Digits_ok hr7 σ)) ?_
  rintro vτ8 τ8 gsτ8 hl9 ⟨rfl, rfl⟩
  refine Z 6 rfl ?_
  refine o_load (j := 0) (v := .int .i64 a0.1) rfl rfl rfl z_sc3 rfl rfl rfl ?_
  refine Z 2 rfl ?_
  refine st_cond rfl (fun hc => ?_) (fun hc => ?_)
  · replace h := (if_pos hc).mp h
    refine st_seq ?_
    obtain ⟨hf10, hf11, r12, hr13, hf16, hf17, r18, hr19, hf22, h⟩ := h
    refine st_draw 12 (tl [fun τ v => (.string r6 : Value) = v,
    fun τ v => (.string ((bstr [100, 101, 108, 105, 118, 101, 114, 32]) ++ r6) : Value) = v,
    fun τ v => (.string (((bstr [100, 101, 108, 105, 118, 101, 114, 32]) ++ r6) ++ (bstr [32, 118, 32])) : Value) = v,
    fun τ v => (.pointer (some ⟨b5, 2, none⟩) : Value) = v,
    fun τ v => (.int .i64 a0.2.2.1 : Value) = v,
    fun τ v => (.string r12 : Value) = v,
    fun τ v => (.string ((((bstr [100, 101, 108, 105, 118, 101, 114, 32]) ++ r6) ++ (bstr [32, 118, 32])) ++ r12) : Value) = v,
    fun τ v => (.string (((((bstr [100, 101, 108, 105, 118, 101, 114, 32]) ++ r6) ++ (bstr [32, 118, 32])) ++ r12) ++ (bstr [32])) : Value) = v,
    fun τ v => (.pointer (some ⟨b5, 4, none⟩) : Value) = v,
    fun τ v => (.agg [.int .i64 a0.2.2.2.2.1, .int .i64 (a0.2.2.2.2.2.1.getD 0 0), .int .i64 (a0.2.2.2.2.2.1.getD 1 0), .int .i64 (a0.2.2.2.2.2.1.getD 2 0), .int .i64 (a0.2.2.2.2.2.1.getD 3 0), .int .i64 (a0.2.2.2.2.2.1.getD 4 0), .int .i64 (a0.2.2.2.2.2.1.getD 5 0), v1, v2, .string a0.2.2.2.2.2.2.2.2.1, .string a0.2.2.2.2.2.2.2.2.2].toArray : Value) = v,
    fun τ v => (.string r18 : Value) = v,
    fun τ v => (.string ((((((bstr [100, 101, 108, 105, 118, 101, 114, 32]) ++ r6) ++ (bstr [32, 118, 32])) ++ r12) ++ (bstr [32])) ++ r18) : Value) = v]) (fun _ _ => []) z_mix rfl (tl_mono ⟨fun _ _ _ _ h => h, ⟨fun _ _ _ _ h => h, ⟨fun _ _ _ _ h => h, ⟨fun _ _ _ _ h => h, ⟨fun _ _ _ _ h => h, ⟨fun _ _ _ _ h => h, ⟨fun _ _ _ _ h => h, ⟨fun _ _ _ _ h => h, ⟨fun _ _ _ _ h => h, ⟨fun _ _ _ _ h => h, ⟨fun _ _ _ _ h => h, ⟨fun _ _ _ _ h => h, trivial⟩⟩⟩⟩⟩⟩⟩⟩⟩⟩⟩⟩) (allB_cons (allB_cons (allB_cons (allB_cons (allB_cons (allB_cons (allB_cons (allB_cons (allB_cons (allB_cons (allB_cons (allB_cons allB_nil ?_) ?_) ?_) ?_) ?_) ?_) ?_) ?_) ?_) ?_) ?_) ?_) ?_
    · intro ρ' τ pool rs hl hd hout hk
      refine o_move rfl rfl rfl ((hout 3 rfl).trans rfl) ?_
      exact st_addNil (hk _ _ (Sto.Le.refl _) rfl)
    · intro ρ' τ pool rs hl hd hout hk
      obtain ⟨_, e0, rfl⟩ := hd 0 rfl
      refine o_sadd rfl rfl rfl (ev_str z_str33) e0 hf10 ?_
      exact st_addNil (hk _ _ (Sto.Le.refl _) rfl)
    · intro ρ' τ pool rs hl hd hout hk
      obtain ⟨_, e1, rfl⟩ := hd 1 rfl
      refine o_sadd rfl rfl rfl e1 (ev_str z_str34) hf11 ?_
      exact st_addNil (hk _ _ (Sto.Le.refl _) rfl)
    · intro ρ' τ pool rs hl hd hout hk
      refine o_fieldAddr rfl rfl rfl z_field42_2 ((hout 1 rfl).trans rfl) ?_
      exact st_addNil (hk _ _ (Sto.Le.refl _) rfl)
    · intro ρ' τ pool rs hl hd hout hk
      obtain ⟨_, e3, rfl⟩ := hd 3 rfl
      refine o_load (j := 0) (v := .int .i64 a0.2.2.1) rfl rfl rfl z_sc3 e3 rfl rfl ?_
      exact st_addNil (hk _ _ (Sto.Le.refl _) rfl)
    · intro ρ' τ pool rs hl hd hout hk
      obtain ⟨_, e4, rfl⟩ := hd 4 rfl
      refine st_call (foot := []) rfl rfl rfl rfl (evs_cons e4 rfl) rfl (callV_fn z_en78 (ref07_Digits_ok hr13 τ)) ?_
      rintro vτ14 τ14 gsτ14 hl15 ⟨rfl, rfl⟩
      exact st_addNil (hk _ _ hl15 rfl)
    · intro ρ' τ pool rs hl hd hout hk
      obtain ⟨_, e2, rfl⟩ := hd 2 rfl
      obtain ⟨_, e5, rfl⟩ := hd 5 rfl
      refine o_sadd rfl rfl rfl e2 e5 hf16 ?_
      exact st_addNil (hk _ _ (Sto.Le.refl _) rfl)
    · intro ρ' τ pool rs hl hd hout hk
      obtain ⟨_, e6, rfl⟩ := hd 6 rfl
      refine o_sadd rfl rfl rfl e6 (ev_str z_str25) hf17 ?_
      exact st_addNil (hk _ _ (Sto.Le.refl _) rfl)
    · intro ρ' τ pool rs hl hd hout hk
      refine o_fieldAddr rfl rfl rfl z_field42_4 ((hout 1 rfl).trans rfl) ?_
      exact st_addNil (hk _ _ (Sto.Le.refl _) rfl)
    · intro ρ' τ pool rs hl hd hout hk
      obtain ⟨_, e8, rfl⟩ := hd 8 rfl
      refine o_loadN (j := 0) (vs := [.int .i64 a0.2.2.2.2.1, .int .i64 (a0.2.2.2.2.2.1.getD 0 0), .int .i64 (a0.2.2.2.2.2.1.getD 1 0), .int .i64 (a0.2.2.2.2.2.1.getD 2 0), .int .i64 (a0.2.2.2.2.2.1.getD 3 0), .int .i64 (a0.2.2.2.2.2.1.getD 4 0), .int .i64 (a0.2.2.2.2.2.1.getD 5 0), v1, v2, .string a0.2.2.2.2.2.2.2.2.1, .string a0.2.2.2.2.2.2.2.2.2]) rfl rfl rfl z_agg39 e8 rfl rfl ?_
      exact st_addNil (hk _ _ (Sto.Le.refl _) rfl)
    · intro ρ' τ pool rs hl hd hout hk
      obtain ⟨_, e9, rfl⟩ := hd 9 rfl
      refine st_call (foot := []) rfl rfl rfl rfl (evs_cons e9 rfl) rfl (callV_fn z_en79 (ref20_Line_ok hr19 τ (hs3.up (hl9.trans hl)) (hs4.up (hl9.trans hl)))) ?_
      rintro vτ20 τ20 gsτ20 hl21 ⟨rfl, rfl⟩
      exact st_addNil (hk _ _ hl21 rfl)
    · intro ρ' τ pool rs hl hd hout hk
      obtain ⟨_, e7, rfl⟩ := hd 7 rfl
      obtain ⟨_, e10, rfl⟩ := hd 10 rfl
      refine o_sadd rfl rfl rfl e7 e10 hf22 ?_
      exact st_addNil (hk _ _ (Sto.Le.refl _) rfl)
    intro ρ' τ23 vals hl23 hv hout
    have l11 : Eng.look ρ' 22 = some (.string ((((((bstr [100, 101, 108, 105, 118, 101, 114, 32]) ++ r6) ++ (bstr [32, 118, 32])) ++ r12) ++ (bstr [32])) ++ r18)) := ((hv 11 (by decide)).1).trans (congrArg some (show vals 11 = .string ((((((bstr [100, 101, 108, 105, 118, 101, 114, 32]) ++ r6) ++ (bstr [32, 118, 32])) ++ r12) ++ (bstr [32])) ++ r18) from Eq.symm (hv 11 (by decide)).2))
    refine st_ord [0] [[(b5, .cells [.int .i64 a0.1, .int .u32 a0.2.1, .int .i64 a0.2.2.1, .int .i64 a0.2.2.2.1, .int .i64 a0.2.2.2.2.1, .int .i64 (a0.2.2.2.2.2.1.getD 0 0), .int .i64 (a0.2.2.2.2.2.1.getD 1 0), .int .i64 (a0.2.2.2.2.2.1.getD 2 0), .int .i64 (a0.2.2.2.2.2.1.getD 3 0), .int .i64 (a0.2.2.2.2.2.1.getD 4 0), .int .i64 (a0.2.2.2.2.2.1.getD 5 0), v1, v2, .string a0.2.2.2.2.2.2.2.2.1, .string a0.2.2.2.2.2.2.2.2.2].toArray 42 (0, 0))]] rfl ?_
    refine st_env (ρ' := [(22, .string ((((((bstr [100, 101, 108, 105, 118, 101, 114, 32]) ++ r6) ++ (bstr [32, 118, 32])) ++ r12) ++ (bstr [32])) ++ r18)), (1, .pointer (some ⟨b5, 0, none⟩)), (2, .string (bstr [])), (3, .string r6)]) ⟨l11, (hout 1 rfl).trans rfl, (hout 2 rfl).trans rfl, (hout 3 rfl).trans rfl, trivial⟩ ?_
    refine Z 2 rfl ?_
    refine st_ord [] [] rfl ?_
    obtain rfl := Eq.symm h
    exact st_ret (gs' := []) Tryd.func26 rfl (List.Sublist.refl _) (hl9.trans hl23) ⟨rfl, rfl⟩
  · replace h := (if_neg (ne_t hc)).mp h
    refine Z 5 rfl ?_
    refine o_load (j := 0) (v := .int .i64 a0.1) rfl rfl rfl z_sc3 rfl rfl rfl ?_
    refine Z 2 rfl ?_
    refine st_cond rfl (fun hc => ?_) (fun hc => ?_)
    · replace h := (if_pos hc).mp h
      refine Z 3 rfl ?_
      obtain ⟨hf24, h⟩ := h
      refine o_sadd rfl rfl rfl (ev_str z_str35) rfl hf24 ?_
      obtain ⟨hf25, h⟩ := h
      refine o_sadd rfl rfl rfl rfl (ev_str z_str25) hf25 ?_
      refine o_fieldAddr rfl rfl rfl z_field42_3 rfl ?_
      refine o_load (j := 0) (v := .int .i64 a0.2.2.2.1) rfl rfl rfl z_sc3 rfl rfl rfl ?_
      obtain ⟨r26, hr27, h⟩ := h
      refine st_call (foot := []) rfl rfl rfl rfl rfl rfl (callV_fn z_en29 (ref23_Word_ok hr27 τ8)) ?_
      rintro vτ28 τ28 gsτ28 hl29 ⟨rfl, rfl⟩
      obtain ⟨hf30, h⟩ := h
      refine o_sadd rfl rfl rfl rfl rfl hf30 ?_
      refine Z 2 rfl ?_
      refine st_ord [] [] rfl ?_
      obtain rfl := Eq.symm h
      exact st_ret (gs' := []) Tryd.func26 rfl (List.Sublist.refl _) (hl9.trans hl29) ⟨rfl, rfl⟩
    · replace h := (if_neg (ne_t hc)).mp h
      refine Z 5 rfl ?_
      refine o_load (j := 0) (v := .int .i64 a0.1) rfl rfl rfl z_sc3 rfl rfl rfl ?_
      refine Z 2 rfl ?_
      refine st_cond rfl (fun hc => ?_) (fun hc => ?_)
      · replace h := (if_pos hc).mp h
        refine Z 3 rfl ?_
        obtain ⟨hf31, h⟩ := h
        refine o_sadd rfl rfl rfl (ev_str z_str51) rfl hf31 ?_
        refine Z 2 rfl ?_
        refine st_ord [] [] rfl ?_
        obtain rfl := Eq.symm h
        exact st_ret (gs' := []) Tryd.func26 rfl (List.Sublist.refl _) hl9 ⟨rfl, rfl⟩
      · replace h := (if_neg (ne_t hc)).mp h
        refine Z 3 rfl ?_
        refine o_assign rfl rfl rfl (ev_str z_str19) ?_
        refine st_end ?_
        refine st_ord [] [] rfl ?_
        obtain rfl := Eq.symm h
        exact st_ret (gs' := []) Tryd.func26 rfl (List.Sublist.refl _) hl9 ⟨rfl, rfl⟩
theorem event_Same_ok {a0 : Int × Int × Int × Int × (Int × List Int × List (Int × Int) × List Int × ByteArray × ByteArray)} {a1 : Int × Int × Int × Int × (Int × List Int × List (Int × Int) × List Int × ByteArray × ByteArray)} {v1 : Value} {v2 : Value} {v5 : Value} {v6 : Value} {r : Bool} (h : event_Same a0 a1 r) (σ : Sto) (hs3 : Sl (kP (kI .i64) (kI .i64)) σ v1 a0.2.2.2.2.2.2.1) (hs4 : Sl (kI .i64) σ v2 a0.2.2.2.2.2.2.2.1) (hs7 : Sl (kP (kI .i64) (kI .i64)) σ v5 a1.2.2.2.2.2.2.1) (hs8 : Sl (kI .i64) σ v6 a1.2.2.2.2.2.2.2.1) :
    Does Tryd.prog 27 [.agg [.int .i64 a0.1, .int .u32 a0.2.1, .int .i64 a0.2.2.1, .int .i64 a0.2.2.2.1, .int .i64 a0.2.2.2.2.1, .int .i64 (a0.2.2.2.2.2.1.getD 0 0), .int .i64 (a0.2.2.2.2.2.1.getD 1 0), .int .i64 (a0.2.2.2.2.2.1.getD 2 0), .int .i64 (a0.2.2.2.2.2.1.getD 3 0), .int .i64 (a0.2.2.2.2.2.1.getD 4 0), .int .i64 (a0.2.2.2.2.2.1.getD 5 0), v1, v2, .string a0.2.2.2.2.2.2.2.2.1, .string a0.2.2.2.2.2.2.2.2.2].toArray, .agg [.int .i64 a1.1, .int .u32 a1.2.1, .int .i64 a1.2.2.1, .int .i64 a1.2.2.2.1, .int .i64 a1.2.2.2.2.1, .int .i64 (a1.2.2.2.2.2.1.getD 0 0), .int .i64 (a1.2.2.2.2.2.1.getD 1 0), .int .i64 (a1.2.2.2.2.2.1.getD 2 0), .int .i64 (a1.2.2.2.2.2.1.getD 3 0), .int .i64 (a1.2.2.2.2.2.1.getD 4 0), .int .i64 (a1.2.2.2.2.2.1.getD 5 0), v5, v6, .string a1.2.2.2.2.2.2.2.2.1, .string a1.2.2.2.2.2.2.2.2.2].toArray] σ [] (fun v τ gs => gs = [] ∧ .bool r = v) := by
  refine call_of Tryd.func27 Tryd.ntmps27 rfl rfl (fun cs fs => ?_)
  refine Z 2 rfl ?_
  refine o_box (cs := [.int .i64 a0.1, .int .u32 a0.2.1, .int .i64 a0.2.2.1, .int .i64 a0.2.2.2.1, .int .i64 a0.2.2.2.2.1, .int .i64 (a0.2.2.2.2.2.1.getD 0 0), .int .i64 (a0.2.2.2.2.2.1.getD 1 0), .int .i64 (a0.2.2.2.2.2.1.getD 2 0), .int .i64 (a0.2.2.2.2.2.1.getD 3 0), .int .i64 (a0.2.2.2.2.2.1.getD 4 0), .int .i64 (a0.2.2.2.2.2.1.getD 5 0), v1, v2, .string a0.2.2.2.2.2.2.2.2.1, .string a0.2.2.2.2.2.2.2.2.2]) rfl rfl rfl rfl rfl (fun b9 => ?_)
  refine o_box (cs := [.int .i64 a1.1, .int .u32 a1.2.1, .int .i64 a1.2.2.1, .int .i64 a1.2.2.2.1, .int .i64 a1.2.2.2.2.1, .int .i64 (a1.2.2.2.2.2.1.getD 0 0), .int .i64 (a1.2.2.2.2.2.1.getD 1 0), .int .i64 (a1.2.2.2.2.2.1.getD 2 0), .int .i64 (a1.2.2.2.2.2.1.getD 3 0), .int .i64 (a1.2.2.2.2.2.1.getD 4 0), .int .i64 (a1.2.2.2.2.2.1.getD 5 0), v5, v6, .string a1.2.2.2.2.2.2.2.2.1, .string a1.2.2.2.2.2.2.2.2.2]) rfl rfl rfl rfl rfl (fun b10 => ?_)
  refine Z 3 rfl ?_
  refine st_cut (fun ρ τ11 gs => ∃ (s11 : Bool), event_Same_j1 s11 r ∧ σ.Le τ11 ∧ ρ = [(4, .bool s11)] ∧ gs = []) ?_ (fun hk11 => ?_)
  · rintro ρ11 τ11 gs11 ⟨s11, h, hl11, rfl, rfl⟩
    obtain rfl := Eq.symm h
    exact st_ret (gs' := []) Tryd.func27 rfl (List.Sublist.refl _) hl11 ⟨rfl, rfl⟩
  refine Z 2 rfl ?_
  refine o_load (j := 1) (v := .int .i64 a0.1) rfl rfl rfl z_sc3 rfl rfl rfl ?_
  refine o_fieldAddr rfl rfl rfl z_field35_0 rfl ?_
  refine o_load (j := 0) (v := .int .i64 a1.1) rfl rfl rfl z_sc3 rfl rfl rfl ?_
  refine o_ibin (v := .bool (decide (a0.1 = a1.1))) rfl rfl rfl rfl rfl rfl ?_
  refine o_moveB rfl rfl rfl rfl (fun hc => ?_) (fun hc => ?_)
  · replace h := (if_pos hc).mp h
    refine o_fieldAddr rfl rfl rfl z_field35_1 rfl ?_
    refine o_load (j := 1) (v := .int .u32 a0.2.1) rfl rfl rfl z_sc33 rfl rfl rfl ?_
    refine o_fieldAddr rfl rfl rfl z_field35_1 rfl ?_
    refine o_load (j := 0) (v := .int .u32 a1.2.1) rfl rfl rfl z_sc33 rfl rfl rfl ?_
    refine Z 2 rfl ?_
    refine o_moveB rfl rfl rfl rfl (fun hc => ?_) (fun hc => ?_)
    · replace h := (if_pos hc).mp h
      refine o_fieldAddr rfl rfl rfl z_field35_2 rfl ?_
      refine o_load (j := 1) (v := .int .i64 a0.2.2.1) rfl rfl rfl z_sc3 rfl rfl rfl ?_
      refine o_fieldAddr rfl rfl rfl z_field35_2 rfl ?_
      refine o_load (j := 0) (v := .int .i64 a1.2.2.1) rfl rfl rfl z_sc3 rfl rfl rfl ?_
      refine Z 2 rfl ?_
      refine o_moveB rfl rfl rfl rfl (fun hc => ?_) (fun hc => ?_)
      · replace h := (if_pos hc).mp h
        refine o_fieldAddr rfl rfl rfl z_field35_3 rfl ?_
        refine o_load (j := 1) (v := .int .i64 a0.2.2.2.1) rfl rfl rfl z_sc28 rfl rfl rfl ?_
        refine o_fieldAddr rfl rfl rfl z_field35_3 rfl ?_
        refine o_load (j := 0) (v := .int .i64 a1.2.2.2.1) rfl rfl rfl z_sc28 rfl rfl rfl ?_
        refine Z 2 rfl ?_
        refine o_moveB rfl rfl rfl rfl (fun hc => ?_) (fun hc => ?_)
        · replace h := (if_pos hc).mp h
          refine o_fieldAddr rfl rfl rfl z_field35_4 rfl ?_
          refine o_loadN (j := 1) (vs := [.int .i64 a0.2.2.2.2.1, .int .i64 (a0.2.2.2.2.2.1.getD 0 0), .int .i64 (a0.2.2.2.2.2.1.getD 1 0), .int .i64 (a0.2.2.2.2.2.1.getD 2 0), .int .i64 (a0.2.2.2.2.2.1.getD 3 0), .int .i64 (a0.2.2.2.2.2.1.getD 4 0), .int .i64 (a0.2.2.2.2.2.1.getD 5 0), v1, v2, .string a0.2.2.2.2.2.2.2.2.1, .string a0.2.2.2.2.2.2.2.2.2]) rfl rfl rfl z_agg26 rfl rfl rfl ?_
          refine o_fieldAddr rfl rfl rfl z_field35_4 rfl ?_
          refine o_loadN (j := 0) (vs := [.int .i64 a1.2.2.2.2.1, .int .i64 (a1.2.2.2.2.2.1.getD 0 0), .int .i64 (a1.2.2.2.2.2.1.getD 1 0), .int .i64 (a1.2.2.2.2.2.1.getD 2 0), .int .i64 (a1.2.2.2.2.2.1.getD 3 0), .int .i64 (a1.2.2.2.2.2.1.getD 4 0), .int .i64 (a1.2.2.2.2.2.1.getD 5 0), v5, v6, .string a1.2.2.2.2.2.2.2.2.1, .string a1.2.2.2.2.2.2.2.2.2]) rfl rfl rfl z_agg26 rfl rfl rfl ?_
          obtain ⟨r12, hr13, h⟩ := h
          refine st_call (foot := []) rfl rfl rfl rfl rfl rfl (callV_fn z_en15 (msg_Same_ok hr13 σ hs3 hs4 hs7 hs8)) ?_
          rintro vτ14 τ14 gsτ14 hl15 ⟨rfl, rfl⟩
          refine Z 3 rfl ?_
          refine st_env (ρ' := [(4, .bool r12)]) ⟨rfl, trivial⟩ ?_
          refine st_ord [] [] rfl ?_
          exact hk11 _ _ _ ⟨r12, h, hl15, rfl, rfl⟩
        · replace h := (if_neg (ne_t hc)).mp h
          refine Z 8 rfl ?_
          refine st_env (ρ' := [(4, .bool false)]) ⟨rfl, trivial⟩ ?_
          refine st_ord [] [] rfl ?_
          exact hk11 _ _ _ ⟨false, h, (Sto.Le.refl _), rfl, rfl⟩
      · replace h := (if_neg (ne_t hc)).mp h
        refine Z 15 rfl ?_
        refine st_env (ρ' := [(4, .bool false)]) ⟨rfl, trivial⟩ ?_
        refine st_ord [] [] rfl ?_
        exact hk11 _ _ _ ⟨false, h, (Sto.Le.refl _), rfl, rfl⟩
    · replace h := (if_neg (ne_t hc)).mp h
      refine Z 22 rfl ?_
      refine st_env (ρ' := [(4, .bool false)]) ⟨rfl, trivial⟩ ?_
      refine st_ord [] [] rfl ?_
      exact hk11 _ _ _ ⟨false, h, (Sto.Le.refl _), rfl, rfl⟩
  · replace h := (if_neg (ne_t hc)).mp h
    refine Z 29 rfl ?_
    refine st_env (ρ' := [(4, .bool false)]) ⟨rfl, trivial⟩ ?_
    refine st_ord [] [] rfl ?_
    exact hk11 _ _ _ ⟨false, h, (Sto.Le.refl _), rfl, rfl⟩
theorem law23_EventLines_ok {a0 : Int × Int × Int × Int × (Int × List Int × List (Int × Int) × List Int × ByteArray × ByteArray)} {a1 : Int × Int × Int × Int × (Int × List Int × List (Int × Int) × List Int × ByteArray × ByteArray)} {a2 : Int} {v1 : Value} {v2 : Value} {v5 : Value} {v6 : Value} {r : Bool} (h : law23_EventLines a0 a1 a2 r) (σ : Sto) (hs3 : Sl (kP (kI .i64) (kI .i64)) σ v1 a0.2.2.2.2.2.2.1) (hs4 : Sl (kI .i64) σ v2 a0.2.2.2.2.2.2.2.1) (hs7 : Sl (kP (kI .i64) (kI .i64)) σ v5 a1.2.2.2.2.2.2.1) (hs8 : Sl (kI .i64) σ v6 a1.2.2.2.2.2.2.2.1) (hT : Tab Tryd.prog σ) :
    Does Tryd.prog 5 [.agg [.int .i64 a0.1, .int .u32 a0.2.1, .int .i64 a0.2.2.1, .int .i64 a0.2.2.2.1, .int .i64 a0.2.2.2.2.1, .int .i64 (a0.2.2.2.2.2.1.getD 0 0), .int .i64 (a0.2.2.2.2.2.1.getD 1 0), .int .i64 (a0.2.2.2.2.2.1.getD 2 0), .int .i64 (a0.2.2.2.2.2.1.getD 3 0), .int .i64 (a0.2.2.2.2.2.1.getD 4 0), .int .i64 (a0.2.2.2.2.2.1.getD 5 0), v1, v2, .string a0.2.2.2.2.2.2.2.2.1, .string a0.2.2.2.2.2.2.2.2.2].toArray, .agg [.int .i64 a1.1, .int .u32 a1.2.1, .int .i64 a1.2.2.1, .int .i64 a1.2.2.2.1, .int .i64 a1.2.2.2.2.1, .int .i64 (a1.2.2.2.2.2.1.getD 0 0), .int .i64 (a1.2.2.2.2.2.1.getD 1 0), .int .i64 (a1.2.2.2.2.2.1.getD 2 0), .int .i64 (a1.2.2.2.2.2.1.getD 3 0), .int .i64 (a1.2.2.2.2.2.1.getD 4 0), .int .i64 (a1.2.2.2.2.2.1.getD 5 0), v5, v6, .string a1.2.2.2.2.2.2.2.2.1, .string a1.2.2.2.2.2.2.2.2.2].toArray, .int .i64 a2] σ [] (fun v τ gs => gs = [] ∧ .bool r = v) := by
  refine call_of Tryd.func5 Tryd.ntmps5 rfl rfl (fun cs fs => ?_)
  refine Z 2 rfl ?_
  refine o_box (cs := [.int .i64 a0.1, .int .u32 a0.2.1, .int .i64 a0.2.2.1, .int .i64 a0.2.2.2.1, .int .i64 a0.2.2.2.2.1, .int .i64 (a0.2.2.2.2.2.1.getD 0 0), .int .i64 (a0.2.2.2.2.2.1.getD 1 0), .int .i64 (a0.2.2.2.2.2.1.getD 2 0), .int .i64 (a0.2.2.2.2.2.1.getD 3 0), .int .i64 (a0.2.2.2.2.2.1.getD 4 0), .int .i64 (a0.2.2.2.2.2.1.getD 5 0), v1, v2, .string a0.2.2.2.2.2.2.2.2.1, .string a0.2.2.2.2.2.2.2.2.2]) rfl rfl rfl rfl rfl (fun b9 => ?_)
  refine o_box (cs := [.int .i64 a1.1, .int .u32 a1.2.1, .int .i64 a1.2.2.1, .int .i64 a1.2.2.2.1, .int .i64 a1.2.2.2.2.1, .int .i64 (a1.2.2.2.2.2.1.getD 0 0), .int .i64 (a1.2.2.2.2.2.1.getD 1 0), .int .i64 (a1.2.2.2.2.2.1.getD 2 0), .int .i64 (a1.2.2.2.2.2.1.getD 3 0), .int .i64 (a1.2.2.2.2.2.1.getD 4 0), .int .i64 (a1.2.2.2.2.2.1.getD 5 0), v5, v6, .string a1.2.2.2.2.2.2.2.2.1, .string a1.2.2.2.2.2.2.2.2.2]) rfl rfl rfl rfl rfl (fun b10 => ?_)
  refine Z 3 rfl ?_
  obtain ⟨r11, hr12, r19, hr20, h⟩ := h
  refine st_draw41 (gs := [[(b10, .cells [.int .i64 a1.1, .int .u32 a1.2.1, .int .i64 a1.2.2.1, .int .i64 a1.2.2.2.1, .int .i64 a1.2.2.2.2.1, .int .i64 (a1.2.2.2.2.2.1.getD 0 0), .int .i64 (a1.2.2.2.2.2.1.getD 1 0), .int .i64 (a1.2.2.2.2.2.1.getD 2 0), .int .i64 (a1.2.2.2.2.2.1.getD 3 0), .int .i64 (a1.2.2.2.2.2.1.getD 4 0), .int .i64 (a1.2.2.2.2.2.1.getD 5 0), v5, v6, .string a1.2.2.2.2.2.2.2.2.1, .string a1.2.2.2.2.2.2.2.2.2].toArray 35 (0, 0))]]) (F0 := [[(b9, .cells [.int .i64 a0.1, .int .u32 a0.2.1, .int .i64 a0.2.2.1, .int .i64 a0.2.2.2.1, .int .i64 a0.2.2.2.2.1, .int .i64 (a0.2.2.2.2.2.1.getD 0 0), .int .i64 (a0.2.2.2.2.2.1.getD 1 0), .int .i64 (a0.2.2.2.2.2.1.getD 2 0), .int .i64 (a0.2.2.2.2.2.1.getD 3 0), .int .i64 (a0.2.2.2.2.2.1.getD 4 0), .int .i64 (a0.2.2.2.2.2.1.getD 5 0), v1, v2, .string a0.2.2.2.2.2.2.2.2.1, .string a0.2.2.2.2.2.2.2.2.2].toArray 35 (0, 0))]]) 5 2 (tlP [some (0, 0), none, none, none, some (0, 1)]) (tlP [none, none, none, none, none]) (tlNN [[none, some 7, none]]) (tl [fun τ v => (.agg [.int .i64 a0.1, .int .u32 a0.2.1, .int .i64 a0.2.2.1, .int .i64 a0.2.2.2.1, .int .i64 a0.2.2.2.2.1, .int .i64 (a0.2.2.2.2.2.1.getD 0 0), .int .i64 (a0.2.2.2.2.2.1.getD 1 0), .int .i64 (a0.2.2.2.2.2.1.getD 2 0), .int .i64 (a0.2.2.2.2.2.1.getD 3 0), .int .i64 (a0.2.2.2.2.2.1.getD 4 0), .int .i64 (a0.2.2.2.2.2.1.getD 5 0), v1, v2, .string a0.2.2.2.2.2.2.2.2.1, .string a0.2.2.2.2.2.2.2.2.2].toArray : Value) = v,
    fun τ v => ∃ (v15 : Value) (v16 : Value), (.agg [.int .i64 r11.1, .int .u32 r11.2.1, .int .i64 r11.2.2.1, .int .i64 r11.2.2.2.1, .int .i64 r11.2.2.2.2.1, .int .i64 (r11.2.2.2.2.2.1.getD 0 0), .int .i64 (r11.2.2.2.2.2.1.getD 1 0), .int .i64 (r11.2.2.2.2.2.1.getD 2 0), .int .i64 (r11.2.2.2.2.2.1.getD 3 0), .int .i64 (r11.2.2.2.2.2.1.getD 4 0), .int .i64 (r11.2.2.2.2.2.1.getD 5 0), v15, v16, .string r11.2.2.2.2.2.2.2.2.1, .string r11.2.2.2.2.2.2.2.2.2].toArray : Value) = v ∧ Sl (kP (kI .i64) (kI .i64)) τ v15 r11.2.2.2.2.2.2.1 ∧ Sl (kI .i64) τ v16 r11.2.2.2.2.2.2.2.1,
    fun τ v => (.agg [.int .i64 a1.1, .int .u32 a1.2.1, .int .i64 a1.2.2.1, .int .i64 a1.2.2.2.1, .int .i64 a1.2.2.2.2.1, .int .i64 (a1.2.2.2.2.2.1.getD 0 0), .int .i64 (a1.2.2.2.2.2.1.getD 1 0), .int .i64 (a1.2.2.2.2.2.1.getD 2 0), .int .i64 (a1.2.2.2.2.2.1.getD 3 0), .int .i64 (a1.2.2.2.2.2.1.getD 4 0), .int .i64 (a1.2.2.2.2.2.1.getD 5 0), v5, v6, .string a1.2.2.2.2.2.2.2.2.1, .string a1.2.2.2.2.2.2.2.2.2].toArray : Value) = v,
    fun τ v => ∃ (v23 : Value) (v24 : Value), (.agg [.int .i64 r19.1, .int .u32 r19.2.1, .int .i64 r19.2.2.1, .int .i64 r19.2.2.2.1, .int .i64 r19.2.2.2.2.1, .int .i64 (r19.2.2.2.2.2.1.getD 0 0), .int .i64 (r19.2.2.2.2.2.1.getD 1 0), .int .i64 (r19.2.2.2.2.2.1.getD 2 0), .int .i64 (r19.2.2.2.2.2.1.getD 3 0), .int .i64 (r19.2.2.2.2.2.1.getD 4 0), .int .i64 (r19.2.2.2.2.2.1.getD 5 0), v23, v24, .string r19.2.2.2.2.2.2.2.2.1, .string r19.2.2.2.2.2.2.2.2.2].toArray : Value) = v ∧ Sl (kP (kI .i64) (kI .i64)) τ v23 r19.2.2.2.2.2.2.1 ∧ Sl (kI .i64) τ v24 r19.2.2.2.2.2.2.2.1,
    fun _ _ => True]) (tlII [[fun τ u F => F = [[(b9, .cells [.int .i64 a0.1, .int .u32 a0.2.1, .int .i64 a0.2.2.1, .int .i64 a0.2.2.2.1, .int .i64 a0.2.2.2.2.1, .int .i64 (a0.2.2.2.2.2.1.getD 0 0), .int .i64 (a0.2.2.2.2.2.1.getD 1 0), .int .i64 (a0.2.2.2.2.2.1.getD 2 0), .int .i64 (a0.2.2.2.2.2.1.getD 3 0), .int .i64 (a0.2.2.2.2.2.1.getD 4 0), .int .i64 (a0.2.2.2.2.2.1.getD 5 0), v1, v2, .string a0.2.2.2.2.2.2.2.2.1, .string a0.2.2.2.2.2.2.2.2.2].toArray 35 (0, 0))]],
    fun τ u F => F = [[(b9, .cells [.int .i64 a0.1, .int .u32 a0.2.1, .int .i64 a0.2.2.1, .int .i64 a0.2.2.2.1, .int .i64 a0.2.2.2.2.1, .int .i64 (a0.2.2.2.2.2.1.getD 0 0), .int .i64 (a0.2.2.2.2.2.1.getD 1 0), .int .i64 (a0.2.2.2.2.2.1.getD 2 0), .int .i64 (a0.2.2.2.2.2.1.getD 3 0), .int .i64 (a0.2.2.2.2.2.1.getD 4 0), .int .i64 (a0.2.2.2.2.2.1.getD 5 0), v1, v2, .string a0.2.2.2.2.2.2.2.2.1, .string a0.2.2.2.2.2.2.2.2.2].toArray 35 (0, 0))]],
    fun τ u F => ∃ (v27 : Value) (v29 : Value), F = [[(b9, .cells [.int .i64 r11.1, .int .u32 r11.2.1, .int .i64 r11.2.2.1, .int .i64 r11.2.2.2.1, .int .i64 r11.2.2.2.2.1, .int .i64 (r11.2.2.2.2.2.1.getD 0 0), .int .i64 (r11.2.2.2.2.2.1.getD 1 0), .int .i64 (r11.2.2.2.2.2.1.getD 2 0), .int .i64 (r11.2.2.2.2.2.1.getD 3 0), .int .i64 (r11.2.2.2.2.2.1.getD 4 0), .int .i64 (r11.2.2.2.2.2.1.getD 5 0), v27, v29, .string r11.2.2.2.2.2.2.2.2.1, .string r11.2.2.2.2.2.2.2.2.2].toArray 35 (0, 0))]] ∧ Sl (kP (kI .i64) (kI .i64)) τ v27 r11.2.2.2.2.2.2.1 ∧ Sl (kI .i64) τ v29 r11.2.2.2.2.2.2.2.1]]) z_mix ?_ (tl_mono ⟨fun _ _ _ _ h => h, ⟨fun _ _ _ hl ⟨v15, v16, hv, hs17, hs18⟩ => ⟨v15, v16, hv, hs17.up hl, hs18.up hl⟩, ⟨fun _ _ _ _ h => h, ⟨fun _ _ _ hl ⟨v23, v24, hv, hs25, hs26⟩ => ⟨v23, v24, hv, hs25.up hl, hs26.up hl⟩, ⟨fun _ _ _ _ _ => trivial, trivial⟩⟩⟩⟩⟩) (tlII_mono ⟨⟨fun _ _ _ _ hl h => h, ⟨fun _ _ _ _ hl h => h, ⟨fun _ _ _ _ hl h => (let ⟨v27, v29, hF, hs28, hs30⟩ := h; ⟨v27, v29, hF, hs28.up hl, hs30.up hl⟩), trivial⟩⟩⟩, trivial⟩) ?_ ?_ ?_ (allB_cons (allB_cons (allB_cons (allB_cons (allB_cons allB_nil ?_) ?_) ?_) ?_) ?_) ?_
  · exact rfl
  · exact rfl
  · exact rfl
  · exact rfl
  · intro ρ' τ u Fv pool rs hl hI hu hd hout hw hk
    have hI0 := hI
    obtain rfl := hI
    refine st_gs [[(b10, .cells [.int .i64 a1.1, .int .u32 a1.2.1, .int .i64 a1.2.2.1, .int .i64 a1.2.2.2.1, .int .i64 a1.2.2.2.2.1, .int .i64 (a1.2.2.2.2.2.1.getD 0 0), .int .i64 (a1.2.2.2.2.2.1.getD 1 0), .int .i64 (a1.2.2.2.2.2.1.getD 2 0), .int .i64 (a1.2.2.2.2.2.1.getD 3 0), .int .i64 (a1.2.2.2.2.2.1.getD 4 0), .int .i64 (a1.2.2.2.2.2.1.getD 5 0), v5, v6, .string a1.2.2.2.2.2.2.2.2.1, .string a1.2.2.2.2.2.2.2.2.2].toArray 35 (0, 0))], [(b9, .cells [.int .i64 a0.1, .int .u32 a0.2.1, .int .i64 a0.2.2.1, .int .i64 a0.2.2.2.1, .int .i64 a0.2.2.2.2.1, .int .i64 (a0.2.2.2.2.2.1.getD 0 0), .int .i64 (a0.2.2.2.2.2.1.getD 1 0), .int .i64 (a0.2.2.2.2.2.1.getD 2 0), .int .i64 (a0.2.2.2.2.2.1.getD 3 0), .int .i64 (a0.2.2.2.2.2.1.getD 4 0), .int .i64 (a0.2.2.2.2.2.1.getD 5 0), v1, v2, .string a0.2.2.2.2.2.2.2.2.1, .string a0.2.2.2.2.2.2.2.2.2].toArray 35 (0, 0))], pool] rfl ?_
    refine o_loadN (j := 1) (vs := [.int .i64 a0.1, .int .u32 a0.2.1, .int .i64 a0.2.2.1, .int .i64 a0.2.2.2.1, .int .i64 a0.2.2.2.2.1, .int .i64 (a0.2.2.2.2.2.1.getD 0 0), .int .i64 (a0.2.2.2.2.2.1.getD 1 0), .int .i64 (a0.2.2.2.2.2.1.getD 2 0), .int .i64 (a0.2.2.2.2.2.1.getD 3 0), .int .i64 (a0.2.2.2.2.2.1.getD 4 0), .int .i64 (a0.2.2.2.2.2.1.getD 5 0), v1, v2, .string a0.2.2.2.2.2.2.2.2.1, .string a0.2.2.2.2.2.2.2.2.2]) rfl rfl rfl z_agg35 ((hout 3 rfl).trans rfl) rfl rfl ?_
    exact hk _ _ [[(b9, .cells [.int .i64 a0.1, .int .u32 a0.2.1, .int .i64 a0.2.2.1, .int .i64 a0.2.2.2.1, .int .i64 a0.2.2.2.2.1, .int .i64 (a0.2.2.2.2.2.1.getD 0 0), .int .i64 (a0.2.2.2.2.2.1.getD 1 0), .int .i64 (a0.2.2.2.2.2.1.getD 2 0), .int .i64 (a0.2.2.2.2.2.1.getD 3 0), .int .i64 (a0.2.2.2.2.2.1.getD 4 0), .int .i64 (a0.2.2.2.2.2.1.getD 5 0), v1, v2, .string a0.2.2.2.2.2.2.2.2.1, .string a0.2.2.2.2.2.2.2.2.2].toArray 35 (0, 0))]] (Sto.Le.refl _) rfl (by exact hI0)
  · intro ρ' τ pool rs hl hd hout hw hk
    obtain ⟨_, e0, rfl⟩ := hd 0 rfl _ rfl
    refine st_call (foot := []) rfl rfl rfl rfl (evs_cons e0 rfl) rfl (callV_fn z_en24 (law23_Cut_ok hr12 τ (hs3.up hl) (hs4.up hl))) ?_
    rintro vτ13 τ13 gsτ13 hl14 ⟨v15, v16, rfl, rfl, hs17, hs18⟩
    exact hk _ _ hl14 ⟨v15, v16, rfl, hs17, hs18⟩
  · intro ρ' τ pool rs hl hd hout hw hk
    refine o_loadN (j := 0) (vs := [.int .i64 a1.1, .int .u32 a1.2.1, .int .i64 a1.2.2.1, .int .i64 a1.2.2.2.1, .int .i64 a1.2.2.2.2.1, .int .i64 (a1.2.2.2.2.2.1.getD 0 0), .int .i64 (a1.2.2.2.2.2.1.getD 1 0), .int .i64 (a1.2.2.2.2.2.1.getD 2 0), .int .i64 (a1.2.2.2.2.2.1.getD 3 0), .int .i64 (a1.2.2.2.2.2.1.getD 4 0), .int .i64 (a1.2.2.2.2.2.1.getD 5 0), v5, v6, .string a1.2.2.2.2.2.2.2.2.1, .string a1.2.2.2.2.2.2.2.2.2]) rfl rfl rfl z_agg35 ((hout 4 rfl).trans rfl) rfl rfl ?_
    exact hk _ _ (Sto.Le.refl _) rfl
  · intro ρ' τ pool rs hl hd hout hw hk
    obtain ⟨_, e2, rfl⟩ := hd 2 rfl _ rfl
    refine st_call (foot := []) rfl rfl rfl rfl (evs_cons e2 rfl) rfl (callV_fn z_en24 (law23_Cut_ok hr20 τ (hs7.up hl) (hs8.up hl))) ?_
    rintro vτ21 τ21 gsτ21 hl22 ⟨v23, v24, rfl, rfl, hs25, hs26⟩
    exact hk _ _ hl22 ⟨v23, v24, rfl, hs25, hs26⟩
  · intro ρ' τ u Fv pool rs hl hI hu hd hout hw hk
    obtain ⟨_, e1, v15, v16, rfl, hs17, hs18⟩ := hd 1 rfl _ rfl
    have hI0 := hI
    obtain rfl := hI
    refine st_gs [[(b10, .cells [.int .i64 a1.1, .int .u32 a1.2.1, .int .i64 a1.2.2.1, .int .i64 a1.2.2.2.1, .int .i64 a1.2.2.2.2.1, .int .i64 (a1.2.2.2.2.2.1.getD 0 0), .int .i64 (a1.2.2.2.2.2.1.getD 1 0), .int .i64 (a1.2.2.2.2.2.1.getD 2 0), .int .i64 (a1.2.2.2.2.2.1.getD 3 0), .int .i64 (a1.2.2.2.2.2.1.getD 4 0), .int .i64 (a1.2.2.2.2.2.1.getD 5 0), v5, v6, .string a1.2.2.2.2.2.2.2.2.1, .string a1.2.2.2.2.2.2.2.2.2].toArray 35 (0, 0))], [(b9, .cells [.int .i64 a0.1, .int .u32 a0.2.1, .int .i64 a0.2.2.1, .int .i64 a0.2.2.2.1, .int .i64 a0.2.2.2.2.1, .int .i64 (a0.2.2.2.2.2.1.getD 0 0), .int .i64 (a0.2.2.2.2.2.1.getD 1 0), .int .i64 (a0.2.2.2.2.2.1.getD 2 0), .int .i64 (a0.2.2.2.2.2.1.getD 3 0), .int .i64 (a0.2.2.2.2.2.1.getD 4 0), .int .i64 (a0.2.2.2.2.2.1.getD 5 0), v1, v2, .string a0.2.2.2.2.2.2.2.2.1, .string a0.2.2.2.2.2.2.2.2.2].toArray 35 (0, 0))], pool] rfl ?_
    refine o_store (j := 1) (vs := [.int .i64 r11.1, .int .u32 r11.2.1, .int .i64 r11.2.2.1, .int .i64 r11.2.2.2.1, .int .i64 r11.2.2.2.2.1, .int .i64 (r11.2.2.2.2.2.1.getD 0 0), .int .i64 (r11.2.2.2.2.2.1.getD 1 0), .int .i64 (r11.2.2.2.2.2.1.getD 2 0), .int .i64 (r11.2.2.2.2.2.1.getD 3 0), .int .i64 (r11.2.2.2.2.2.1.getD 4 0), .int .i64 (r11.2.2.2.2.2.1.getD 5 0), v15, v16, .string r11.2.2.2.2.2.2.2.2.1, .string r11.2.2.2.2.2.2.2.2.2]) (cs' := [.int .i64 r11.1, .int .u32 r11.2.1, .int .i64 r11.2.2.1, .int .i64 r11.2.2.2.1, .int .i64 r11.2.2.2.2.1, .int .i64 (r11.2.2.2.2.2.1.getD 0 0), .int .i64 (r11.2.2.2.2.2.1.getD 1 0), .int .i64 (r11.2.2.2.2.2.1.getD 2 0), .int .i64 (r11.2.2.2.2.2.1.getD 3 0), .int .i64 (r11.2.2.2.2.2.1.getD 4 0), .int .i64 (r11.2.2.2.2.2.1.getD 5 0), v15, v16, .string r11.2.2.2.2.2.2.2.2.1, .string r11.2.2.2.2.2.2.2.2.2]) rfl rfl rfl z_size35 ((hout 3 rfl).trans rfl) e1 rfl (ones_cons rfl (ones_cons rfl (ones_cons rfl (ones_cons rfl (ones_cons rfl (ones_cons rfl (ones_cons rfl (ones_cons rfl (ones_cons rfl (ones_cons rfl (ones_cons rfl (ones_cons hs17.one' (ones_cons hs18.one' (ones_cons rfl (ones_cons rfl ones_nil))))))))))))))) rfl rfl rfl ?_
    refine st_gs [[(b10, .cells [.int .i64 a1.1, .int .u32 a1.2.1, .int .i64 a1.2.2.1, .int .i64 a1.2.2.2.1, .int .i64 a1.2.2.2.2.1, .int .i64 (a1.2.2.2.2.2.1.getD 0 0), .int .i64 (a1.2.2.2.2.2.1.getD 1 0), .int .i64 (a1.2.2.2.2.2.1.getD 2 0), .int .i64 (a1.2.2.2.2.2.1.getD 3 0), .int .i64 (a1.2.2.2.2.2.1.getD 4 0), .int .i64 (a1.2.2.2.2.2.1.getD 5 0), v5, v6, .string a1.2.2.2.2.2.2.2.2.1, .string a1.2.2.2.2.2.2.2.2.2].toArray 35 (0, 0))], [(b9, .cells [.int .i64 r11.1, .int .u32 r11.2.1, .int .i64 r11.2.2.1, .int .i64 r11.2.2.2.1, .int .i64 r11.2.2.2.2.1, .int .i64 (r11.2.2.2.2.2.1.getD 0 0), .int .i64 (r11.2.2.2.2.2.1.getD 1 0), .int .i64 (r11.2.2.2.2.2.1.getD 2 0), .int .i64 (r11.2.2.2.2.2.1.getD 3 0), .int .i64 (r11.2.2.2.2.2.1.getD 4 0), .int .i64 (r11.2.2.2.2.2.1.getD 5 0), v15, v16, .string r11.2.2.2.2.2.2.2.2.1, .string r11.2.2.2.2.2.2.2.2.2].toArray 35 (0, 0))], pool] rfl ?_
    exact hk _ _ [[(b9, .cells [.int .i64 r11.1, .int .u32 r11.2.1, .int .i64 r11.2.2.1, .int .i64 r11.2.2.2.1, .int .i64 r11.2.2.2.2.1, .int .i64 (r11.2.2.2.2.2.1.getD 0 0), .int .i64 (r11.2.2.2.2.2.1.getD 1 0), .int .i64 (r11.2.2.2.2.2.1.getD 2 0), .int .i64 (r11.2.2.2.2.2.1.getD 3 0), .int .i64 (r11.2.2.2.2.2.1.getD 4 0), .int .i64 (r11.2.2.2.2.2.1.getD 5 0), v15, v16, .string r11.2.2.2.2.2.2.2.2.1, .string r11.2.2.2.2.2.2.2.2.2].toArray 35 (0, 0))]] (Sto.Le.refl _) trivial (by exact ⟨v15, v16, rfl, hs17, hs18⟩)
  intro ρ' τ31 vals u Fv hl31 hI hu hv hout
  obtain ⟨l3, v23, v24, t3, hs25, hs26⟩ := hv 3 (by decide)
  replace l3 := l3 _ rfl
  replace l3 : Eng.look ρ' 10 = some (.agg [.int .i64 r19.1, .int .u32 r19.2.1, .int .i64 r19.2.2.1, .int .i64 r19.2.2.2.1, .int .i64 r19.2.2.2.2.1, .int .i64 (r19.2.2.2.2.2.1.getD 0 0), .int .i64 (r19.2.2.2.2.2.1.getD 1 0), .int .i64 (r19.2.2.2.2.2.1.getD 2 0), .int .i64 (r19.2.2.2.2.2.1.getD 3 0), .int .i64 (r19.2.2.2.2.2.1.getD 4 0), .int .i64 (r19.2.2.2.2.2.1.getD 5 0), v23, v24, .string r19.2.2.2.2.2.2.2.2.1, .string r19.2.2.2.2.2.2.2.2.2].toArray) := l3.trans (congrArg some (Eq.symm t3))
  obtain ⟨v27, v29, rfl, hs28, hs30⟩ := hI
  refine st_gs [[(b10, .cells [.int .i64 a1.1, .int .u32 a1.2.1, .int .i64 a1.2.2.1, .int .i64 a1.2.2.2.1, .int .i64 a1.2.2.2.2.1, .int .i64 (a1.2.2.2.2.2.1.getD 0 0), .int .i64 (a1.2.2.2.2.2.1.getD 1 0), .int .i64 (a1.2.2.2.2.2.1.getD 2 0), .int .i64 (a1.2.2.2.2.2.1.getD 3 0), .int .i64 (a1.2.2.2.2.2.1.getD 4 0), .int .i64 (a1.2.2.2.2.2.1.getD 5 0), v5, v6, .string a1.2.2.2.2.2.2.2.2.1, .string a1.2.2.2.2.2.2.2.2.2].toArray 35 (0, 0))], [(b9, .cells [.int .i64 r11.1, .int .u32 r11.2.1, .int .i64 r11.2.2.1, .int .i64 r11.2.2.2.1, .int .i64 r11.2.2.2.2.1, .int .i64 (r11.2.2.2.2.2.1.getD 0 0), .int .i64 (r11.2.2.2.2.2.1.getD 1 0), .int .i64 (r11.2.2.2.2.2.1.getD 2 0), .int .i64 (r11.2.2.2.2.2.1.getD 3 0), .int .i64 (r11.2.2.2.2.2.1.getD 4 0), .int .i64 (r11.2.2.2.2.2.1.getD 5 0), v27, v29, .string r11.2.2.2.2.2.2.2.2.1, .string r11.2.2.2.2.2.2.2.2.2].toArray 35 (0, 0))]] rfl ?_
  refine st_env (ρ' := [(10, .agg [.int .i64 r19.1, .int .u32 r19.2.1, .int .i64 r19.2.2.1, .int .i64 r19.2.2.2.1, .int .i64 r19.2.2.2.2.1, .int .i64 (r19.2.2.2.2.2.1.getD 0 0), .int .i64 (r19.2.2.2.2.2.1.getD 1 0), .int .i64 (r19.2.2.2.2.2.1.getD 2 0), .int .i64 (r19.2.2.2.2.2.1.getD 3 0), .int .i64 (r19.2.2.2.2.2.1.getD 4 0), .int .i64 (r19.2.2.2.2.2.1.getD 5 0), v23, v24, .string r19.2.2.2.2.2.2.2.2.1, .string r19.2.2.2.2.2.2.2.2.2].toArray), (2, .int .i64 a2), (3, .pointer (some ⟨b9, 0, none⟩)), (4, .pointer (some ⟨b10, 0, none⟩)), (6, .bool false)]) ⟨l3, (hout 2 rfl).trans rfl, (hout 3 rfl).trans rfl, (hout 4 rfl).trans rfl, (hout 6 rfl).trans rfl, trivial⟩ ?_
  refine o_store (j := 0) (vs := [.int .i64 r19.1, .int .u32 r19.2.1, .int .i64 r19.2.2.1, .int .i64 r19.2.2.2.1, .int .i64 r19.2.2.2.2.1, .int .i64 (r19.2.2.2.2.2.1.getD 0 0), .int .i64 (r19.2.2.2.2.2.1.getD 1 0), .int .i64 (r19.2.2.2.2.2.1.getD 2 0), .int .i64 (r19.2.2.2.2.2.1.getD 3 0), .int .i64 (r19.2.2.2.2.2.1.getD 4 0), .int .i64 (r19.2.2.2.2.2.1.getD 5 0), v23, v24, .string r19.2.2.2.2.2.2.2.2.1, .string r19.2.2.2.2.2.2.2.2.2]) (cs' := [.int .i64 r19.1, .int .u32 r19.2.1, .int .i64 r19.2.2.1, .int .i64 r19.2.2.2.1, .int .i64 r19.2.2.2.2.1, .int .i64 (r19.2.2.2.2.2.1.getD 0 0), .int .i64 (r19.2.2.2.2.2.1.getD 1 0), .int .i64 (r19.2.2.2.2.2.1.getD 2 0), .int .i64 (r19.2.2.2.2.2.1.getD 3 0), .int .i64 (r19.2.2.2.2.2.1.getD 4 0), .int .i64 (r19.2.2.2.2.2.1.getD 5 0), v23, v24, .string r19.2.2.2.2.2.2.2.2.1, .string r19.2.2.2.2.2.2.2.2.2]) rfl rfl rfl z_size35 rfl rfl rfl (ones_cons rfl (ones_cons rfl (ones_cons rfl (ones_cons rfl (ones_cons rfl (ones_cons rfl (ones_cons rfl (ones_cons rfl (ones_cons rfl (ones_cons rfl (ones_cons rfl (ones_cons hs25.one' (ones_cons hs26.one' (ones_cons rfl (ones_cons rfl ones_nil))))))))))))))) rfl rfl rfl ?_
  refine st_gs [[(b10, .cells [.int .i64 r19.1, .int .u32 r19.2.1, .int .i64 r19.2.2.1, .int .i64 r19.2.2.2.1, .int .i64 r19.2.2.2.2.1, .int .i64 (r19.2.2.2.2.2.1.getD 0 0), .int .i64 (r19.2.2.2.2.2.1.getD 1 0), .int .i64 (r19.2.2.2.2.2.1.getD 2 0), .int .i64 (r19.2.2.2.2.2.1.getD 3 0), .int .i64 (r19.2.2.2.2.2.1.getD 4 0), .int .i64 (r19.2.2.2.2.2.1.getD 5 0), v23, v24, .string r19.2.2.2.2.2.2.2.2.1, .string r19.2.2.2.2.2.2.2.2.2].toArray 35 (0, 0))], [(b9, .cells [.int .i64 r11.1, .int .u32 r11.2.1, .int .i64 r11.2.2.1, .int .i64 r11.2.2.2.1, .int .i64 r11.2.2.2.2.1, .int .i64 (r11.2.2.2.2.2.1.getD 0 0), .int .i64 (r11.2.2.2.2.2.1.getD 1 0), .int .i64 (r11.2.2.2.2.2.1.getD 2 0), .int .i64 (r11.2.2.2.2.2.1.getD 3 0), .int .i64 (r11.2.2.2.2.2.1.getD 4 0), .int .i64 (r11.2.2.2.2.2.1.getD 5 0), v27, v29, .string r11.2.2.2.2.2.2.2.2.1, .string r11.2.2.2.2.2.2.2.2.2].toArray 35 (0, 0))]] rfl ?_
  refine Z 2 rfl ?_
  obtain ⟨r32, hr33, r36, hr37, r40, hr41, r48, hr49, r52, hr53, r56, hr57, r64, hr65, r72, hr73, r76, hr77, r80, hr81, r84, hr85, h⟩ := h
  refine st_draw 32 (tl [fun τ v => (.bool r32 : Value) = v,
    fun τ v => (.bool r32 : Value) = v,
    fun τ v => ((r32 = true) → (.agg [.int .i64 r11.1, .int .u32 r11.2.1, .int .i64 r11.2.2.1, .int .i64 r11.2.2.2.1, .int .i64 r11.2.2.2.2.1, .int .i64 (r11.2.2.2.2.2.1.getD 0 0), .int .i64 (r11.2.2.2.2.2.1.getD 1 0), .int .i64 (r11.2.2.2.2.2.1.getD 2 0), .int .i64 (r11.2.2.2.2.2.1.getD 3 0), .int .i64 (r11.2.2.2.2.2.1.getD 4 0), .int .i64 (r11.2.2.2.2.2.1.getD 5 0), v27, v29, .string r11.2.2.2.2.2.2.2.2.1, .string r11.2.2.2.2.2.2.2.2.2].toArray : Value) = v) ∧ (¬ (r32 = true) → v = undef),
    fun τ v => ((r32 = true) → (.string r36 : Value) = v) ∧ (¬ (r32 = true) → v = undef),
    fun τ v => ((r32 = true) → (.agg [.int .i64 r11.1, .int .u32 r11.2.1, .int .i64 r11.2.2.1, .int .i64 r11.2.2.2.1, .int .i64 r11.2.2.2.2.1, .int .i64 (r11.2.2.2.2.2.1.getD 0 0), .int .i64 (r11.2.2.2.2.2.1.getD 1 0), .int .i64 (r11.2.2.2.2.2.1.getD 2 0), .int .i64 (r11.2.2.2.2.2.1.getD 3 0), .int .i64 (r11.2.2.2.2.2.1.getD 4 0), .int .i64 (r11.2.2.2.2.2.1.getD 5 0), v27, v29, .string r11.2.2.2.2.2.2.2.2.1, .string r11.2.2.2.2.2.2.2.2.2].toArray : Value) = v) ∧ (¬ (r32 = true) → v = undef),
    fun τ v => ((r32 = true) → ∃ (v44 : Value) (v45 : Value), (.agg [.int .i64 r40.1, .int .u32 r40.2.1, .int .i64 r40.2.2.1, .int .i64 r40.2.2.2.1, .int .i64 r40.2.2.2.2.1, .int .i64 (r40.2.2.2.2.2.1.getD 0 0), .int .i64 (r40.2.2.2.2.2.1.getD 1 0), .int .i64 (r40.2.2.2.2.2.1.getD 2 0), .int .i64 (r40.2.2.2.2.2.1.getD 3 0), .int .i64 (r40.2.2.2.2.2.1.getD 4 0), .int .i64 (r40.2.2.2.2.2.1.getD 5 0), v44, v45, .string r40.2.2.2.2.2.2.2.2.1, .string r40.2.2.2.2.2.2.2.2.2].toArray : Value) = v ∧ Sl (kA .i64 2) τ v44 r40.2.2.2.2.2.2.1 ∧ Sl (kI .i64) τ v45 r40.2.2.2.2.2.2.2.1) ∧ (¬ (r32 = true) → v = undef),
    fun τ v => ((r32 = true) → (.string r48 : Value) = v) ∧ (¬ (r32 = true) → v = undef),
    fun τ v => ((r32 = true) → (.bool (decide (r36 = r48)) : Value) = v) ∧ (¬ (r32 = true) → v = undef),
    fun τ v => (.bool (r32 && (decide (r36 = r48))) : Value) = v,
    fun τ v => (.bool (r32 && (decide (r36 = r48))) : Value) = v,
    fun τ v => (((r32 && (decide (r36 = r48))) = true) → (.agg [.int .i64 r11.1, .int .u32 r11.2.1, .int .i64 r11.2.2.1, .int .i64 r11.2.2.2.1, .int .i64 r11.2.2.2.2.1, .int .i64 (r11.2.2.2.2.2.1.getD 0 0), .int .i64 (r11.2.2.2.2.2.1.getD 1 0), .int .i64 (r11.2.2.2.2.2.1.getD 2 0), .int .i64 (r11.2.2.2.2.2.1.getD 3 0), .int .i64 (r11.2.2.2.2.2.1.getD 4 0), .int .i64 (r11.2.2.2.2.2.1.getD 5 0), v27, v29, .string r11.2.2.2.2.2.2.2.2.1, .string r11.2.2.2.2.2.2.2.2.2].toArray : Value) = v) ∧ (¬ ((r32 && (decide (r36 = r48))) = true) → v = undef),
    fun τ v => (((r32 && (decide (r36 = r48))) = true) → (.agg [.int .i64 r19.1, .int .u32 r19.2.1, .int .i64 r19.2.2.1, .int .i64 r19.2.2.2.1, .int .i64 r19.2.2.2.2.1, .int .i64 (r19.2.2.2.2.2.1.getD 0 0), .int .i64 (r19.2.2.2.2.2.1.getD 1 0), .int .i64 (r19.2.2.2.2.2.1.getD 2 0), .int .i64 (r19.2.2.2.2.2.1.getD 3 0), .int .i64 (r19.2.2.2.2.2.1.getD 4 0), .int .i64 (r19.2.2.2.2.2.1.getD 5 0), v23, v24, .string r19.2.2.2.2.2.2.2.2.1, .string r19.2.2.2.2.2.2.2.2.2].toArray : Value) = v) ∧ (¬ ((r32 && (decide (r36 = r48))) = true) → v = undef),
    fun τ v => (((r32 && (decide (r36 = r48))) = true) → (.bool r52 : Value) = v) ∧ (¬ ((r32 && (decide (r36 = r48))) = true) → v = undef),
    fun τ v => (((r32 && (decide (r36 = r48))) = true) → (.agg [.int .i64 r11.1, .int .u32 r11.2.1, .int .i64 r11.2.2.1, .int .i64 r11.2.2.2.1, .int .i64 r11.2.2.2.2.1, .int .i64 (r11.2.2.2.2.2.1.getD 0 0), .int .i64 (r11.2.2.2.2.2.1.getD 1 0), .int .i64 (r11.2.2.2.2.2.1.getD 2 0), .int .i64 (r11.2.2.2.2.2.1.getD 3 0), .int .i64 (r11.2.2.2.2.2.1.getD 4 0), .int .i64 (r11.2.2.2.2.2.1.getD 5 0), v27, v29, .string r11.2.2.2.2.2.2.2.2.1, .string r11.2.2.2.2.2.2.2.2.2].toArray : Value) = v) ∧ (¬ ((r32 && (decide (r36 = r48))) = true) → v = undef),
    fun τ v => (((r32 && (decide (r36 = r48))) = true) → ∃ (v60 : Value) (v61 : Value), (.agg [.int .i64 r56.1, .int .u32 r56.2.1, .int .i64 r56.2.2.1, .int .i64 r56.2.2.2.1, .int .i64 r56.2.2.2.2.1, .int .i64 (r56.2.2.2.2.2.1.getD 0 0), .int .i64 (r56.2.2.2.2.2.1.getD 1 0), .int .i64 (r56.2.2.2.2.2.1.getD 2 0), .int .i64 (r56.2.2.2.2.2.1.getD 3 0), .int .i64 (r56.2.2.2.2.2.1.getD 4 0), .int .i64 (r56.2.2.2.2.2.1.getD 5 0), v60, v61, .string r56.2.2.2.2.2.2.2.2.1, .string r56.2.2.2.2.2.2.2.2.2].toArray : Value) = v ∧ Sl (kA .i64 2) τ v60 r56.2.2.2.2.2.2.1 ∧ Sl (kI .i64) τ v61 r56.2.2.2.2.2.2.2.1) ∧ (¬ ((r32 && (decide (r36 = r48))) = true) → v = undef),
    fun τ v => (((r32 && (decide (r36 = r48))) = true) → (.agg [.int .i64 r19.1, .int .u32 r19.2.1, .int .i64 r19.2.2.1, .int .i64 r19.2.2.2.1, .int .i64 r19.2.2.2.2.1, .int .i64 (r19.2.2.2.2.2.1.getD 0 0), .int .i64 (r19.2.2.2.2.2.1.getD 1 0), .int .i64 (r19.2.2.2.2.2.1.getD 2 0), .int .i64 (r19.2.2.2.2.2.1.getD 3 0), .int .i64 (r19.2.2.2.2.2.1.getD 4 0), .int .i64 (r19.2.2.2.2.2.1.getD 5 0), v23, v24, .string r19.2.2.2.2.2.2.2.2.1, .string r19.2.2.2.2.2.2.2.2.2].toArray : Value) = v) ∧ (¬ ((r32 && (decide (r36 = r48))) = true) → v = undef),
    fun τ v => (((r32 && (decide (r36 = r48))) = true) → ∃ (v68 : Value) (v69 : Value), (.agg [.int .i64 r64.1, .int .u32 r64.2.1, .int .i64 r64.2.2.1, .int .i64 r64.2.2.2.1, .int .i64 r64.2.2.2.2.1, .int .i64 (r64.2.2.2.2.2.1.getD 0 0), .int .i64 (r64.2.2.2.2.2.1.getD 1 0), .int .i64 (r64.2.2.2.2.2.1.getD 2 0), .int .i64 (r64.2.2.2.2.2.1.getD 3 0), .int .i64 (r64.2.2.2.2.2.1.getD 4 0), .int .i64 (r64.2.2.2.2.2.1.getD 5 0), v68, v69, .string r64.2.2.2.2.2.2.2.2.1, .string r64.2.2.2.2.2.2.2.2.2].toArray : Value) = v ∧ Sl (kA .i64 2) τ v68 r64.2.2.2.2.2.2.1 ∧ Sl (kI .i64) τ v69 r64.2.2.2.2.2.2.2.1) ∧ (¬ ((r32 && (decide (r36 = r48))) = true) → v = undef),
    fun τ v => (((r32 && (decide (r36 = r48))) = true) → (.bool r72 : Value) = v) ∧ (¬ ((r32 && (decide (r36 = r48))) = true) → v = undef),
    fun τ v => (((r32 && (decide (r36 = r48))) = true) → (.bool (decide (r52 = r72)) : Value) = v) ∧ (¬ ((r32 && (decide (r36 = r48))) = true) → v = undef),
    fun τ v => (.bool ((r32 && (decide (r36 = r48))) && (decide (r52 = r72))) : Value) = v,
    fun τ v => (.bool ((r32 && (decide (r36 = r48))) && (decide (r52 = r72))) : Value) = v,
    fun τ v => ((((r32 && (decide (r36 = r48))) && (decide (r52 = r72))) = true) → (.agg [.int .i64 r11.1, .int .u32 r11.2.1, .int .i64 r11.2.2.1, .int .i64 r11.2.2.2.1, .int .i64 r11.2.2.2.2.1, .int .i64 (r11.2.2.2.2.2.1.getD 0 0), .int .i64 (r11.2.2.2.2.2.1.getD 1 0), .int .i64 (r11.2.2.2.2.2.1.getD 2 0), .int .i64 (r11.2.2.2.2.2.1.getD 3 0), .int .i64 (r11.2.2.2.2.2.1.getD 4 0), .int .i64 (r11.2.2.2.2.2.1.getD 5 0), v27, v29, .string r11.2.2.2.2.2.2.2.2.1, .string r11.2.2.2.2.2.2.2.2.2].toArray : Value) = v) ∧ (¬ (((r32 && (decide (r36 = r48))) && (decide (r52 = r72))) = true) → v = undef),
    fun τ v => ((((r32 && (decide (r36 = r48))) && (decide (r52 = r72))) = true) → (.agg [.int .i64 r11.1, .int .u32 r11.2.1, .int .i64 r11.2.2.1, .int .i64 r11.2.2.2.1, .int .i64 r11.2.2.2.2.1, .int .i64 (r11.2.2.2.2.2.1.getD 0 0), .int .i64 (r11.2.2.2.2.2.1.getD 1 0), .int .i64 (r11.2.2.2.2.2.1.getD 2 0), .int .i64 (r11.2.2.2.2.2.1.getD 3 0), .int .i64 (r11.2.2.2.2.2.1.getD 4 0), .int .i64 (r11.2.2.2.2.2.1.getD 5 0), v27, v29, .string r11.2.2.2.2.2.2.2.2.1, .string r11.2.2.2.2.2.2.2.2.2].toArray : Value) = v) ∧ (¬ (((r32 && (decide (r36 = r48))) && (decide (r52 = r72))) = true) → v = undef),
    fun τ v => ((((r32 && (decide (r36 = r48))) && (decide (r52 = r72))) = true) → (.bool r76 : Value) = v) ∧ (¬ (((r32 && (decide (r36 = r48))) && (decide (r52 = r72))) = true) → v = undef),
    fun τ v => (.bool (((r32 && (decide (r36 = r48))) && (decide (r52 = r72))) && r76) : Value) = v,
    fun τ v => (.bool (((r32 && (decide (r36 = r48))) && (decide (r52 = r72))) && r76) : Value) = v,
    fun τ v => (((((r32 && (decide (r36 = r48))) && (decide (r52 = r72))) && r76) = true) → (.int .i64 a2 : Value) = v) ∧ (¬ ((((r32 && (decide (r36 = r48))) && (decide (r52 = r72))) && r76) = true) → v = undef),
    fun τ v => (((((r32 && (decide (r36 = r48))) && (decide (r52 = r72))) && r76) = true) → (.string r80 : Value) = v) ∧ (¬ ((((r32 && (decide (r36 = r48))) && (decide (r52 = r72))) && r76) = true) → v = undef),
    fun τ v => (((((r32 && (decide (r36 = r48))) && (decide (r52 = r72))) && r76) = true) → (.int .i64 a2 : Value) = v) ∧ (¬ ((((r32 && (decide (r36 = r48))) && (decide (r52 = r72))) && r76) = true) → v = undef),
    fun τ v => (((((r32 && (decide (r36 = r48))) && (decide (r52 = r72))) && r76) = true) → (.string r84 : Value) = v) ∧ (¬ ((((r32 && (decide (r36 = r48))) && (decide (r52 = r72))) && r76) = true) → v = undef),
    fun τ v => (((((r32 && (decide (r36 = r48))) && (decide (r52 = r72))) && r76) = true) → (.bool (decide (r80 = r84)) : Value) = v) ∧ (¬ ((((r32 && (decide (r36 = r48))) && (decide (r52 = r72))) && r76) = true) → v = undef),
    fun τ v => (.bool ((((r32 && (decide (r36 = r48))) && (decide (r52 = r72))) && r76) && (decide (r80 = r84))) : Value) = v]) (fun _ _ => []) z_mix rfl (tl_mono ⟨fun _ _ _ _ h => h, ⟨fun _ _ _ _ h => h, ⟨fun _ _ _ _ h => h, ⟨fun _ _ _ _ h => h, ⟨fun _ _ _ _ h => h, ⟨fun _ _ _ hl ⟨h1, h2⟩ => ⟨fun hC => let ⟨v44, v45, hv, hs46, hs47⟩ := h1 hC; ⟨v44, v45, hv, hs46.up hl, hs47.up hl⟩, h2⟩, ⟨fun _ _ _ _ h => h, ⟨fun _ _ _ _ h => h, ⟨fun _ _ _ _ h => h, ⟨fun _ _ _ _ h => h, ⟨fun _ _ _ _ h => h, ⟨fun _ _ _ _ h => h, ⟨fun _ _ _ _ h => h, ⟨fun _ _ _ _ h => h, ⟨fun _ _ _ hl ⟨h1, h2⟩ => ⟨fun hC => let ⟨v60, v61, hv, hs62, hs63⟩ := h1 hC; ⟨v60, v61, hv, hs62.up hl, hs63.up hl⟩, h2⟩, ⟨fun _ _ _ _ h => h, ⟨fun _ _ _ hl ⟨h1, h2⟩ => ⟨fun hC => let ⟨v68, v69, hv, hs70, hs71⟩ := h1 hC; ⟨v68, v69, hv, hs70.up hl, hs71.up hl⟩, h2⟩, ⟨fun _ _ _ _ h => h, ⟨fun _ _ _ _ h => h, ⟨fun _ _ _ _ h => h, ⟨fun _ _ _ _ h => h, ⟨fun _ _ _ _ h => h, ⟨fun _ _ _ _ h => h, ⟨fun _ _ _ _ h => h, ⟨fun _ _ _ _ h => h, ⟨fun _ _ _ _ h => h, ⟨fun _ _ _ _ h => h, ⟨fun _ _ _ _ h => h, ⟨fun _ _ _ _ h => h, ⟨fun _ _ _ _ h => h, ⟨fun _ _ _ _ h => h, ⟨fun _ _ _ _ h => h, trivial⟩⟩⟩⟩⟩⟩⟩⟩⟩⟩⟩⟩⟩⟩⟩⟩⟩⟩⟩⟩⟩⟩⟩⟩⟩⟩⟩⟩⟩⟩⟩⟩) (allB_cons (allB_cons (allB_cons (allB_cons (allB_cons (allB_cons (allB_cons (allB_cons (allB_cons (allB_cons (allB_cons (allB_cons (allB_cons (allB_cons (allB_cons (allB_cons (allB_cons (allB_cons (allB_cons (allB_cons (allB_cons (allB_cons (allB_cons (allB_cons (allB_cons (allB_cons (allB_cons (allB_cons (allB_cons (allB_cons (allB_cons (allB_cons allB_nil ?_) ?_) ?_) ?_) ?_) ?_) ?_) ?_) ?_) ?_) ?_) ?_) ?_) ?_) ?_) ?_) ?_) ?_) ?_) ?_) ?_) ?_) ?_) ?_) ?_) ?_) ?_) ?_) ?_) ?_) ?_) ?_) ?_
  · intro ρ' τ pool rs hl hd hout hk
    refine st_call (foot := []) rfl rfl rfl rfl rfl rfl (callV_fn z_en21 (law23_known_ok hr33 τ (hT.up (hl31.trans hl)))) ?_
    rintro vτ34 τ34 gsτ34 hl35 ⟨rfl, rfl⟩
    exact st_addNil (hk _ _ hl35 rfl)
  · intro ρ' τ pool rs hl hd hout hk
    obtain ⟨_, e0, rfl⟩ := hd 0 rfl
    refine o_move rfl rfl rfl e0 ?_
    exact st_addNil (hk _ _ (Sto.Le.refl _) rfl)
  · intro ρ' τ pool rs hl hd hout hk
    obtain ⟨_, e1, rfl⟩ := hd 1 rfl
    by_cases hG : r32 = true
    · have hC := hG
      refine o_loadN (j := 1) (vs := [.int .i64 r11.1, .int .u32 r11.2.1, .int .i64 r11.2.2.1, .int .i64 r11.2.2.2.1, .int .i64 r11.2.2.2.2.1, .int .i64 (r11.2.2.2.2.2.1.getD 0 0), .int .i64 (r11.2.2.2.2.2.1.getD 1 0), .int .i64 (r11.2.2.2.2.2.1.getD 2 0), .int .i64 (r11.2.2.2.2.2.1.getD 3 0), .int .i64 (r11.2.2.2.2.2.1.getD 4 0), .int .i64 (r11.2.2.2.2.2.1.getD 5 0), v27, v29, .string r11.2.2.2.2.2.2.2.2.1, .string r11.2.2.2.2.2.2.2.2.2]) rfl (wants_of rfl e1 hG) rfl z_agg35 ((hout 3 rfl).trans rfl) rfl rfl ?_
      exact st_addNil (hk _ _ (Sto.Le.refl _) ⟨fun _ => rfl, fun hn => absurd hC hn⟩)
    · refine st_pass rfl rfl rfl e1 (beq_off hG) rfl ?_
      exact st_addNil (hk _ _ (Sto.Le.refl _) ⟨fun h => absurd h hG, fun _ => rfl⟩)
  · intro ρ' τ pool rs hl hd hout hk
    obtain ⟨_, e1, rfl⟩ := hd 1 rfl
    obtain ⟨w2, e2, t2⟩ := hd 2 rfl
    by_cases hG : r32 = true
    · have hC := hG
      replace hr37 := hr37 hC
      obtain ⟨rfl⟩ := t2.1 hC
      refine st_call (foot := []) rfl (wants_of rfl e1 hG) rfl rfl (evs_cons e2 rfl) rfl (callV_fn z_en25 (event_Line_ok hr37 τ (hs28.up hl) (hs30.up hl) (hT.up (hl31.trans hl)))) ?_
      rintro vτ38 τ38 gsτ38 hl39 ⟨rfl, rfl⟩
      exact st_addNil (hk _ _ hl39 ⟨fun _ => rfl, fun hn => absurd hC hn⟩)
    · refine st_pass rfl rfl rfl e1 (beq_off hG) rfl ?_
      exact st_addNil (hk _ _ (Sto.Le.refl _) ⟨fun h => absurd h hG, fun _ => rfl⟩)
  · intro ρ' τ pool rs hl hd hout hk
    obtain ⟨_, e1, rfl⟩ := hd 1 rfl
    by_cases hG : r32 = true
    · have hC := hG
      refine o_loadN (j := 1) (vs := [.int .i64 r11.1, .int .u32 r11.2.1, .int .i64 r11.2.2.1, .int .i64 r11.2.2.2.1, .int .i64 r11.2.2.2.2.1, .int .i64 (r11.2.2.2.2.2.1.getD 0 0), .int .i64 (r11.2.2.2.2.2.1.getD 1 0), .int .i64 (r11.2.2.2.2.2.1.getD 2 0), .int .i64 (r11.2.2.2.2.2.1.getD 3 0), .int .i64 (r11.2.2.2.2.2.1.getD 4 0), .int .i64 (r11.2.2.2.2.2.1.getD 5 0), v27, v29, .string r11.2.2.2.2.2.2.2.2.1, .string r11.2.2.2.2.2.2.2.2.2]) rfl (wants_of rfl e1 hG) rfl z_agg35 ((hout 3 rfl).trans rfl) rfl rfl ?_
      exact st_addNil (hk _ _ (Sto.Le.refl _) ⟨fun _ => rfl, fun hn => absurd hC hn⟩)
    · refine st_pass rfl rfl rfl e1 (beq_off hG) rfl ?_
      exact st_addNil (hk _ _ (Sto.Le.refl _) ⟨fun h => absurd h hG, fun _ => rfl⟩)
  · intro ρ' τ pool rs hl hd hout hk
    obtain ⟨_, e1, rfl⟩ := hd 1 rfl
    obtain ⟨w4, e4, t4⟩ := hd 4 rfl
    by_cases hG : r32 = true
    · have hC := hG
      replace hr41 := hr41 hC
      obtain ⟨rfl⟩ := t4.1 hC
      refine st_call (foot := []) rfl (wants_of rfl e1 hG) rfl rfl (evs_cons e4 rfl) rfl (callV_fn z_en20 (law23_Of_ok hr41 τ (hs28.up hl) (hs30.up hl))) ?_
      rintro vτ42 τ42 gsτ42 hl43 ⟨v44, v45, rfl, rfl, hs46, hs47⟩
      exact st_addNil (hk _ _ hl43 ⟨fun _ => ⟨v44, v45, rfl, hs46, hs47⟩, fun hn => absurd hC hn⟩)
    · refine st_pass rfl rfl rfl e1 (beq_off hG) rfl ?_
      exact st_addNil (hk _ _ (Sto.Le.refl _) ⟨fun h => absurd h hG, fun _ => rfl⟩)
  · intro ρ' τ pool rs hl hd hout hk
    obtain ⟨_, e1, rfl⟩ := hd 1 rfl
    obtain ⟨w5, e5, t5⟩ := hd 5 rfl
    by_cases hG : r32 = true
    · have hC := hG
      replace hr49 := hr49 hC
      obtain ⟨v44, v45, rfl, hs46, hs47⟩ := t5.1 hC
      refine st_call (foot := []) rfl (wants_of rfl e1 hG) rfl rfl (evs_cons e5 rfl) rfl (callV_fn z_en26 (ref23_Line_ok hr49 τ hs46 hs47)) ?_
      rintro vτ50 τ50 gsτ50 hl51 ⟨rfl, rfl⟩
      exact st_addNil (hk _ _ hl51 ⟨fun _ => rfl, fun hn => absurd hC hn⟩)
    · refine st_pass rfl rfl rfl e1 (beq_off hG) rfl ?_
      exact st_addNil (hk _ _ (Sto.Le.refl _) ⟨fun h => absurd h hG, fun _ => rfl⟩)
  · intro ρ' τ pool rs hl hd hout hk
    obtain ⟨_, e1, rfl⟩ := hd 1 rfl
    obtain ⟨w3, e3, t3⟩ := hd 3 rfl
    obtain ⟨w6, e6, t6⟩ := hd 6 rfl
    by_cases hG : r32 = true
    · have hC := hG
      obtain ⟨rfl⟩ := t6.1 hC
      obtain ⟨rfl⟩ := t3.1 hC
      refine o_sbin (v := .bool (decide (r36 = r48))) rfl (wants_of rfl e1 hG) rfl e3 e6 rfl ?_
      exact st_addNil (hk _ _ (Sto.Le.refl _) ⟨fun _ => rfl, fun hn => absurd hC hn⟩)
    · refine st_pass rfl rfl rfl e1 (beq_off hG) rfl ?_
      exact st_addNil (hk _ _ (Sto.Le.refl _) ⟨fun h => absurd h hG, fun _ => rfl⟩)
  · intro ρ' τ pool rs hl hd hout hk
    obtain ⟨_, e1, rfl⟩ := hd 1 rfl
    obtain ⟨w7, e7, t7⟩ := hd 7 rfl
    refine o_pickAnd rfl rfl rfl e1 (fun hp => e7.trans (congrArg some (Eq.symm (t7.1 hp)))) rfl ?_
    exact st_addNil (hk _ _ (Sto.Le.refl _) rfl)
  · intro ρ' τ pool rs hl hd hout hk
    obtain ⟨_, e8, rfl⟩ := hd 8 rfl
    refine o_move rfl rfl rfl e8 ?_
    exact st_addNil (hk _ _ (Sto.Le.refl _) rfl)
  · intro ρ' τ pool rs hl hd hout hk
    obtain ⟨_, e9, rfl⟩ := hd 9 rfl
    by_cases hG : (r32 && (decide (r36 = r48))) = true
    · have hC := hG
      refine o_loadN (j := 1) (vs := [.int .i64 r11.1, .int .u32 r11.2.1, .int .i64 r11.2.2.1, .int .i64 r11.2.2.2.1, .int .i64 r11.2.2.2.2.1, .int .i64 (r11.2.2.2.2.2.1.getD 0 0), .int .i64 (r11.2.2.2.2.2.1.getD 1 0), .int .i64 (r11.2.2.2.2.2.1.getD 2 0), .int .i64 (r11.2.2.2.2.2.1.getD 3 0), .int .i64 (r11.2.2.2.2.2.1.getD 4 0), .int .i64 (r11.2.2.2.2.2.1.getD 5 0), v27, v29, .string r11.2.2.2.2.2.2.2.2.1, .string r11.2.2.2.2.2.2.2.2.2]) rfl (wants_of rfl e9 hG) rfl z_agg35 ((hout 3 rfl).trans rfl) rfl rfl ?_
      exact st_addNil (hk _ _ (Sto.Le.refl _) ⟨fun _ => rfl, fun hn => absurd hC hn⟩)
    · refine st_pass rfl rfl rfl e9 (beq_off hG) rfl ?_
      exact st_addNil (hk _ _ (Sto.Le.refl _) ⟨fun h => absurd h hG, fun _ => rfl⟩)
  · intro ρ' τ pool rs hl hd hout hk
    obtain ⟨_, e9, rfl⟩ := hd 9 rfl
    by_cases hG : (r32 && (decide (r36 = r48))) = true
    · have hC := hG
      refine o_loadN (j := 0) (vs := [.int .i64 r19.1, .int .u32 r19.2.1, .int .i64 r19.2.2.1, .int .i64 r19.2.2.2.1, .int .i64 r19.2.2.2.2.1, .int .i64 (r19.2.2.2.2.2.1.getD 0 0), .int .i64 (r19.2.2.2.2.2.1.getD 1 0), .int .i64 (r19.2.2.2.2.2.1.getD 2 0), .int .i64 (r19.2.2.2.2.2.1.getD 3 0), .int .i64 (r19.2.2.2.2.2.1.getD 4 0), .int .i64 (r19.2.2.2.2.2.1.getD 5 0), v23, v24, .string r19.2.2.2.2.2.2.2.2.1, .string r19.2.2.2.2.2.2.2.2.2]) rfl (wants_of rfl e9 hG) rfl z_agg35 ((hout 4 rfl).trans rfl) rfl rfl ?_
      exact st_addNil (hk _ _ (Sto.Le.refl _) ⟨fun _ => rfl, fun hn => absurd hC hn⟩)
    · refine st_pass rfl rfl rfl e9 (beq_off hG) rfl ?_
      exact st_addNil (hk _ _ (Sto.Le.refl _) ⟨fun h => absurd h hG, fun _ => rfl⟩)
  · intro ρ' τ pool rs hl hd hout hk
    obtain ⟨_, e9, rfl⟩ := hd 9 rfl
    obtain ⟨w10, e10, t10⟩ := hd 10 rfl
    obtain ⟨w11, e11, t11⟩ := hd 11 rfl
    by_cases hG : (r32 && (decide (r36 = r48))) = true
    · have hC := hG
      replace hr53 := hr53 hC
      obtain ⟨rfl⟩ := t10.1 hC
      obtain ⟨rfl⟩ := t11.1 hC
      refine st_call (foot := []) rfl (wants_of rfl e9 hG) rfl rfl (evs_cons e10 (evs_cons e11 rfl)) rfl (callV_fn z_en27 (event_Same_ok hr53 τ (hs28.up hl) (hs30.up hl) (hs25.up hl) (hs26.up hl))) ?_
      rintro vτ54 τ54 gsτ54 hl55 ⟨rfl, rfl⟩
      exact st_addNil (hk _ _ hl55 ⟨fun _ => rfl, fun hn => absurd hC hn⟩)
    · refine st_pass rfl rfl rfl e9 (beq_off hG) rfl ?_
      exact st_addNil (hk _ _ (Sto.Le.refl _) ⟨fun h => absurd h hG, fun _ => rfl⟩)
  · intro ρ' τ pool rs hl hd hout hk
    obtain ⟨_, e9, rfl⟩ := hd 9 rfl
    by_cases hG : (r32 && (decide (r36 = r48))) = true
    · have hC := hG
      refine o_loadN (j := 1) (vs := [.int .i64 r11.1, .int .u32 r11.2.1, .int .i64 r11.2.2.1, .int .i64 r11.2.2.2.1, .int .i64 r11.2.2.2.2.1, .int .i64 (r11.2.2.2.2.2.1.getD 0 0), .int .i64 (r11.2.2.2.2.2.1.getD 1 0), .int .i64 (r11.2.2.2.2.2.1.getD 2 0), .int .i64 (r11.2.2.2.2.2.1.getD 3 0), .int .i64 (r11.2.2.2.2.2.1.getD 4 0), .int .i64 (r11.2.2.2.2.2.1.getD 5 0), v27, v29, .string r11.2.2.2.2.2.2.2.2.1, .string r11.2.2.2.2.2.2.2.2.2]) rfl (wants_of rfl e9 hG) rfl z_agg35 ((hout 3 rfl).trans rfl) rfl rfl ?_
      exact st_addNil (hk _ _ (Sto.Le.refl _) ⟨fun _ => rfl, fun hn => absurd hC hn⟩)
    · refine st_pass rfl rfl rfl e9 (beq_off hG) rfl ?_
      exact st_addNil (hk _ _ (Sto.Le.refl _) ⟨fun h => absurd h hG, fun _ => rfl⟩)
  · intro ρ' τ pool rs hl hd hout hk
    obtain ⟨_, e9, rfl⟩ := hd 9 rfl
    obtain ⟨w13, e13, t13⟩ := hd 13 rfl
    by_cases hG : (r32 && (decide (r36 = r48))) = true
    · have hC := hG
      replace hr57 := hr57 hC
      obtain ⟨rfl⟩ := t13.1 hC
      refine st_call (foot := []) rfl (wants_of rfl e9 hG) rfl rfl (evs_cons e13 rfl) rfl (callV_fn z_en20 (law23_Of_ok hr57 τ (hs28.up hl) (hs30.up hl))) ?_
      rintro vτ58 τ58 gsτ58 hl59 ⟨v60, v61, rfl, rfl, hs62, hs63⟩
      exact st_addNil (hk _ _ hl59 ⟨fun _ => ⟨v60, v61, rfl, hs62, hs63⟩, fun hn => absurd hC hn⟩)
    · refine st_pass rfl rfl rfl e9 (beq_off hG) rfl ?_
      exact st_addNil (hk _ _ (Sto.Le.refl _) ⟨fun h => absurd h hG, fun _ => rfl⟩)
  · intro ρ' τ pool rs hl hd hout hk
    obtain ⟨_, e9, rfl⟩ := hd 9 rfl
    by_cases hG : (r32 && (decide (r36 = r48))) = true
    · have hC := hG
      refine o_loadN (j := 0) (vs := [.int .i64 r19.1, .int .u32 r19.2.1, .int .i64 r19.2.2.1, .int .i64 r19.2.2.2.1, .int .i64 r19.2.2.2.2.1, .int .i64 (r19.2.2.2.2.2.1.getD 0 0), .int .i64 (r19.2.2.2.2.2.1.getD 1 0), .int .i64 (r19.2.2.2.2.2.1.getD 2 0), .int .i64 (r19.2.2.2.2.2.1.getD 3 0), .int .i64 (r19.2.2.2.2.2.1.getD 4 0), .int .i64 (r19.2.2.2.2.2.1.getD 5 0), v23, v24, .string r19.2.2.2.2.2.2.2.2.1, .string r19.2.2.2.2.2.2.2.2.2]) rfl (wants_of rfl e9 hG) rfl z_agg35 ((hout 4 rfl).trans rfl) rfl rfl ?_
      exact st_addNil (hk _ _ (Sto.Le.refl _) ⟨fun _ => rfl, fun hn => absurd hC hn⟩)
    · refine st_pass rfl rfl rfl e9 (beq_off hG) rfl ?_
      exact st_addNil (hk _ _ (Sto.Le.refl _) ⟨fun h => absurd h hG, fun _ => rfl⟩)
  · intro ρ' τ pool rs hl hd hout hk
    obtain ⟨_, e9, rfl⟩ := hd 9 rfl
    obtain ⟨w15, e15, t15⟩ := hd 15 rfl
    by_cases hG : (r32 && (decide (r36 = r48))) = true
    · have hC := hG
      replace hr65 := hr65 hC
      obtain ⟨rfl⟩ := t15.1 hC
      refine st_call (foot := []) rfl (wants_of rfl e9 hG) rfl rfl (evs_cons e15 rfl) rfl (callV_fn z_en20 (law23_Of_ok hr65 τ (hs25.up hl) (hs26.up hl))) ?_
      rintro vτ66 τ66 gsτ66 hl67 ⟨v68, v69, rfl, rfl, hs70, hs71⟩
      exact st_addNil (hk _ _ hl67 ⟨fun _ => ⟨v68, v69, rfl, hs70, hs71⟩, fun hn => absurd hC hn⟩)
    · refine st_pass rfl rfl rfl e9 (beq_off hG) rfl ?_
      exact st_addNil (hk _ _ (Sto.Le.refl _) ⟨fun h => absurd h hG, fun _ => rfl⟩)
  · intro ρ' τ pool rs hl hd hout hk
    obtain ⟨_, e9, rfl⟩ := hd 9 rfl
    obtain ⟨w14, e14, t14⟩ := hd 14 rfl
    obtain ⟨w16, e16, t16⟩ := hd 16 rfl
    by_cases hG : (r32 && (decide (r36 = r48))) = true
    · have hC := hG
      replace hr73 := hr73 hC
      obtain ⟨v60, v61, rfl, hs62, hs63⟩ := t14.1 hC
      obtain ⟨v68, v69, rfl, hs70, hs71⟩ := t16.1 hC
      refine st_call (foot := []) rfl (wants_of rfl e9 hG) rfl rfl (evs_cons e14 (evs_cons e16 rfl)) rfl (callV_fn z_en19 (ref23_Same_ok hr73 τ hs62 hs63 hs70 hs71)) ?_
      rintro vτ74 τ74 gsτ74 hl75 ⟨rfl, rfl⟩
      exact st_addNil (hk _ _ hl75 ⟨fun _ => rfl, fun hn => absurd hC hn⟩)
    · refine st_pass rfl rfl rfl e9 (beq_off hG) rfl ?_
      exact st_addNil (hk _ _ (Sto.Le.refl _) ⟨fun h => absurd h hG, fun _ => rfl⟩)
  · intro ρ' τ pool rs hl hd hout hk
    obtain ⟨_, e9, rfl⟩ := hd 9 rfl
    obtain ⟨w12, e12, t12⟩ := hd 12 rfl
    obtain ⟨w17, e17, t17⟩ := hd 17 rfl
    by_cases hG : (r32 && (decide (r36 = r48))) = true
    · have hC := hG
      obtain ⟨rfl⟩ := t17.1 hC
      obtain ⟨rfl⟩ := t12.1 hC
      refine o_beq (e := (decide (r52 = r72))) rfl (wants_of rfl e9 hG) rfl Tryd.underlying4 e12 e17 rfl ?_
      exact st_addNil (hk _ _ (Sto.Le.refl _) ⟨fun _ => rfl, fun hn => absurd hC hn⟩)
    · refine st_pass rfl rfl rfl e9 (beq_off hG) rfl ?_
      exact st_addNil (hk _ _ (Sto.Le.refl _) ⟨fun h => absurd h hG, fun _ => rfl⟩)
  · intro ρ' τ pool rs hl hd hout hk
    obtain ⟨_, e9, rfl⟩ := hd 9 rfl
    obtain ⟨w18, e18, t18⟩ := hd 18 rfl
    refine o_pickAnd rfl rfl rfl e9 (fun hp => e18.trans (congrArg some (Eq.symm (t18.1 hp)))) rfl ?_
    exact st_addNil (hk _ _ (Sto.Le.refl _) rfl)
  · intro ρ' τ pool rs hl hd hout hk
    obtain ⟨_, e19, rfl⟩ := hd 19 rfl
    refine o_move rfl rfl rfl e19 ?_
    exact st_addNil (hk _ _ (Sto.Le.refl _) rfl)
  · intro ρ' τ pool rs hl hd hout hk
    obtain ⟨_, e20, rfl⟩ := hd 20 rfl
    by_cases hG : ((r32 && (decide (r36 = r48))) && (decide (r52 = r72))) = true
    · have hC := hG
      refine o_loadN (j := 1) (vs := [.int .i64 r11.1, .int .u32 r11.2.1, .int .i64 r11.2.2.1, .int .i64 r11.2.2.2.1, .int .i64 r11.2.2.2.2.1, .int .i64 (r11.2.2.2.2.2.1.getD 0 0), .int .i64 (r11.2.2.2.2.2.1.getD 1 0), .int .i64 (r11.2.2.2.2.2.1.getD 2 0), .int .i64 (r11.2.2.2.2.2.1.getD 3 0), .int .i64 (r11.2.2.2.2.2.1.getD 4 0), .int .i64 (r11.2.2.2.2.2.1.getD 5 0), v27, v29, .string r11.2.2.2.2.2.2.2.2.1, .string r11.2.2.2.2.2.2.2.2.2]) rfl (wants_of rfl e20 hG) rfl z_agg35 ((hout 3 rfl).trans rfl) rfl rfl ?_
      exact st_addNil (hk _ _ (Sto.Le.refl _) ⟨fun _ => rfl, fun hn => absurd hC hn⟩)
    · refine st_pass rfl rfl rfl e20 (beq_off hG) rfl ?_
      exact st_addNil (hk _ _ (Sto.Le.refl _) ⟨fun h => absurd h hG, fun _ => rfl⟩)
  · intro ρ' τ pool rs hl hd hout hk
    obtain ⟨_, e20, rfl⟩ := hd 20 rfl
    by_cases hG : ((r32 && (decide (r36 = r48))) && (decide (r52 = r72))) = true
    · have hC := hG
      refine o_loadN (j := 1) (vs := [.int .i64 r11.1, .int .u32 r11.2.1, .int .i64 r11.2.2.1, .int .i64 r11.2.2.2.1, .int .i64 r11.2.2.2.2.1, .int .i64 (r11.2.2.2.2.2.1.getD 0 0), .int .i64 (r11.2.2.2.2.2.1.getD 1 0), .int .i64 (r11.2.2.2.2.2.1.getD 2 0), .int .i64 (r11.2.2.2.2.2.1.getD 3 0), .int .i64 (r11.2.2.2.2.2.1.getD 4 0), .int .i64 (r11.2.2.2.2.2.1.getD 5 0), v27, v29, .string r11.2.2.2.2.2.2.2.2.1, .string r11.2.2.2.2.2.2.2.2.2]) rfl (wants_of rfl e20 hG) rfl z_agg35 ((hout 3 rfl).trans rfl) rfl rfl ?_
      exact st_addNil (hk _ _ (Sto.Le.refl _) ⟨fun _ => rfl, fun hn => absurd hC hn⟩)
    · refine st_pass rfl rfl rfl e20 (beq_off hG) rfl ?_
      exact st_addNil (hk _ _ (Sto.Le.refl _) ⟨fun h => absurd h hG, fun _ => rfl⟩)
  · intro ρ' τ pool rs hl hd hout hk
    obtain ⟨_, e20, rfl⟩ := hd 20 rfl
    obtain ⟨w21, e21, t21⟩ := hd 21 rfl
    obtain ⟨w22, e22, t22⟩ := hd 22 rfl
    by_cases hG : ((r32 && (decide (r36 = r48))) && (decide (r52 = r72))) = true
    · have hC := hG
      replace hr77 := hr77 hC
      obtain ⟨rfl⟩ := t21.1 hC
      obtain ⟨rfl⟩ := t22.1 hC
      refine st_call (foot := []) rfl (wants_of rfl e20 hG) rfl rfl (evs_cons e21 (evs_cons e22 rfl)) rfl (callV_fn z_en27 (event_Same_ok hr77 τ (hs28.up hl) (hs30.up hl) (hs28.up hl) (hs30.up hl))) ?_
      rintro vτ78 τ78 gsτ78 hl79 ⟨rfl, rfl⟩
      exact st_addNil (hk _ _ hl79 ⟨fun _ => rfl, fun hn => absurd hC hn⟩)
    · refine st_pass rfl rfl rfl e20 (beq_off hG) rfl ?_
      exact st_addNil (hk _ _ (Sto.Le.refl _) ⟨fun h => absurd h hG, fun _ => rfl⟩)
  · intro ρ' τ pool rs hl hd hout hk
    obtain ⟨_, e20, rfl⟩ := hd 20 rfl
    obtain ⟨w23, e23, t23⟩ := hd 23 rfl
    refine o_pickAnd rfl rfl rfl e20 (fun hp => e23.trans (congrArg some (Eq.symm (t23.1 hp)))) rfl ?_
    exact st_addNil (hk _ _ (Sto.Le.refl _) rfl)
  · intro ρ' τ pool rs hl hd hout hk
    obtain ⟨_, e24, rfl⟩ := hd 24 rfl
    refine o_move rfl rfl rfl e24 ?_
    exact st_addNil (hk _ _ (Sto.Le.refl _) rfl)
  · intro ρ' τ pool rs hl hd hout hk
    obtain ⟨_, e25, rfl⟩ := hd 25 rfl
    by_cases hG : (((r32 && (decide (r36 = r48))) && (decide (r52 = r72))) && r76) = true
    · have hC := hG
      refine o_move rfl (wants_of rfl e25 hG) rfl ((hout 2 rfl).trans rfl) ?_
      exact st_addNil (hk _ _ (Sto.Le.refl _) ⟨fun _ => rfl, fun hn => absurd hC hn⟩)
    · refine st_pass rfl rfl rfl e25 (beq_off hG) rfl ?_
      exact st_addNil (hk _ _ (Sto.Le.refl _) ⟨fun h => absurd h hG, fun _ => rfl⟩)
  · intro ρ' τ pool rs hl hd hout hk
    obtain ⟨_, e25, rfl⟩ := hd 25 rfl
    obtain ⟨w26, e26, t26⟩ := hd 26 rfl
    by_cases hG : (((r32 && (decide (r36 = r48))) && (decide (r52 = r72))) && r76) = true
    · have hC := hG
      replace hr81 := hr81 hC
      obtain ⟨rfl⟩ := t26.1 hC
      refine st_call (foot := []) rfl (wants_of rfl e25 hG) rfl rfl (evs_cons e26 rfl) rfl (callV_fn z_en28 (event_Word_ok hr81 τ)) ?_
      rintro vτ82 τ82 gsτ82 hl83 ⟨rfl, rfl⟩
      exact st_addNil (hk _ _ hl83 ⟨fun _ => rfl, fun hn => absurd hC hn⟩)
    · refine st_pass rfl rfl rfl e25 (beq_off hG) rfl ?_
      exact st_addNil (hk _ _ (Sto.Le.refl _) ⟨fun h => absurd h hG, fun _ => rfl⟩)
  · intro ρ' τ pool rs hl hd hout hk
    obtain ⟨_, e25, rfl⟩ := hd 25 rfl
    by_cases hG : (((r32 && (decide (r36 = r48))) && (decide (r52 = r72))) && r76) = true
    · have hC := hG
      refine o_move rfl (wants_of rfl e25 hG) rfl ((hout 2 rfl).trans rfl) ?_
      exact st_addNil (hk _ _ (Sto.Le.refl _) ⟨fun _ => rfl, fun hn => absurd hC hn⟩)
    · refine st_pass rfl rfl rfl e25 (beq_off hG) rfl ?_
      exact st_addNil (hk _ _ (Sto.Le.refl _) ⟨fun h => absurd h hG, fun _ => rfl⟩)
  · intro ρ' τ pool rs hl hd hout hk
    obtain ⟨_, e25, rfl⟩ := hd 25 rfl
    obtain ⟨w28, e28, t28⟩ := hd 28 rfl
    by_cases hG : (((r32 && (decide (r36 = r48))) && (decide (r52 = r72))) && r76) = true
    · have hC := hG
      replace hr85 := hr85 hC
      obtain ⟨rfl⟩ := t28.1 hC
      refine st_call (foot := []) rfl (wants_of rfl e25 hG) rfl rfl (evs_cons e28 rfl) rfl (callV_fn z_en29 (ref23_Word_ok hr85 τ)) ?_
      rintro vτ86 τ86 gsτ86 hl87 ⟨rfl, rfl⟩
      exact st_addNil (hk _ _ hl87 ⟨fun _ => rfl, fun hn => absurd hC hn⟩)
    · refine st_pass rfl rfl rfl e25 (beq_off hG) rfl ?_
      exact st_addNil (hk _ _ (Sto.Le.refl _) ⟨fun h => absurd h hG, fun _ => rfl⟩)
  · intro ρ' τ pool rs hl hd hout hk
    obtain ⟨_, e25, rfl⟩ := hd 25 rfl
    obtain ⟨w27, e27, t27⟩ := hd 27 rfl
    obtain ⟨w29, e29, t29⟩ := hd 29 rfl
    by_cases hG : (((r32 && (decide (r36 = r48))) && (decide (r52 = r72))) && r76) = true
    · have hC := hG
      obtain ⟨rfl⟩ := t29.1 hC
      obtain ⟨rfl⟩ := t27.1 hC
      refine o_sbin (v := .bool (decide (r80 = r84))) rfl (wants_of rfl e25 hG) rfl e27 e29 rfl ?_
      exact st_addNil (hk _ _ (Sto.Le.refl _) ⟨fun _ => rfl, fun hn => absurd hC hn⟩)
    · refine st_pass rfl rfl rfl e25 (beq_off hG) rfl ?_
      exact st_addNil (hk _ _ (Sto.Le.refl _) ⟨fun h => absurd h hG, fun _ => rfl⟩)
  · intro ρ' τ pool rs hl hd hout hk
    obtain ⟨_, e25, rfl⟩ := hd 25 rfl
    obtain ⟨w30, e30, t30⟩ := hd 30 rfl
    refine o_pickAnd rfl rfl rfl e25 (fun hp => e30.trans (congrArg some (Eq.symm (t30.1 hp)))) rfl ?_
    exact st_addNil (hk _ _ (Sto.Le.refl _) rfl)
  intro ρ' τ88 vals hl88 hv hout
  have l31 : Eng.look ρ' 42 = some (.bool ((((r32 && (decide (r36 = r48))) && (decide (r52 = r72))) && r76) && (decide (r80 = r84)))) := ((hv 31 (by decide)).1).trans (congrArg some (show vals 31 = .bool ((((r32 && (decide (r36 = r48))) && (decide (r52 = r72))) && r76) && (decide (r80 = r84))) from Eq.symm (hv 31 (by decide)).2))
  refine st_ord [0, 0] [[(b10, .cells [.int .i64 r19.1, .int .u32 r19.2.1, .int .i64 r19.2.2.1, .int .i64 r19.2.2.2.1, .int .i64 r19.2.2.2.2.1, .int .i64 (r19.2.2.2.2.2.1.getD 0 0), .int .i64 (r19.2.2.2.2.2.1.getD 1 0), .int .i64 (r19.2.2.2.2.2.1.getD 2 0), .int .i64 (r19.2.2.2.2.2.1.getD 3 0), .int .i64 (r19.2.2.2.2.2.1.getD 4 0), .int .i64 (r19.2.2.2.2.2.1.getD 5 0), v23, v24, .string r19.2.2.2.2.2.2.2.2.1, .string r19.2.2.2.2.2.2.2.2.2].toArray 35 (0, 0))], [(b9, .cells [.int .i64 r11.1, .int .u32 r11.2.1, .int .i64 r11.2.2.1, .int .i64 r11.2.2.2.1, .int .i64 r11.2.2.2.2.1, .int .i64 (r11.2.2.2.2.2.1.getD 0 0), .int .i64 (r11.2.2.2.2.2.1.getD 1 0), .int .i64 (r11.2.2.2.2.2.1.getD 2 0), .int .i64 (r11.2.2.2.2.2.1.getD 3 0), .int .i64 (r11.2.2.2.2.2.1.getD 4 0), .int .i64 (r11.2.2.2.2.2.1.getD 5 0), v27, v29, .string r11.2.2.2.2.2.2.2.2.1, .string r11.2.2.2.2.2.2.2.2.2].toArray 35 (0, 0))]] rfl ?_
  refine st_env (ρ' := [(42, .bool ((((r32 && (decide (r36 = r48))) && (decide (r52 = r72))) && r76) && (decide (r80 = r84)))), (6, .bool false)]) ⟨l31, (hout 6 rfl).trans rfl, trivial⟩ ?_
  refine Z 2 rfl ?_
  refine st_ord [] [] rfl ?_
  obtain rfl := Eq.symm h
  exact st_ret (gs' := []) Tryd.func5 rfl (List.Sublist.refl _) (hl31.trans hl88) ⟨rfl, rfl⟩
end Go.Rel
