import Derived.Test.YtonmgcebhhdplaaGreatURel
import Derived.Test.YtonmgcebhhdplaaGreatUFacts
import Derived.Test.YtonmgcebhhdplaaGreatUWalk0
/-! The walks. -/
set_option linter.unusedVariables false
set_option linter.unusedSimpArgs false
set_option maxRecDepth 4000
set_option maxHeartbeats 4000000
namespace Go.Rel
open Go Go.Eng Go.Proofs
theorem varint_Get_ok {a0 : List Int} {v1 : Value} {r : Int × Int × Int} (h : varint_Get a0 r) (σ : Sto) (hs2 : Sl (kI .u8) σ v1 a0) :
    Does Tryz.prog 79 [v1] σ [] (fun v τ gs => gs = [] ∧ .tuple [.int .u64 r.1, .I r.2.1, .I r.2.2].toArray = v) := by
 refine call_of Tryz.func79 Tryz.ntmps79 rfl rfl (fun cs fs => ?_)
 refine Z 14 rfl ?_
 refine st_cut (fun ρ τ3 gs => ∃ (s3 : Unit), varint_Get_j1 s3 r ∧ σ.Le τ3 ∧ ESub ρ [(2, .int .u64 0), (3, .I 0), (4, .I 0)] ∧ gs = []) ?_ (fun hk3 => ?_)
 ·rintro ρ3 τ3 gs3 ⟨s3, h, hl3, hρ, rfl⟩
  refine st_es hρ ?_
  refine Z 6 rfl ?_
  obtain rfl := Eq.symm h
  exact st_ret (gs' := []) Tryz.func79 rfl (List.Sublist.refl _) hl3 ⟨rfl, rfl⟩
 refine Z 4 rfl ?_
 obtain ⟨e4, hL4, hA4⟩ := h
 refine st_loop hL4 (fun (s4 : Int × Int) ρ τ4 gs => σ.Le τ4 ∧ ESub ρ [(0, v1), (2, .int .u64 0), (3, .I 0), (4, .I 0), (5, .int .u64 s4.1), (8, .I s4.2)] ∧ gs = []) ⟨Sto.Le.refl _, rfl, rfl⟩ ?_
 rintro s4 o4 h he4 ρ4 τ4 gs4 ⟨hl4, hρ, rfl⟩ hn4
 refine st_es hρ ?_
 refine Z 5 rfl ?_
 refine st_if rfl h (fun h => ?_) (fun h => ?_)
 ·refine Z 2 rfl ?_
  refine st_cut (fun ρ τ5 gs => ∃ (s5 : Int), varint_Get_j3 s4 s5 o4 ∧ τ4.Le τ5 ∧ ESub ρ [(0, v1), (2, .int .u64 0), (3, .I 0), (4, .I 0), (5, .int .u64 s5), (8, .I s4.2)] ∧ gs = []) ?_ (fun hk5 => ?_)
  ·rintro ρ5 τ5 gs5 ⟨s5, h, hl5, hρ, rfl⟩
   refine st_es hρ ?_
   refine Z 4 rfl ?_
   exact hn4 _ _ _ _ h ⟨(hl4.trans hl5), rfl, rfl⟩
  refine Z 11 rfl ?_
  refine o_lenI rfl rfl rfl z_slT42 rfl (hs2.up hl4) ?_
  refine Z 2 rfl ?_
  refine st_if rfl h (fun h => ?_) (fun h => ?_)
  ·refine Z 6 rfl ?_
   obtain rfl := he4 _ h
   replace h := hA4
   obtain rfl := Eq.symm h
   exact st_ret (gs' := []) Tryz.func79 rfl (List.Sublist.refl _) hl4 ⟨rfl, rfl⟩
  ·refine Z 5 rfl ?_
   obtain ⟨q6, hf7, h⟩ := h
   refine o_index rfl rfl rfl z_slT42 rfl rfl (hs2.up hl4) rfl hf7 (fun b8 of9 vs hc10 hrep => ?_)
   obtain rfl := hrep
   refine o_loadI (v := .int .u8 q6) rfl rfl rfl z_sc5 rfl (hc10 0 _ rfl) ?_
   refine Z 10 rfl ?_
   obtain ⟨hf11, h⟩ := h
   refine o_shl rfl rfl rfl rfl rfl hf11 ?_
   refine Z 8 rfl ?_
   obtain ⟨q12, hf13, h⟩ := h
   refine o_index rfl rfl rfl z_slT42 rfl rfl (hs2.up hl4) rfl hf13 (fun b14 of15 vs hc16 hrep => ?_)
   obtain rfl := hrep
   refine o_loadI (v := .int .u8 q12) rfl rfl rfl z_sc5 rfl (hc16 0 _ rfl) ?_
   refine Z 2 rfl ?_
   refine st_if rfl h (fun h => ?_) (fun h => ?_)
   ·refine st_exit rfl ?_
    exact hk5 _ _ _ ⟨(ior .u64 s4.1 (ishl .u64 (IntKind.u64.wrap (q6.tmod 128)) (IntKind.i64.wrap (7 * s4.2)))), h, (Sto.Le.refl _), rfl, rfl⟩
   ·refine Z 3 rfl ?_
    refine st_cut (fun ρ τ17 gs => ∃ (s17 : Bool), varint_Get_j4 s4 q6 s17 o4 ∧ τ4.Le τ17 ∧ ESub ρ [(0, v1), (2, .int .u64 0), (3, .I 0), (4, .I 0), (5, .int .u64 (ior .u64 s4.1 (ishl .u64 (IntKind.u64.wrap (q6.tmod 128)) (IntKind.i64.wrap (7 * s4.2))))), (8, .I s4.2), (6, .I s4.2), (48, .bool s17)] ∧ gs = []) ?_ (fun hk17 => ?_)
    ·rintro ρ17 τ17 gs17 ⟨s17, h, hl17, hρ, rfl⟩
     refine st_es hρ ?_
     refine st_if rfl h (fun h => ?_) (fun h => ?_)
     ·refine st_exit rfl ?_
      obtain rfl := he4 _ h
      replace h := hA4
      exact hk3 _ _ _ ⟨(), h, (hl4.trans hl17), rfl, rfl⟩
     ·refine Z 10 rfl ?_
      obtain rfl := he4 _ h
      replace h := hA4
      obtain rfl := Eq.symm h
      exact st_ret (gs' := []) Tryz.func79 rfl (List.Sublist.refl _) (hl4.trans hl17) ⟨rfl, rfl⟩
    refine Z 3 rfl ?_
    refine o_mif rfl rfl rfl rfl h (fun h => ?_) (fun h => ?_)
    ·refine Z 3 rfl ?_
     refine o_mif rfl rfl rfl rfl h (fun h => ?_) (fun h => ?_)
     ·refine Z 11 rfl ?_
      exact hk17 _ _ _ ⟨true, h, (Sto.Le.refl _), rfl, rfl⟩
     ·refine Z 3 rfl ?_
      obtain ⟨hf18, h⟩ := h
      refine o_shl rfl rfl rfl rfl rfl hf18 ?_
      refine Z 2 rfl ?_
      obtain ⟨hf19, h⟩ := h
      refine o_shr rfl rfl rfl rfl rfl hf19 ?_
      refine Z 4 rfl ?_
      exact hk17 _ _ _ ⟨(!(decide ((ishr .u64 (ishl .u64 (IntKind.u64.wrap (q6.tmod 128)) (IntKind.i64.wrap (7 * s4.2))) (IntKind.i64.wrap (7 * s4.2))) = (IntKind.u64.wrap (q6.tmod 128))))), h, (Sto.Le.refl _), rfl, rfl⟩
    ·refine Z 7 rfl ?_
     obtain ⟨hf20, h⟩ := h
     refine o_shl rfl rfl rfl rfl rfl hf20 ?_
     refine Z 2 rfl ?_
     obtain ⟨hf21, h⟩ := h
     refine o_shr rfl rfl rfl rfl rfl hf21 ?_
     refine Z 4 rfl ?_
     exact hk17 _ _ _ ⟨(!(decide ((ishr .u64 (ishl .u64 (IntKind.u64.wrap (q6.tmod 128)) (IntKind.i64.wrap (7 * s4.2))) (IntKind.i64.wrap (7 * s4.2))) = (IntKind.u64.wrap (q6.tmod 128))))), h, (Sto.Le.refl _), rfl, rfl⟩
 ·refine st_exit rfl ?_
  obtain rfl := he4 _ h
  replace h := hA4
  exact hk3 _ _ _ ⟨(), h, hl4, rfl, rfl⟩
theorem lens_Lens_Field_1_ok {a0 : List Int} {c0 : Int} {c1 : List Int} {v1 : Value} {bc0 : Nat} {bc1 : Nat} {v3 : Value} {g4 : Grp} {r : Int × Int × List Int} (h : lens_Lens_Field_1 a0 c0 c1 r) (σ : Sto) (hs2 : Sl (kI .u8) σ v1 a0) (ho5 : Ow (kI .u8) 5 σ v3 c1 g4) :
    Does Tryz.prog 78 [v1, .Pb bc0, .Pb bc1] σ [[(bc0, .cells [.I c0].toArray 3 (0, 0))], [(bc1, .cells [v3].toArray 42 (0, 0))], g4] (fun v τ gs => ∃ (v26 : Value) (g27 : Grp), gs = [[(bc0, .cells [.I c0].toArray 3 (0, 0))], [(bc1, .cells [v26].toArray 42 (0, 0))], g27] ∧ .tuple [.I r.1, .I r.2.1].toArray = v ∧ Ow (kI .u8) 5 τ v26 r.2.2 g27) := by
 refine call_of Tryz.func78 Tryz.ntmps78 rfl rfl (fun cs fs => ?_)
 refine Z 8 rfl ?_
 obtain ⟨r6, hr7, h⟩ := h
 refine st_call (foot := []) rfl rfl rfl rfl rfl rfl (callV_fn z_en79 (varint_Get_ok hr7 σ hs2)) ?_
 rintro vτ8 τ8 gsτ8 hl9 ⟨rfl, rfl⟩
 refine Z 16 rfl ?_
 refine st_if rfl h (fun h => ?_) (fun h => ?_)
 ·refine Z 6 rfl ?_
  obtain rfl := Eq.symm h
  exact st_ret (gs' := [[(bc0, .cells #[.I c0] 3 (0, 0))], [(bc1, .cells #[v3] 42 (0, 0))], g4]) Tryz.func78 rfl (List.Sublist.refl _) hl9 ⟨_, _, rfl, rfl, (ho5.up hl9)⟩
 ·refine ZZ 9 [0] rfl rfl ?_
  refine st_if rfl h (fun h => ?_) (fun h => ?_)
  ·refine Z 5 rfl ?_
   obtain rfl := Eq.symm h
   exact st_ret (gs' := [[(bc0, .cells #[.I c0] 3 (0, 0))], [(bc1, .cells #[v3] 42 (0, 0))], g4]) Tryz.func78 rfl (List.Sublist.refl _) hl9 ⟨_, _, rfl, rfl, (ho5.up hl9)⟩
  ·refine Z 4 rfl ?_
   refine o_lenI rfl rfl rfl z_slT42 rfl (hs2.up hl9) ?_
   refine Z 6 rfl ?_
   refine st_if rfl h (fun h => ?_) (fun h => ?_)
   ·refine Z 5 rfl ?_
    obtain rfl := Eq.symm h
    exact st_ret (gs' := [[(bc0, .cells #[.I c0] 3 (0, 0))], [(bc1, .cells #[v3] 42 (0, 0))], g4]) Tryz.func78 rfl (List.Sublist.refl _) hl9 ⟨_, _, rfl, rfl, (ho5.up hl9)⟩
   ·refine Z 11 rfl ?_
    obtain ⟨hf10, hf11, hf12, hf13, hf14, hf20, hf21, h⟩ := h
    refine st_d41 [[(bc0, .cells #[.I c0] 3 (0, 0))]] [[(bc1, .cells #[v3] 42 (0, 0))], g4] 7 2 [some (0, 0), none, none, none, none, none, some (0, 1)] [none, none, none, none, none, none, none] [[none, some 38, some 44]] [.v (v3), .v (v1), .v (.I r6.2.1), .v (.I (IntKind.i64.wrap (r6.2.1 + (IntKind.i64.wrap r6.1)))), .v (.I (IntKind.i64.wrap (r6.2.1 + (IntKind.i64.wrap r6.1)))), .t fun τ v => ∃ (v15 : Value), (v15 : Value) = v ∧ Sl (kI .u8) τ v15 ((a0.drop r6.2.1.toNat).take (((IntKind.i64.wrap (r6.2.1 + (IntKind.i64.wrap r6.1))) : Int) - r6.2.1).toNat), .t fun _ _ => True] [[fun τ u F => F = [[(bc1, .cells #[v3] 42 (0, 0))], g4], fun τ u F => F = [[(bc1, .cells #[v3] 42 (0, 0))], g4], fun τ u F => ∃ (v22 : Value) (g23 : Grp), F = [g23, [(bc1, .cells #[v3] 42 (0, 0))]] ∧ v22 = u ∧ Ow (kI .u8) 5 τ v22 (c1 ++ ((a0.drop r6.2.1.toNat).take (((IntKind.i64.wrap (r6.2.1 + (IntKind.i64.wrap r6.1))) : Int) - r6.2.1).toNat)) g23]] rfl z_mix rfl ⟨fun _ _ _ hl ⟨v15, hv, hs16⟩ => ⟨v15, hv, hs16.up hl⟩, ⟨fun _ _ _ _ _ => trivial, trivial⟩⟩ ⟨⟨fun _ _ _ _ hl h => h, ⟨fun _ _ _ _ hl h => h, ⟨fun _ _ _ _ hl h => (let ⟨v22, g23, hF, hU, ho24⟩ := h; ⟨v22, g23, hF, hU, ho24.up hl⟩), trivial⟩⟩⟩, trivial⟩ rfl rfl ?_ (allB_cons (allB_cons (allB_cons (allB_cons (allB_cons (allB_cons (allB_cons allB_nil ?_) (p4 dA)) (p4 dA)) (p4 dA)) (p4 dA)) ?_) ?_) ?_
    ·exact rfl
    ·intro ρ' τ u Fv pool rs hl hI hu hd hout hw hk
     have hI0 := hI
     obtain rfl := hI
     refine o_load (j := 1) (v := v3) rfl rfl rfl z_sc42 ((hout 2 rfl).trans rfl) rfl rfl ?_
     exact hk _ _ [[(bc1, .cells #[v3] 42 (0, 0))], g4] (Sto.Le.refl _) rfl (by exact hI0)
    ·intro ρ' τ pool rs hl hd hout hw hk
     obtain ⟨_, e1, rfl⟩ := hd 1 rfl _ rfl
     obtain ⟨_, e2, rfl⟩ := hd 2 rfl _ rfl
     obtain ⟨_, e3, rfl⟩ := hd 3 rfl _ rfl
     obtain ⟨_, e4, rfl⟩ := hd 4 rfl _ rfl
     refine o_slice (L := r6.2.1) (H := (IntKind.i64.wrap (r6.2.1 + (IntKind.i64.wrap r6.1)))) rfl rfl rfl z_slT42 rfl e1 (hs2.up (hl9.trans hl)) ⟨_, e2⟩ ⟨_, e3⟩ hf10 hf11 hf12 ⟨_, _, e4, hf13, hf14⟩ (by simp) (fun v15 hs16 => ?_)
     exact hk _ _ (Sto.Le.refl _) ⟨v15, rfl, hs16⟩
    ·intro ρ' τ u Fv pool rs hl hI hu hd hout hw hk
     obtain ⟨_, e0, rfl⟩ := hd 0 rfl _ rfl
     obtain ⟨_, e5, v15, rfl, hs16⟩ := hd 5 rfl _ rfl
     have hI0 := hI
     obtain rfl := hI
     refine st_ord [2, 0, 0, 0] _ rfl ?_
     refine o_append (dk := (kI .u8)) (xs := c1) (ys := ((a0.drop r6.2.1.toNat).take (((IntKind.i64.wrap (r6.2.1 + (IntKind.i64.wrap r6.1))) : Int) - r6.2.1).toNat)) rfl rfl rfl rfl z_slT42 e0 (ho5.up (hl9.trans hl)) e5 (Sl.src hs16) hf20 hf21 (fun v17 g18 ho19 => ?_)
     refine st_ord [1, 0, 0, 0] _ rfl ?_
     exact hk _ _ [g18, [(bc1, .cells #[v3] 42 (0, 0))]] (Sto.Le.refl _) trivial (by exact ⟨v17, g18, rfl, rfl, ho19⟩)
    intro ρ' τ25 vals u Fv hl25 hI hu hv hout
    obtain ⟨v22, g23, rfl, rfl, ho24⟩ := hI
    refine st_env (ρ' := [(2, .Pb bc1), (4, .I 0), (5, .I 0), (9, .I (IntKind.i64.wrap (r6.2.1 + (IntKind.i64.wrap r6.1)))), (44, v22)]) ⟨(hout 2 rfl).trans rfl, (hout 4 rfl).trans rfl, (hout 5 rfl).trans rfl, (hout 9 rfl).trans rfl, (by exact hu _ rfl), trivial⟩ ?_
    refine o_store (j := 2) (vs := [v22]) (cs' := [v22]) rfl rfl rfl z_size42 rfl rfl (oneL_ow ho24) (ones_cons ho24.one' ones_nil) rfl rfl rfl ?_
    refine Z 7 rfl ?_
    refine st_ord [0, 1, 0] _ rfl ?_
    obtain rfl := Eq.symm h
    exact st_ret (gs' := [[(bc0, .cells #[.I c0] 3 (0, 0))], [(bc1, .cells #[v22] 42 (0, 0))], g23]) Tryz.func78 rfl (List.Sublist.refl _) (hl9.trans hl25) ⟨_, _, rfl, rfl, ho24⟩
theorem lens_Lens_read__lens_Lens_Field_1_ok {a0 : List Int × Int × Int} {a1_0 : Int} {a1_1 : List Int} {ba0 : Nat} {v1 : Value} {ba1_0 : Nat} {ba1_1 : Nat} {v3 : Value} {g4 : Grp} {r : Bool × (List Int × Int × Int) × List Int} (h : lens_Lens_read__lens_Lens_Field_1 a0 a1_0 a1_1 r) (σ : Sto) (hs2 : Sl (kI .u8) σ v1 a0.1) (ho5 : Ow (kI .u8) 5 σ v3 a1_1 g4) :
    Does Tryz.prog 77 [.Pb ba0, .func (.func 78) #[] [.Pb ba1_0, .Pb ba1_1].toArray] σ [[(ba0, .cells [v1, .I a0.2.1, .I a0.2.2].toArray 137 (0, 0))], [(ba1_0, .cells [.I a1_0].toArray 3 (0, 0))], [(ba1_1, .cells [v3].toArray 42 (0, 0))], g4] (fun v τ gs => ∃ (v19 : Value) (v21 : Value) (g22 : Grp), gs = [[(ba0, .cells [v19, .I r.2.1.2.1, .I r.2.1.2.2].toArray 137 (0, 0))], [(ba1_0, .cells [.I a1_0].toArray 3 (0, 0))], [(ba1_1, .cells [v21].toArray 42 (0, 0))], g22] ∧ .bool r.1 = v ∧ Sl (kI .u8) τ v19 r.2.1.1 ∧ Ow (kI .u8) 5 τ v21 r.2.2 g22) := by
 refine call_of Tryz.func77 Tryz.ntmps77 rfl rfl (fun cs fs => ?_)
 refine ZZ 17 [0] rfl rfl ?_
 refine st_if rfl h (fun h => ?_) (fun h => ?_)
 ·refine Z 4 rfl ?_
  obtain rfl := Eq.symm h
  exact st_ret (gs' := [[(ba0, .cells #[v1, .I a0.2.1, .I a0.2.2] 137 (0, 0))], [(ba1_0, .cells #[.I a1_0] 3 (0, 0))], [(ba1_1, .cells #[v3] 42 (0, 0))], g4]) Tryz.func77 rfl (List.Sublist.refl _) (Sto.Le.refl _) ⟨_, _, _, rfl, rfl, hs2, ho5⟩
 ·refine Z 5 rfl ?_
  obtain ⟨r6, hr7, h⟩ := h
  refine st_call (foot := [[(ba0, .cells #[v1, .I a0.2.1, .I a0.2.2] 137 (0, 0))]]) rfl rfl rfl rfl rfl rfl (callV_fn z_en76 (lens_Lens_left_ok hr7 σ hs2)) ?_
  rintro vτ8 τ8 gsτ8 hl9 ⟨v10, rfl, rfl, hs11⟩
  obtain ⟨r12, hr13, h⟩ := h
  refine st_ord [1, 1, 1, 0] _ rfl ?_
  refine st_call (foot := [[(ba1_0, .cells #[.I a1_0] 3 (0, 0))], [(ba1_1, .cells #[v3] 42 (0, 0))], g4]) rfl rfl rfl rfl rfl rfl (callV_of2 (caps := [.Pb ba1_0, .Pb ba1_1]) z_en78 (lens_Lens_Field_1_ok hr13 τ8 hs11 (ho5.up hl9)) rfl) ?_
  rintro vτ14 τ14 gsτ14 hl15 ⟨v16, g17, rfl, rfl, ho18⟩
  refine Z 12 rfl ?_
  refine st_if rfl h (fun h => ?_) (fun h => ?_)
  ·refine ZZ 12 [3] rfl rfl ?_
   refine st_ord [3, 0, 0, 0] _ rfl ?_
   obtain rfl := Eq.symm h
   exact st_ret (gs' := [[(ba0, .cells #[v1, .I a0.2.1, .I r12.2.1] 137 (0, 0))], [(ba1_0, .cells #[.I a1_0] 3 (0, 0))], [(ba1_1, .cells #[v16] 42 (0, 0))], g17]) Tryz.func77 rfl (List.Sublist.refl _) (hl9.trans hl15) ⟨_, _, _, rfl, rfl, (hs2.up (hl9.trans hl15)), ho18⟩
  ·refine ZZ 17 [3, 3] rfl rfl ?_
   refine st_ord [3, 0, 0, 0] _ rfl ?_
   obtain rfl := Eq.symm h
   exact st_ret (gs' := [[(ba0, .cells #[v1, .I (IntKind.i64.wrap (a0.2.1 + r12.1)), .I a0.2.2] 137 (0, 0))], [(ba1_0, .cells #[.I a1_0] 3 (0, 0))], [(ba1_1, .cells #[v16] 42 (0, 0))], g17]) Tryz.func77 rfl (List.Sublist.refl _) (hl9.trans hl15) ⟨_, _, _, rfl, rfl, (hs2.up (hl9.trans hl15)), ho18⟩
theorem lens_Lens_Field_ok {a0 : List Int × Int × Int} {a1 : Int} {ba0 : Nat} {v1 : Value} {r : List Int × (List Int × Int × Int)} (h : lens_Lens_Field a0 a1 r) (σ : Sto) (hs2 : Sl (kI .u8) σ v1 a0.1) :
    Does Tryz.prog 62 [.Pb ba0, .I a1] σ [[(ba0, .cells [v1, .I a0.2.1, .I a0.2.2].toArray 137 (0, 0))]] (fun v τ gs => ∃ (v20 : Value) (v22 : Value), gs = [[(ba0, .cells [v22, .I r.2.2.1, .I r.2.2.2].toArray 137 (0, 0))]] ∧ v20 = v ∧ Sl (kI .u8) τ v20 r.1 ∧ Sl (kI .u8) τ v22 r.2.1) := by
 refine call_of Tryz.func62 Tryz.ntmps62 rfl rfl (fun cs fs => ?_)
 refine Z 2 rfl ?_
 refine o_boxC rfl rfl rfl rfl rfl rfl (fun b3 => ?_)
 refine Z 4 rfl ?_
 refine o_alloc rfl rfl rfl z_zero42 (fun b4 => ?_)
 refine Z 5 rfl ?_
 obtain ⟨r5, hr6, h⟩ := h
 refine st_addNil ?_
 refine st_ord [3, 2, 1, 0] _ rfl ?_
 refine st_call (foot := [[(ba0, .cells #[v1, .I a0.2.1, .I a0.2.2] 137 (0, 0))], [(b3, .cells #[.I a1] 3 (0, 0))], [(b4, .cells #[.N0] 42 (0, 0))], []]) rfl rfl rfl rfl rfl rfl (callV_fn z_en77 (lens_Lens_read__lens_Lens_Field_1_ok hr6 σ hs2 Ow.nil)) ?_
 rintro vτ7 τ7 gsτ7 hl8 ⟨v9, v11, g12, rfl, rfl, hs10, ho13⟩
 refine ZZ 6 [2] rfl rfl ?_
 refine st_ord [3, 0, 0, 0] _ rfl ?_
 refine st_freeze (fun τ14 hl15 hg16 => ?_)
 have hs17 := ho13.freeze hl15 hg16
 refine st_ord [0] _ rfl ?_
 obtain rfl := Eq.symm h
 exact st_ret (gs' := [[(ba0, .cells #[v9, .I r5.2.1.2.1, .I r5.2.1.2.2] 137 (0, 0))]]) Tryz.func62 rfl (List.Sublist.refl _) (hl8.trans hl15) ⟨_, _, rfl, rfl, hs17, (hs10.up hl15)⟩
theorem lens_Lens_Err_ok {a0 : List Int × Int × Int} {ba0 : Nat} {v1 : Value} {r : Int} (h : lens_Lens_Err a0 r) (σ : Sto) (hs2 : Sl (kI .u8) σ v1 a0.1) :
    Does Tryz.prog 63 [.Pb ba0] σ [[(ba0, .cells [v1, .I a0.2.1, .I a0.2.2].toArray 137 (0, 0))]] (fun v τ gs => gs = [[(ba0, .cells [v1, .I a0.2.1, .I a0.2.2].toArray 137 (0, 0))]] ∧ .I r = v) := by
 refine call_of Tryz.func63 Tryz.ntmps63 rfl rfl (fun cs fs => ?_)
 refine ZZ 20 [0] rfl rfl ?_
 obtain rfl := Eq.symm h
 exact st_ret (gs' := [[(ba0, .cells #[v1, .I a0.2.1, .I a0.2.2] 137 (0, 0))]]) Tryz.func63 rfl (List.Sublist.refl _) (Sto.Le.refl _) ⟨rfl, rfl⟩
theorem slices_Backward_byte_byte_1_ok {c0 : List Int} {bc0 : Nat} {v1 : Value} {σ0 : Sto} (hc0_0 : Cel σ0 ⟨bc0, 0, none⟩ (v1)) (hs2 : Sl (kI .u8) σ0 v1 c0) :
    IterV Tryz.prog (fun _ x vx => vx = [.I x.1, .int .u8 x.2]) (.func (.func 118) #[] [.Pb bc0].toArray) σ0 [] (fun (_ : Unit) _ f => f = []) (slices_Backward_byte_byte_1 c0) := by
 intro S Y I y hyc hyo hIm hY s s' o hR σ g hle hIg
 obtain ⟨r, hr0⟩ : ∃ r, r = (s', o) := ⟨_, rfl⟩
 rw [← hr0] at hR
 have h := hR
 refine callV_of (caps := [.Pb bc0]) z_en118 ?_
 refine call_of Tryz.func118 Tryz.ntmps118 rfl rfl (fun cs fs => ?_)
 refine st_ord [0] _ rfl ?_
 refine Z 2 rfl ?_
 refine o_loadI (v := v1) rfl rfl rfl z_sc42 rfl (Cel.up hc0_0 hle) ?_
 refine o_lenI rfl rfl rfl z_slT42 rfl (hs2.up hle) ?_
 refine Z 3 rfl ?_
 obtain ⟨e3, hL3, hA3⟩ := h
 refine st_loop hL3 (fun (s3 : S × Int) ρ τ3 gs => σ.Le τ3 ∧ ∃ (g4 : Grp), ESub ρ [(0, y), (1, .Pb bc0), (3, .I s3.2)] ∧ gs = [g4] ∧ I s3.1 τ3 g4) ⟨Sto.Le.refl _, g, rfl, rfl, hIg⟩ ?_
 rintro s3 o3 h he3 ρ3 τ3 gs3 ⟨hl3, g4, hρ, rfl, hI5⟩ hn3
 refine st_es hρ ?_
 refine Z 6 rfl ?_
 refine st_if rfl h (fun h => ?_) (fun h => ?_)
 ·refine Z 7 rfl ?_
  refine o_loadI (v := v1) rfl rfl rfl z_sc42 rfl (Cel.up hc0_0 (hle.trans hl3)) ?_
  refine o_move rfl rfl rfl rfl ?_
  obtain ⟨q6, hf7, h⟩ := h
  refine o_index rfl rfl rfl z_slT42 rfl rfl (hs2.up (hle.trans hl3)) rfl hf7 (fun b8 of9 vs hc10 hrep => ?_)
  obtain rfl := hrep
  refine o_loadI (v := .int .u8 q6) rfl rfl rfl z_sc5 rfl (hc10 0 _ rfl) ?_
  obtain ⟨y11, u12, hy13, h⟩ := h
  refine st_call (foot := [g4]) rfl rfl rfl rfl rfl rfl (hY (s3.2, q6) s3.1 _ _ _ _ _ (hle.trans hl3) hy13 rfl hI5) ?_
  rintro vτ14 τ14 gsτ14 hl15 ⟨rfl, g16, rfl, hI17⟩
  refine Z 2 rfl ?_
  refine st_if rfl h (fun h => ?_) (fun h => ?_)
  ·obtain rfl := he3 _ h
   replace h := hA3
   obtain rfl := Eq.symm h
   cases hr0
   exact st_ret (gs' := [g16, []]) Tryz.func118 rfl (by simp) (hl3.trans hl15) ⟨g16, _, rfl, hI17, rfl⟩
  ·refine Z 7 rfl ?_
   exact hn3 _ _ _ _ h ⟨(hl3.trans hl15), g16, rfl, rfl, hI17⟩
 ·refine st_exit rfl ?_
  obtain rfl := he3 _ h
  replace h := hA3
  obtain rfl := Eq.symm h
  cases hr0
  exact st_fin (gs' := [g4, []]) Tryz.func118 rfl (by simp) hl3 ⟨g4, _, rfl, hI5, rfl⟩
theorem slices_Backward_byte_byte_ok {a0 : List Int} {v1 : Value} {r : (((S : Type) → ((Int × Int) → S → Bool × S → Prop) → S → S × Unit → Prop))} (h : slices_Backward_byte_byte a0 r) (σ : Sto) (hs2 : Sl (kI .u8) σ v1 a0) :
    Does Tryz.prog 108 [v1] σ [] (fun v τ gs => ∃ (f7 : Nat) (q8 : Array Value), gs = [] ∧ .func (.func f7) #[] q8 = v ∧ IterV Tryz.prog (fun _ x vx => vx = [.I x.1, .int .u8 x.2]) (.func (.func f7) #[] q8) τ [] (fun (_ : Unit) _ f => f = []) r) := by
 refine call_of Tryz.func108 Tryz.ntmps108 rfl rfl (fun cs fs => ?_)
 refine Z 2 rfl ?_
 refine o_box (cs := [v1]) rfl rfl rfl rfl (oneL_sl hs2) (fun b3 => ?_)
 refine Z 4 rfl ?_
 refine st_freeze (fun τ4 hl5 hg6 => ?_)
 refine Z 3 rfl ?_
 obtain rfl := Eq.symm h
 exact st_ret (gs' := []) Tryz.func108 rfl (List.Sublist.refl _) hl5 ⟨_, _, rfl, rfl, (slices_Backward_byte_byte_1_ok (cel_of hg6 rfl) (hs2.up hl5))⟩
theorem lens_Lens_word_1_ok {a0 : List Int} {c0 : Int} {c1 : Int} {v1 : Value} {bc0 : Nat} {bc1 : Nat} {r : Int × Int × Int} (h : lens_Lens_word_1 a0 c0 c1 r) (σ : Sto) (hs2 : Sl (kI .u8) σ v1 a0) :
    Does Tryz.prog 107 [v1, .Pb bc0, .Pb bc1] σ [[(bc0, .cells [.I c0].toArray 3 (0, 0))], [(bc1, .cells [.int .u32 c1].toArray 24 (0, 0))]] (fun v τ gs => gs = [[(bc0, .cells [.I c0].toArray 3 (0, 0))], [(bc1, .cells [.int .u32 r.2.2].toArray 24 (0, 0))]] ∧ .tuple [.I r.1, .I r.2.1].toArray = v) := by
 refine call_of Tryz.func107 Tryz.ntmps107 rfl rfl (fun cs fs => ?_)
 refine Z 9 rfl ?_
 refine o_lenI rfl rfl rfl z_slT42 rfl hs2 ?_
 refine ZZ 3 [0] rfl rfl ?_
 refine st_if rfl h (fun h => ?_) (fun h => ?_)
 ·refine Z 5 rfl ?_
  obtain rfl := Eq.symm h
  exact st_ret (gs' := [[(bc0, .cells #[.I c0] 3 (0, 0))], [(bc1, .cells #[.int .u32 c1] 24 (0, 0))]]) Tryz.func107 rfl (List.Sublist.refl _) (Sto.Le.refl _) ⟨rfl, rfl⟩
 ·refine ZZ 6 [0] rfl rfl ?_
  obtain ⟨hf3, hf4, h⟩ := h
  refine o_slice (L := 0) (H := c0) rfl rfl rfl z_slT42 rfl rfl hs2 rfl ⟨_, rfl⟩ (by decide) hf3 hf4 trivial (by simp) (fun v5 hs6 => ?_)
  obtain ⟨r7, hr8, h⟩ := h
  refine st_call (foot := []) rfl rfl rfl rfl rfl rfl (callV_fn z_en108 (slices_Backward_byte_byte_ok hr8 σ hs6)) ?_
  rintro vτ9 τ9 gsτ9 hl10 ⟨f11, q12, rfl, rfl, hit13⟩
  refine Z 2 rfl ?_
  obtain ⟨t14, w14, hR14, hA14⟩ := h
  refine st_env (ρ' := [(1, .Pb bc0), (2, .Pb bc1), (4, .I 0), (5, .I 0), (15, .func (.func f11) #[] q12)]) ⟨rfl, rfl, rfl, rfl, rfl, trivial⟩ ?_
  refine st_addNil ?_
  refine st_range (B := lens_Lens_word_1_l1) (s0 := c1) ranges_fctx rfl hit13 (Sto.Le.refl _) hR14 rfl (fun _ _ _ h => by cases h; rfl) (fun (s14 : Int) τ14 gs => τ9.Le τ14 ∧ gs = [[(bc0, .cells #[.I c0] 3 (0, 0))], [(bc1, .cells #[.int .u32 s14] 24 (0, 0))]]) (fun _ _ _ _ => False) (fun _ _ _ _ hl ⟨hb, hg⟩ => ⟨hb.trans hl, hg⟩) (fun _ _ _ _ _ _ h => h.elim) ⟨Sto.Le.refl _, rfl⟩ ?_ ?_ ?_
  ·rintro x14 s14 o14 τ14 gs14 vx14 hl14 h rfl ⟨hb14, rfl⟩ l14 rc14 caller14 cs14 fs14
   refine Z 3 rfl ?_
   refine st_begin ?_
   refine ZZ 10 [1, 1] rfl rfl ?_
   exact st_rend (List.Sublist.refl _) (Sto.Le.refl _) ⟨_, h, hl14, rfl⟩
  ·rintro p15 τ16 gs14 f14 ht hl17 ⟨hb, rfl⟩ rfl
   subst ht
   replace h := hA14
   refine st_ord [1, 1] _ rfl ?_
   refine ZZ 7 [0] rfl rfl ?_
   obtain rfl := Eq.symm h
   exact st_ret (gs' := [[(bc0, .cells #[.I c0] 3 (0, 0))], [(bc1, .cells #[.int .u32 p15] 24 (0, 0))]]) Tryz.func107 rfl (List.Sublist.refl _) (hl10.trans hl17) ⟨rfl, rfl⟩
  ·exact fun _ _ _ _ _ _ _ h => h.elim
theorem lens_Lens_read__lens_Lens_word_1_ok {a0 : List Int × Int × Int} {a1_0 : Int} {a1_1 : Int} {ba0 : Nat} {v1 : Value} {ba1_0 : Nat} {ba1_1 : Nat} {r : Bool × (List Int × Int × Int) × Int} (h : lens_Lens_read__lens_Lens_word_1 a0 a1_0 a1_1 r) (σ : Sto) (hs2 : Sl (kI .u8) σ v1 a0.1) :
    Does Tryz.prog 77 [.Pb ba0, .func (.func 107) #[] [.Pb ba1_0, .Pb ba1_1].toArray] σ [[(ba0, .cells [v1, .I a0.2.1, .I a0.2.2].toArray 137 (0, 0))], [(ba1_0, .cells [.I a1_0].toArray 3 (0, 0))], [(ba1_1, .cells [.int .u32 a1_1].toArray 24 (0, 0))]] (fun v τ gs => ∃ (v13 : Value), gs = [[(ba0, .cells [v13, .I r.2.1.2.1, .I r.2.1.2.2].toArray 137 (0, 0))], [(ba1_0, .cells [.I a1_0].toArray 3 (0, 0))], [(ba1_1, .cells [.int .u32 r.2.2].toArray 24 (0, 0))]] ∧ .bool r.1 = v ∧ Sl (kI .u8) τ v13 r.2.1.1) := by
 refine call_of Tryz.func77 Tryz.ntmps77 rfl rfl (fun cs fs => ?_)
 refine ZZ 17 [0] rfl rfl ?_
 refine st_if rfl h (fun h => ?_) (fun h => ?_)
 ·refine Z 4 rfl ?_
  obtain rfl := Eq.symm h
  exact st_ret (gs' := [[(ba0, .cells #[v1, .I a0.2.1, .I a0.2.2] 137 (0, 0))], [(ba1_0, .cells #[.I a1_0] 3 (0, 0))], [(ba1_1, .cells #[.int .u32 a1_1] 24 (0, 0))]]) Tryz.func77 rfl (List.Sublist.refl _) (Sto.Le.refl _) ⟨_, rfl, rfl, hs2⟩
 ·refine Z 5 rfl ?_
  obtain ⟨r3, hr4, h⟩ := h
  refine st_call (foot := [[(ba0, .cells #[v1, .I a0.2.1, .I a0.2.2] 137 (0, 0))]]) rfl rfl rfl rfl rfl rfl (callV_fn z_en76 (lens_Lens_left_ok hr4 σ hs2)) ?_
  rintro vτ5 τ5 gsτ5 hl6 ⟨v7, rfl, rfl, hs8⟩
  obtain ⟨r9, hr10, h⟩ := h
  refine st_ord [1, 1, 0] _ rfl ?_
  refine st_call (foot := [[(ba1_0, .cells #[.I a1_0] 3 (0, 0))], [(ba1_1, .cells #[.int .u32 a1_1] 24 (0, 0))]]) rfl rfl rfl rfl rfl rfl (callV_of2 (caps := [.Pb ba1_0, .Pb ba1_1]) z_en107 (lens_Lens_word_1_ok hr10 τ5 hs8) rfl) ?_
  rintro vτ11 τ11 gsτ11 hl12 ⟨rfl, rfl⟩
  refine Z 12 rfl ?_
  refine st_if rfl h (fun h => ?_) (fun h => ?_)
  ·refine ZZ 12 [2] rfl rfl ?_
   refine st_ord [2, 0, 0] _ rfl ?_
   obtain rfl := Eq.symm h
   exact st_ret (gs' := [[(ba0, .cells #[v1, .I a0.2.1, .I r9.2.1] 137 (0, 0))], [(ba1_0, .cells #[.I a1_0] 3 (0, 0))], [(ba1_1, .cells #[.int .u32 r9.2.2] 24 (0, 0))]]) Tryz.func77 rfl (List.Sublist.refl _) (hl6.trans hl12) ⟨_, rfl, rfl, (hs2.up (hl6.trans hl12))⟩
  ·refine ZZ 17 [2, 2] rfl rfl ?_
   refine st_ord [2, 0, 0] _ rfl ?_
   obtain rfl := Eq.symm h
   exact st_ret (gs' := [[(ba0, .cells #[v1, .I (IntKind.i64.wrap (a0.2.1 + r9.1)), .I a0.2.2] 137 (0, 0))], [(ba1_0, .cells #[.I a1_0] 3 (0, 0))], [(ba1_1, .cells #[.int .u32 r9.2.2] 24 (0, 0))]]) Tryz.func77 rfl (List.Sublist.refl _) (hl6.trans hl12) ⟨_, rfl, rfl, (hs2.up (hl6.trans hl12))⟩
theorem lens_Lens_word_ok {a0 : List Int × Int × Int} {a1 : Int} {ba0 : Nat} {v1 : Value} {r : Int × (List Int × Int × Int)} (h : lens_Lens_word a0 a1 r) (σ : Sto) (hs2 : Sl (kI .u8) σ v1 a0.1) :
    Does Tryz.prog 92 [.Pb ba0, .I a1] σ [[(ba0, .cells [v1, .I a0.2.1, .I a0.2.2].toArray 137 (0, 0))]] (fun v τ gs => ∃ (v11 : Value), gs = [[(ba0, .cells [v11, .I r.2.2.1, .I r.2.2.2].toArray 137 (0, 0))]] ∧ .int .u32 r.1 = v ∧ Sl (kI .u8) τ v11 r.2.1) := by
 refine call_of Tryz.func92 Tryz.ntmps92 rfl rfl (fun cs fs => ?_)
 refine Z 2 rfl ?_
 refine o_boxC rfl rfl rfl rfl rfl rfl (fun b3 => ?_)
 refine Z 4 rfl ?_
 refine o_alloc rfl rfl rfl z_zero24 (fun b4 => ?_)
 refine ZZ 6 [0] rfl rfl ?_
 obtain ⟨r5, hr6, h⟩ := h
 refine st_ord [2, 1, 0] _ rfl ?_
 refine st_call (foot := [[(ba0, .cells #[v1, .I a0.2.1, .I a0.2.2] 137 (0, 0))], [(b3, .cells #[.I a1] 3 (0, 0))], [(b4, .cells #[.int .u32 0] 24 (0, 0))]]) rfl rfl rfl rfl rfl rfl (callV_fn z_en77 (lens_Lens_read__lens_Lens_word_1_ok hr6 σ hs2)) ?_
 rintro vτ7 τ7 gsτ7 hl8 ⟨v9, rfl, rfl, hs10⟩
 refine ZZ 6 [2] rfl rfl ?_
 refine st_ord [0] _ rfl ?_
 obtain rfl := Eq.symm h
 exact st_ret (gs' := [[(ba0, .cells #[v9, .I r5.2.1.2.1, .I r5.2.1.2.2] 137 (0, 0))]]) Tryz.func92 rfl (List.Sublist.refl _) hl8 ⟨_, rfl, rfl, hs10⟩
theorem lens_Lens_U8_ok {a0 : List Int × Int × Int} {ba0 : Nat} {v1 : Value} {r : Int × (List Int × Int × Int)} (h : lens_Lens_U8 a0 r) (σ : Sto) (hs2 : Sl (kI .u8) σ v1 a0.1) :
    Does Tryz.prog 80 [.Pb ba0] σ [[(ba0, .cells [v1, .I a0.2.1, .I a0.2.2].toArray 137 (0, 0))]] (fun v τ gs => ∃ (v9 : Value), gs = [[(ba0, .cells [v9, .I r.2.2.1, .I r.2.2.2].toArray 137 (0, 0))]] ∧ .int .u8 r.1 = v ∧ Sl (kI .u8) τ v9 r.2.1) := by
 refine call_of Tryz.func80 Tryz.ntmps80 rfl rfl (fun cs fs => ?_)
 refine Z 7 rfl ?_
 obtain ⟨r3, hr4, h⟩ := h
 refine st_call (foot := [[(ba0, .cells #[v1, .I a0.2.1, .I a0.2.2] 137 (0, 0))]]) rfl rfl rfl rfl rfl rfl (callV_fn z_en92 (lens_Lens_word_ok hr4 σ hs2)) ?_
 rintro vτ5 τ5 gsτ5 hl6 ⟨v7, rfl, rfl, hs8⟩
 refine Z 3 rfl ?_
 obtain rfl := Eq.symm h
 exact st_ret (gs' := [[(ba0, .cells #[v7, .I r3.2.2.1, .I r3.2.2.2] 137 (0, 0))]]) Tryz.func80 rfl (List.Sublist.refl _) hl6 ⟨_, rfl, rfl, hs8⟩
theorem lens_Lens_U32_ok {a0 : List Int × Int × Int} {ba0 : Nat} {v1 : Value} {r : Int × (List Int × Int × Int)} (h : lens_Lens_U32 a0 r) (σ : Sto) (hs2 : Sl (kI .u8) σ v1 a0.1) :
    Does Tryz.prog 81 [.Pb ba0] σ [[(ba0, .cells [v1, .I a0.2.1, .I a0.2.2].toArray 137 (0, 0))]] (fun v τ gs => ∃ (v9 : Value), gs = [[(ba0, .cells [v9, .I r.2.2.1, .I r.2.2.2].toArray 137 (0, 0))]] ∧ .int .u32 r.1 = v ∧ Sl (kI .u8) τ v9 r.2.1) := by
 refine call_of Tryz.func81 Tryz.ntmps81 rfl rfl (fun cs fs => ?_)
 refine Z 7 rfl ?_
 obtain ⟨r3, hr4, h⟩ := h
 refine st_call (foot := [[(ba0, .cells #[v1, .I a0.2.1, .I a0.2.2] 137 (0, 0))]]) rfl rfl rfl rfl rfl rfl (callV_fn z_en92 (lens_Lens_word_ok hr4 σ hs2)) ?_
 rintro vτ5 τ5 gsτ5 hl6 ⟨v7, rfl, rfl, hs8⟩
 refine Z 2 rfl ?_
 obtain rfl := Eq.symm h
 exact st_ret (gs' := [[(ba0, .cells #[v7, .I r3.2.2.1, .I r3.2.2.2] 137 (0, 0))]]) Tryz.func81 rfl (List.Sublist.refl _) hl6 ⟨_, rfl, rfl, hs8⟩
theorem lens_Lens_Raw_1_ok {a0 : List Int} {c0 : Int} {c1 : List Int} {v1 : Value} {bc0 : Nat} {bc1 : Nat} {v3 : Value} {g4 : Grp} {r : Int × Int × List Int} (h : lens_Lens_Raw_1 a0 c0 c1 r) (σ : Sto) (hs2 : Sl (kI .u8) σ v1 a0) (ho5 : Ow (kI .u8) 5 σ v3 c1 g4) :
    Does Tryz.prog 116 [v1, .Pb bc0, .Pb bc1] σ [[(bc0, .cells [.I c0].toArray 3 (0, 0))], [(bc1, .cells [v3].toArray 42 (0, 0))], g4] (fun v τ gs => ∃ (v21 : Value) (g22 : Grp), gs = [[(bc0, .cells [.I c0].toArray 3 (0, 0))], [(bc1, .cells [v21].toArray 42 (0, 0))], g22] ∧ .tuple [.I r.1, .I r.2.1].toArray = v ∧ Ow (kI .u8) 5 τ v21 r.2.2 g22) := by
 refine call_of Tryz.func116 Tryz.ntmps116 rfl rfl (fun cs fs => ?_)
 refine ZZ 13 [0] rfl rfl ?_
 refine st_if rfl h (fun h => ?_) (fun h => ?_)
 ·refine Z 5 rfl ?_
  obtain rfl := Eq.symm h
  exact st_ret (gs' := [[(bc0, .cells #[.I c0] 3 (0, 0))], [(bc1, .cells #[v3] 42 (0, 0))], g4]) Tryz.func116 rfl (List.Sublist.refl _) (Sto.Le.refl _) ⟨_, _, rfl, rfl, ho5⟩
 ·refine ZZ 4 [0] rfl rfl ?_
  refine o_lenI rfl rfl rfl z_slT42 rfl hs2 ?_
  refine Z 3 rfl ?_
  refine st_if rfl h (fun h => ?_) (fun h => ?_)
  ·refine Z 5 rfl ?_
   obtain rfl := Eq.symm h
   exact st_ret (gs' := [[(bc0, .cells #[.I c0] 3 (0, 0))], [(bc1, .cells #[v3] 42 (0, 0))], g4]) Tryz.func116 rfl (List.Sublist.refl _) (Sto.Le.refl _) ⟨_, _, rfl, rfl, ho5⟩
  ·refine Z 3 rfl ?_
   obtain ⟨hf6, hf7, hf8, hf9, hf15, hf16, h⟩ := h
   refine st_d41 [[(bc0, .cells #[.I c0] 3 (0, 0))]] [[(bc1, .cells #[v3] 42 (0, 0))], g4] 6 2 [some (0, 0), none, none, none, none, some (0, 1)] [none, none, none, none, none, none] [[none, some 14, some 19]] [.v (v3), .v (v1), .v (.I c0), .v (.I c0), .t fun τ v => ∃ (v10 : Value), (v10 : Value) = v ∧ Sl (kI .u8) τ v10 ((a0.drop (0 : Int).toNat).take ((c0 : Int) - 0).toNat), .t fun _ _ => True] [[fun τ u F => F = [[(bc1, .cells #[v3] 42 (0, 0))], g4], fun τ u F => F = [[(bc1, .cells #[v3] 42 (0, 0))], g4], fun τ u F => ∃ (v17 : Value) (g18 : Grp), F = [g18, [(bc1, .cells #[v3] 42 (0, 0))]] ∧ v17 = u ∧ Ow (kI .u8) 5 τ v17 (c1 ++ ((a0.drop (0 : Int).toNat).take ((c0 : Int) - 0).toNat)) g18]] rfl z_mix rfl ⟨fun _ _ _ hl ⟨v10, hv, hs11⟩ => ⟨v10, hv, hs11.up hl⟩, ⟨fun _ _ _ _ _ => trivial, trivial⟩⟩ ⟨⟨fun _ _ _ _ hl h => h, ⟨fun _ _ _ _ hl h => h, ⟨fun _ _ _ _ hl h => (let ⟨v17, g18, hF, hU, ho19⟩ := h; ⟨v17, g18, hF, hU, ho19.up hl⟩), trivial⟩⟩⟩, trivial⟩ rfl rfl ?_ (allB_cons (allB_cons (allB_cons (allB_cons (allB_cons (allB_cons allB_nil ?_) (p4 dA)) ?_) ?_) ?_) ?_) ?_
   ·exact rfl
   ·intro ρ' τ u Fv pool rs hl hI hu hd hout hw hk
    have hI0 := hI
    obtain rfl := hI
    refine o_load (j := 1) (v := v3) rfl rfl rfl z_sc42 ((hout 2 rfl).trans rfl) rfl rfl ?_
    exact hk _ _ [[(bc1, .cells #[v3] 42 (0, 0))], g4] (Sto.Le.refl _) rfl (by exact hI0)
   ·intro ρ' τ pool rs hl hd hout hw hk
    refine o_load (j := 0) (v := .I c0) rfl rfl rfl z_sc3 ((hout 1 rfl).trans rfl) rfl rfl ?_
    exact hk _ _ (Sto.Le.refl _) rfl
   ·intro ρ' τ pool rs hl hd hout hw hk
    refine o_load (j := 0) (v := .I c0) rfl rfl rfl z_sc3 ((hout 1 rfl).trans rfl) rfl rfl ?_
    exact hk _ _ (Sto.Le.refl _) rfl
   ·intro ρ' τ pool rs hl hd hout hw hk
    obtain ⟨_, e1, rfl⟩ := hd 1 rfl _ rfl
    obtain ⟨_, e2, rfl⟩ := hd 2 rfl _ rfl
    obtain ⟨_, e3, rfl⟩ := hd 3 rfl _ rfl
    refine o_slice (L := 0) (H := c0) rfl rfl rfl z_slT42 rfl e1 (hs2.up hl) rfl ⟨_, e2⟩ (by decide) hf6 hf7 ⟨_, _, e3, hf8, hf9⟩ (by simp) (fun v10 hs11 => ?_)
    exact hk _ _ (Sto.Le.refl _) ⟨v10, rfl, hs11⟩
   ·intro ρ' τ u Fv pool rs hl hI hu hd hout hw hk
    obtain ⟨_, e0, rfl⟩ := hd 0 rfl _ rfl
    obtain ⟨_, e4, v10, rfl, hs11⟩ := hd 4 rfl _ rfl
    have hI0 := hI
    obtain rfl := hI
    refine st_ord [2, 0, 0, 0] _ rfl ?_
    refine o_append (dk := (kI .u8)) (xs := c1) (ys := ((a0.drop (0 : Int).toNat).take ((c0 : Int) - 0).toNat)) rfl rfl rfl rfl z_slT42 e0 (ho5.up hl) e4 (Sl.src hs11) hf15 hf16 (fun v12 g13 ho14 => ?_)
    refine st_ord [1, 0, 0, 0] _ rfl ?_
    exact hk _ _ [g13, [(bc1, .cells #[v3] 42 (0, 0))]] (Sto.Le.refl _) trivial (by exact ⟨v12, g13, rfl, rfl, ho14⟩)
   intro ρ' τ20 vals u Fv hl20 hI hu hv hout
   obtain ⟨v17, g18, rfl, rfl, ho19⟩ := hI
   refine st_env (ρ' := [(1, .Pb bc0), (2, .Pb bc1), (4, .I 0), (5, .I 0), (19, v17)]) ⟨(hout 1 rfl).trans rfl, (hout 2 rfl).trans rfl, (hout 4 rfl).trans rfl, (hout 5 rfl).trans rfl, (by exact hu _ rfl), trivial⟩ ?_
   refine o_store (j := 2) (vs := [v17]) (cs' := [v17]) rfl rfl rfl z_size42 rfl rfl (oneL_ow ho19) (ones_cons ho19.one' ones_nil) rfl rfl rfl ?_
   refine ZZ 7 [0] rfl rfl ?_
   refine st_ord [0, 1, 0] _ rfl ?_
   obtain rfl := Eq.symm h
   exact st_ret (gs' := [[(bc0, .cells #[.I c0] 3 (0, 0))], [(bc1, .cells #[v17] 42 (0, 0))], g18]) Tryz.func116 rfl (List.Sublist.refl _) hl20 ⟨_, _, rfl, rfl, ho19⟩
theorem lens_Lens_read__lens_Lens_Raw_1_ok {a0 : List Int × Int × Int} {a1_0 : Int} {a1_1 : List Int} {ba0 : Nat} {v1 : Value} {ba1_0 : Nat} {ba1_1 : Nat} {v3 : Value} {g4 : Grp} {r : Bool × (List Int × Int × Int) × List Int} (h : lens_Lens_read__lens_Lens_Raw_1 a0 a1_0 a1_1 r) (σ : Sto) (hs2 : Sl (kI .u8) σ v1 a0.1) (ho5 : Ow (kI .u8) 5 σ v3 a1_1 g4) :
    Does Tryz.prog 77 [.Pb ba0, .func (.func 116) #[] [.Pb ba1_0, .Pb ba1_1].toArray] σ [[(ba0, .cells [v1, .I a0.2.1, .I a0.2.2].toArray 137 (0, 0))], [(ba1_0, .cells [.I a1_0].toArray 3 (0, 0))], [(ba1_1, .cells [v3].toArray 42 (0, 0))], g4] (fun v τ gs => ∃ (v19 : Value) (v21 : Value) (g22 : Grp), gs = [[(ba0, .cells [v19, .I r.2.1.2.1, .I r.2.1.2.2].toArray 137 (0, 0))], [(ba1_0, .cells [.I a1_0].toArray 3 (0, 0))], [(ba1_1, .cells [v21].toArray 42 (0, 0))], g22] ∧ .bool r.1 = v ∧ Sl (kI .u8) τ v19 r.2.1.1 ∧ Ow (kI .u8) 5 τ v21 r.2.2 g22) := by
 refine call_of Tryz.func77 Tryz.ntmps77 rfl rfl (fun cs fs => ?_)
 refine ZZ 17 [0] rfl rfl ?_
 refine st_if rfl h (fun h => ?_) (fun h => ?_)
 ·refine Z 4 rfl ?_
  obtain rfl := Eq.symm h
  exact st_ret (gs' := [[(ba0, .cells #[v1, .I a0.2.1, .I a0.2.2] 137 (0, 0))], [(ba1_0, .cells #[.I a1_0] 3 (0, 0))], [(ba1_1, .cells #[v3] 42 (0, 0))], g4]) Tryz.func77 rfl (List.Sublist.refl _) (Sto.Le.refl _) ⟨_, _, _, rfl, rfl, hs2, ho5⟩
 ·refine Z 5 rfl ?_
  obtain ⟨r6, hr7, h⟩ := h
  refine st_call (foot := [[(ba0, .cells #[v1, .I a0.2.1, .I a0.2.2] 137 (0, 0))]]) rfl rfl rfl rfl rfl rfl (callV_fn z_en76 (lens_Lens_left_ok hr7 σ hs2)) ?_
  rintro vτ8 τ8 gsτ8 hl9 ⟨v10, rfl, rfl, hs11⟩
  obtain ⟨r12, hr13, h⟩ := h
  refine st_ord [1, 1, 1, 0] _ rfl ?_
  refine st_call (foot := [[(ba1_0, .cells #[.I a1_0] 3 (0, 0))], [(ba1_1, .cells #[v3] 42 (0, 0))], g4]) rfl rfl rfl rfl rfl rfl (callV_of2 (caps := [.Pb ba1_0, .Pb ba1_1]) z_en116 (lens_Lens_Raw_1_ok hr13 τ8 hs11 (ho5.up hl9)) rfl) ?_
  rintro vτ14 τ14 gsτ14 hl15 ⟨v16, g17, rfl, rfl, ho18⟩
  refine Z 12 rfl ?_
  refine st_if rfl h (fun h => ?_) (fun h => ?_)
  ·refine ZZ 12 [3] rfl rfl ?_
   refine st_ord [3, 0, 0, 0] _ rfl ?_
   obtain rfl := Eq.symm h
   exact st_ret (gs' := [[(ba0, .cells #[v1, .I a0.2.1, .I r12.2.1] 137 (0, 0))], [(ba1_0, .cells #[.I a1_0] 3 (0, 0))], [(ba1_1, .cells #[v16] 42 (0, 0))], g17]) Tryz.func77 rfl (List.Sublist.refl _) (hl9.trans hl15) ⟨_, _, _, rfl, rfl, (hs2.up (hl9.trans hl15)), ho18⟩
  ·refine ZZ 17 [3, 3] rfl rfl ?_
   refine st_ord [3, 0, 0, 0] _ rfl ?_
   obtain rfl := Eq.symm h
   exact st_ret (gs' := [[(ba0, .cells #[v1, .I (IntKind.i64.wrap (a0.2.1 + r12.1)), .I a0.2.2] 137 (0, 0))], [(ba1_0, .cells #[.I a1_0] 3 (0, 0))], [(ba1_1, .cells #[v16] 42 (0, 0))], g17]) Tryz.func77 rfl (List.Sublist.refl _) (hl9.trans hl15) ⟨_, _, _, rfl, rfl, (hs2.up (hl9.trans hl15)), ho18⟩
theorem lens_Lens_Raw_ok {a0 : List Int × Int × Int} {a1 : Int} {ba0 : Nat} {v1 : Value} {r : List Int × (List Int × Int × Int)} (h : lens_Lens_Raw a0 a1 r) (σ : Sto) (hs2 : Sl (kI .u8) σ v1 a0.1) :
    Does Tryz.prog 97 [.Pb ba0, .I a1] σ [[(ba0, .cells [v1, .I a0.2.1, .I a0.2.2].toArray 137 (0, 0))]] (fun v τ gs => ∃ (v20 : Value) (v22 : Value), gs = [[(ba0, .cells [v22, .I r.2.2.1, .I r.2.2.2].toArray 137 (0, 0))]] ∧ v20 = v ∧ Sl (kI .u8) τ v20 r.1 ∧ Sl (kI .u8) τ v22 r.2.1) := by
 refine call_of Tryz.func97 Tryz.ntmps97 rfl rfl (fun cs fs => ?_)
 refine Z 2 rfl ?_
 refine o_boxC rfl rfl rfl rfl rfl rfl (fun b3 => ?_)
 refine Z 4 rfl ?_
 refine o_alloc rfl rfl rfl z_zero42 (fun b4 => ?_)
 refine Z 5 rfl ?_
 obtain ⟨r5, hr6, h⟩ := h
 refine st_addNil ?_
 refine st_ord [3, 2, 1, 0] _ rfl ?_
 refine st_call (foot := [[(ba0, .cells #[v1, .I a0.2.1, .I a0.2.2] 137 (0, 0))], [(b3, .cells #[.I a1] 3 (0, 0))], [(b4, .cells #[.N0] 42 (0, 0))], []]) rfl rfl rfl rfl rfl rfl (callV_fn z_en77 (lens_Lens_read__lens_Lens_Raw_1_ok hr6 σ hs2 Ow.nil)) ?_
 rintro vτ7 τ7 gsτ7 hl8 ⟨v9, v11, g12, rfl, rfl, hs10, ho13⟩
 refine ZZ 6 [2] rfl rfl ?_
 refine st_ord [3, 0, 0, 0] _ rfl ?_
 refine st_freeze (fun τ14 hl15 hg16 => ?_)
 have hs17 := ho13.freeze hl15 hg16
 refine st_ord [0] _ rfl ?_
 obtain rfl := Eq.symm h
 exact st_ret (gs' := [[(ba0, .cells #[v9, .I r5.2.1.2.1, .I r5.2.1.2.2] 137 (0, 0))]]) Tryz.func97 rfl (List.Sublist.refl _) (hl8.trans hl15) ⟨_, _, rfl, rfl, hs17, (hs10.up hl15)⟩
theorem lens_Lens_Rest_ok {a0 : List Int × Int × Int} {ba0 : Nat} {v1 : Value} {r : List Int × (List Int × Int × Int)} (h : lens_Lens_Rest a0 r) (σ : Sto) (hs2 : Sl (kI .u8) σ v1 a0.1) :
    Does Tryz.prog 83 [.Pb ba0] σ [[(ba0, .cells [v1, .I a0.2.1, .I a0.2.2].toArray 137 (0, 0))]] (fun v τ gs => ∃ (v15 : Value) (v17 : Value), gs = [[(ba0, .cells [v17, .I r.2.2.1, .I r.2.2.2].toArray 137 (0, 0))]] ∧ v15 = v ∧ Sl (kI .u8) τ v15 r.1 ∧ Sl (kI .u8) τ v17 r.2.1) := by
 refine call_of Tryz.func83 Tryz.ntmps83 rfl rfl (fun cs fs => ?_)
 refine Z 8 rfl ?_
 obtain ⟨r3, hr4, h⟩ := h
 refine st_call (foot := [[(ba0, .cells #[v1, .I a0.2.1, .I a0.2.2] 137 (0, 0))]]) rfl rfl rfl rfl rfl rfl (callV_fn z_en60 (lens_Lens_Left_ok hr4 σ hs2)) ?_
 rintro vτ5 τ5 gsτ5 hl6 ⟨rfl, rfl⟩
 obtain ⟨r7, hr8, h⟩ := h
 refine st_call (foot := [[(ba0, .cells #[v1, .I a0.2.1, .I a0.2.2] 137 (0, 0))]]) rfl rfl rfl rfl rfl rfl (callV_fn z_en97 (lens_Lens_Raw_ok hr8 τ5 (hs2.up hl6))) ?_
 rintro vτ9 τ9 gsτ9 hl10 ⟨v11, v13, rfl, rfl, hs12, hs14⟩
 refine Z 2 rfl ?_
 obtain rfl := Eq.symm h
 exact st_ret (gs' := [[(ba0, .cells #[v13, .I r7.2.2.1, .I r7.2.2.2] 137 (0, 0))]]) Tryz.func83 rfl (List.Sublist.refl _) (hl6.trans hl10) ⟨_, _, rfl, rfl, hs12, hs14⟩
theorem field_Word_ok {a0 : Int} {r : ByteArray} (h : field_Word a0 r) (σ : Sto)  :
    Does Tryz.prog 93 [.I a0] σ [] (fun v τ gs => gs = [] ∧ .string r = v) := by
 refine call_of Tryz.func93 Tryz.ntmps93 rfl rfl (fun cs fs => ?_)
 refine Z 2 rfl ?_
 refine o_assign rfl rfl rfl (ev_str z_str19) ?_
 refine Z 12 rfl ?_
 refine st_if rfl h (fun h => ?_) (fun h => ?_)
 ·refine Z 2 rfl ?_
  refine o_assign rfl rfl rfl (ev_str z_str35) ?_
  refine st_end ?_
  obtain rfl := Eq.symm h
  exact st_ret (gs' := []) Tryz.func93 rfl (List.Sublist.refl _) (Sto.Le.refl _) ⟨rfl, rfl⟩
 ·refine Z 5 rfl ?_
  refine st_if rfl h (fun h => ?_) (fun h => ?_)
  ·refine Z 2 rfl ?_
   refine o_assign rfl rfl rfl (ev_str z_str36) ?_
   refine st_end ?_
   obtain rfl := Eq.symm h
   exact st_ret (gs' := []) Tryz.func93 rfl (List.Sublist.refl _) (Sto.Le.refl _) ⟨rfl, rfl⟩
  ·refine Z 5 rfl ?_
   refine st_if rfl h (fun h => ?_) (fun h => ?_)
   ·refine Z 2 rfl ?_
    refine o_assign rfl rfl rfl (ev_str z_str37) ?_
    refine st_end ?_
    obtain rfl := Eq.symm h
    exact st_ret (gs' := []) Tryz.func93 rfl (List.Sublist.refl _) (Sto.Le.refl _) ⟨rfl, rfl⟩
   ·refine Z 5 rfl ?_
    refine st_if rfl h (fun h => ?_) (fun h => ?_)
    ·refine Z 2 rfl ?_
     refine o_assign rfl rfl rfl (ev_str z_str38) ?_
     refine st_end ?_
     obtain rfl := Eq.symm h
     exact st_ret (gs' := []) Tryz.func93 rfl (List.Sublist.refl _) (Sto.Le.refl _) ⟨rfl, rfl⟩
    ·refine Z 5 rfl ?_
     refine st_if rfl h (fun h => ?_) (fun h => ?_)
     ·refine Z 2 rfl ?_
      refine o_assign rfl rfl rfl (ev_str z_str39) ?_
      refine st_end ?_
      obtain rfl := Eq.symm h
      exact st_ret (gs' := []) Tryz.func93 rfl (List.Sublist.refl _) (Sto.Le.refl _) ⟨rfl, rfl⟩
     ·refine Z 4 rfl ?_
      refine o_assign rfl rfl rfl (ev_str z_str19) ?_
      refine st_end ?_
      obtain rfl := Eq.symm h
      exact st_ret (gs' := []) Tryz.func93 rfl (List.Sublist.refl _) (Sto.Le.refl _) ⟨rfl, rfl⟩
theorem lens_Lens_Number_1_ok {a0 : List Int} {c0 : Int} {c1 : Int} {v1 : Value} {bc0 : Nat} {bc1 : Nat} {r : Int × Int × Int} (h : lens_Lens_Number_1 a0 c0 c1 r) (σ : Sto) (hs2 : Sl (kI .u8) σ v1 a0) :
    Does Tryz.prog 119 [v1, .Pb bc0, .Pb bc1] σ [[(bc0, .cells [.int .u64 c0].toArray 77 (0, 0))], [(bc1, .cells [.int .u64 c1].toArray 77 (0, 0))]] (fun v τ gs => gs = [[(bc0, .cells [.int .u64 c0].toArray 77 (0, 0))], [(bc1, .cells [.int .u64 r.2.2].toArray 77 (0, 0))]] ∧ .tuple [.I r.1, .I r.2.1].toArray = v) := by
 refine call_of Tryz.func119 Tryz.ntmps119 rfl rfl (fun cs fs => ?_)
 refine Z 8 rfl ?_
 obtain ⟨r3, hr4, h⟩ := h
 refine st_call (foot := []) rfl rfl rfl rfl rfl rfl (callV_fn z_en79 (varint_Get_ok hr4 σ hs2)) ?_
 rintro vτ5 τ5 gsτ5 hl6 ⟨rfl, rfl⟩
 refine Z 9 rfl ?_
 refine st_cut (fun ρ τ7 gs => ∃ (s7 : Int), lens_Lens_Number_1_j1 c1 r3 s7 r ∧ τ5.Le τ7 ∧ ESub ρ [(2, .Pb bc1), (4, .I 0), (5, .I 0), (6, .int .u64 r3.1), (7, .I r3.2.1), (8, .I s7)] ∧ gs = [[(bc0, .cells #[.int .u64 c0] 77 (0, 0))], [(bc1, .cells #[.int .u64 c1] 77 (0, 0))]]) ?_ (fun hk7 => ?_)
 ·rintro ρ7 τ7 gs7 ⟨s7, h, hl7, hρ, rfl⟩
  refine st_es hρ ?_
  refine st_seq ?_
  refine st_cut (fun ρ τ8 gs => ∃ (s8 : Int), lens_Lens_Number_1_j2 r3 s7 s8 r ∧ τ7.Le τ8 ∧ ESub ρ [(4, .I 0), (5, .I 0), (7, .I r3.2.1), (8, .I s7)] ∧ gs = [[(bc0, .cells #[.int .u64 c0] 77 (0, 0))], [(bc1, .cells #[.int .u64 s8] 77 (0, 0))]]) ?_ (fun hk8 => ?_)
  ·rintro ρ8 τ8 gs8 ⟨s8, h, hl8, hρ, rfl⟩
   refine st_es hρ ?_
   refine Z 7 rfl ?_
   obtain rfl := Eq.symm h
   exact st_ret (gs' := [[(bc0, .cells #[.int .u64 c0] 77 (0, 0))], [(bc1, .cells #[.int .u64 s8] 77 (0, 0))]]) Tryz.func119 rfl (List.Sublist.refl _) ((hl6.trans hl7).trans hl8) ⟨rfl, rfl⟩
  refine Z 5 rfl ?_
  refine st_if rfl h (fun h => ?_) (fun h => ?_)
  ·refine ZZ 4 [1] rfl rfl ?_
   exact hk8 _ _ _ ⟨r3.1, h, (Sto.Le.refl _), rfl, rfl⟩
  ·refine st_skip ?_
   exact hk8 _ _ _ ⟨c1, h, (Sto.Le.refl _), rfl, rfl⟩
 refine st_seq ?_
 refine st_cut (fun ρ τ9 gs => ∃ (s9 : Bool), lens_Lens_Number_1_j3 c1 r3 s9 r ∧ τ5.Le τ9 ∧ ESub ρ [(2, .Pb bc1), (4, .I 0), (5, .I 0), (6, .int .u64 r3.1), (7, .I r3.2.1), (8, .I r3.2.2), (21, .bool s9)] ∧ gs = [[(bc0, .cells #[.int .u64 c0] 77 (0, 0))], [(bc1, .cells #[.int .u64 c1] 77 (0, 0))]]) ?_ (fun hk9 => ?_)
 ·rintro ρ9 τ9 gs9 ⟨s9, h, hl9, hρ, rfl⟩
  refine st_es hρ ?_
  refine st_if rfl h (fun h => ?_) (fun h => ?_)
  ·refine Z 3 rfl ?_
   exact hk7 _ _ _ ⟨5, h, hl9, rfl, rfl⟩
  ·refine st_skip ?_
   exact hk7 _ _ _ ⟨r3.2.2, h, hl9, rfl, rfl⟩
 refine Z 3 rfl ?_
 refine o_mif rfl rfl rfl rfl h (fun h => ?_) (fun h => ?_)
 ·refine ZZ 5 [0] rfl rfl ?_
  exact hk9 _ _ _ ⟨(decide (c0 < r3.1)), h, (Sto.Le.refl _), rfl, rfl⟩
 ·refine Z 5 rfl ?_
  exact hk9 _ _ _ ⟨false, h, (Sto.Le.refl _), rfl, rfl⟩
theorem lens_Lens_read__lens_Lens_Number_1_ok {a0 : List Int × Int × Int} {a1_0 : Int} {a1_1 : Int} {ba0 : Nat} {v1 : Value} {ba1_0 : Nat} {ba1_1 : Nat} {r : Bool × (List Int × Int × Int) × Int} (h : lens_Lens_read__lens_Lens_Number_1 a0 a1_0 a1_1 r) (σ : Sto) (hs2 : Sl (kI .u8) σ v1 a0.1) :
    Does Tryz.prog 77 [.Pb ba0, .func (.func 119) #[] [.Pb ba1_0, .Pb ba1_1].toArray] σ [[(ba0, .cells [v1, .I a0.2.1, .I a0.2.2].toArray 137 (0, 0))], [(ba1_0, .cells [.int .u64 a1_0].toArray 77 (0, 0))], [(ba1_1, .cells [.int .u64 a1_1].toArray 77 (0, 0))]] (fun v τ gs => ∃ (v13 : Value), gs = [[(ba0, .cells [v13, .I r.2.1.2.1, .I r.2.1.2.2].toArray 137 (0, 0))], [(ba1_0, .cells [.int .u64 a1_0].toArray 77 (0, 0))], [(ba1_1, .cells [.int .u64 r.2.2].toArray 77 (0, 0))]] ∧ .bool r.1 = v ∧ Sl (kI .u8) τ v13 r.2.1.1) := by
 refine call_of Tryz.func77 Tryz.ntmps77 rfl rfl (fun cs fs => ?_)
 refine ZZ 17 [0] rfl rfl ?_
 refine st_if rfl h (fun h => ?_) (fun h => ?_)
 ·refine Z 4 rfl ?_
  obtain rfl := Eq.symm h
  exact st_ret (gs' := [[(ba0, .cells #[v1, .I a0.2.1, .I a0.2.2] 137 (0, 0))], [(ba1_0, .cells #[.int .u64 a1_0] 77 (0, 0))], [(ba1_1, .cells #[.int .u64 a1_1] 77 (0, 0))]]) Tryz.func77 rfl (List.Sublist.refl _) (Sto.Le.refl _) ⟨_, rfl, rfl, hs2⟩
 ·refine Z 5 rfl ?_
  obtain ⟨r3, hr4, h⟩ := h
  refine st_call (foot := [[(ba0, .cells #[v1, .I a0.2.1, .I a0.2.2] 137 (0, 0))]]) rfl rfl rfl rfl rfl rfl (callV_fn z_en76 (lens_Lens_left_ok hr4 σ hs2)) ?_
  rintro vτ5 τ5 gsτ5 hl6 ⟨v7, rfl, rfl, hs8⟩
  obtain ⟨r9, hr10, h⟩ := h
  refine st_ord [1, 1, 0] _ rfl ?_
  refine st_call (foot := [[(ba1_0, .cells #[.int .u64 a1_0] 77 (0, 0))], [(ba1_1, .cells #[.int .u64 a1_1] 77 (0, 0))]]) rfl rfl rfl rfl rfl rfl (callV_of2 (caps := [.Pb ba1_0, .Pb ba1_1]) z_en119 (lens_Lens_Number_1_ok hr10 τ5 hs8) rfl) ?_
  rintro vτ11 τ11 gsτ11 hl12 ⟨rfl, rfl⟩
  refine Z 12 rfl ?_
  refine st_if rfl h (fun h => ?_) (fun h => ?_)
  ·refine ZZ 12 [2] rfl rfl ?_
   refine st_ord [2, 0, 0] _ rfl ?_
   obtain rfl := Eq.symm h
   exact st_ret (gs' := [[(ba0, .cells #[v1, .I a0.2.1, .I r9.2.1] 137 (0, 0))], [(ba1_0, .cells #[.int .u64 a1_0] 77 (0, 0))], [(ba1_1, .cells #[.int .u64 r9.2.2] 77 (0, 0))]]) Tryz.func77 rfl (List.Sublist.refl _) (hl6.trans hl12) ⟨_, rfl, rfl, (hs2.up (hl6.trans hl12))⟩
  ·refine ZZ 17 [2, 2] rfl rfl ?_
   refine st_ord [2, 0, 0] _ rfl ?_
   obtain rfl := Eq.symm h
   exact st_ret (gs' := [[(ba0, .cells #[v1, .I (IntKind.i64.wrap (a0.2.1 + r9.1)), .I a0.2.2] 137 (0, 0))], [(ba1_0, .cells #[.int .u64 a1_0] 77 (0, 0))], [(ba1_1, .cells #[.int .u64 r9.2.2] 77 (0, 0))]]) Tryz.func77 rfl (List.Sublist.refl _) (hl6.trans hl12) ⟨_, rfl, rfl, (hs2.up (hl6.trans hl12))⟩
theorem lens_Lens_Number_ok {a0 : List Int × Int × Int} {a1 : Int} {ba0 : Nat} {v1 : Value} {r : Int × (List Int × Int × Int)} (h : lens_Lens_Number a0 a1 r) (σ : Sto) (hs2 : Sl (kI .u8) σ v1 a0.1) :
    Does Tryz.prog 109 [.Pb ba0, .int .u64 a1] σ [[(ba0, .cells [v1, .I a0.2.1, .I a0.2.2].toArray 137 (0, 0))]] (fun v τ gs => ∃ (v11 : Value), gs = [[(ba0, .cells [v11, .I r.2.2.1, .I r.2.2.2].toArray 137 (0, 0))]] ∧ .int .u64 r.1 = v ∧ Sl (kI .u8) τ v11 r.2.1) := by
 refine call_of Tryz.func109 Tryz.ntmps109 rfl rfl (fun cs fs => ?_)
 refine Z 2 rfl ?_
 refine o_boxC rfl rfl rfl rfl rfl rfl (fun b3 => ?_)
 refine Z 4 rfl ?_
 refine o_alloc rfl rfl rfl z_zero77 (fun b4 => ?_)
 refine ZZ 6 [0] rfl rfl ?_
 obtain ⟨r5, hr6, h⟩ := h
 refine st_ord [2, 1, 0] _ rfl ?_
 refine st_call (foot := [[(ba0, .cells #[v1, .I a0.2.1, .I a0.2.2] 137 (0, 0))], [(b3, .cells #[.int .u64 a1] 77 (0, 0))], [(b4, .cells #[.int .u64 0] 77 (0, 0))]]) rfl rfl rfl rfl rfl rfl (callV_fn z_en77 (lens_Lens_read__lens_Lens_Number_1_ok hr6 σ hs2)) ?_
 rintro vτ7 τ7 gsτ7 hl8 ⟨v9, rfl, rfl, hs10⟩
 refine ZZ 6 [2] rfl rfl ?_
 refine st_ord [0] _ rfl ?_
 obtain rfl := Eq.symm h
 exact st_ret (gs' := [[(ba0, .cells #[v9, .I r5.2.1.2.1, .I r5.2.1.2.2] 137 (0, 0))]]) Tryz.func109 rfl (List.Sublist.refl _) hl8 ⟨_, rfl, rfl, hs10⟩
theorem body_reader_err_ok {a0 : Unit × Int} {a0p0 : List Int × Int × Int} {ba0 : Nat} {ba0p0 : Nat} {v1 : Value} {r : Int} (h : body_reader_err a0 a0p0 r) (σ : Sto) (hs2 : Sl (kI .u8) σ v1 a0p0.1) :
    Does Tryz.prog 95 [.Pb ba0] σ [[(ba0, .cells [.Pb ba0p0, .I a0.2].toArray 162 (0, 0))], [(ba0p0, .cells [v1, .I a0p0.2.1, .I a0p0.2.2].toArray 137 (0, 0))]] (fun v τ gs => gs = [[(ba0, .cells [.Pb ba0p0, .I a0.2].toArray 162 (0, 0))], [(ba0p0, .cells [v1, .I a0p0.2.1, .I a0p0.2.2].toArray 137 (0, 0))]] ∧ .I r = v) := by
 refine call_of Tryz.func95 Tryz.ntmps95 rfl rfl (fun cs fs => ?_)
 refine ZZ 13 [0] rfl rfl ?_
 refine st_if rfl h (fun h => ?_) (fun h => ?_)
 ·refine ZZ 8 [0] rfl rfl ?_
  obtain rfl := Eq.symm h
  exact st_ret (gs' := [[(ba0, .cells #[.Pb ba0p0, .I a0.2] 162 (0, 0))], [(ba0p0, .cells #[v1, .I a0p0.2.1, .I a0p0.2.2] 137 (0, 0))]]) Tryz.func95 rfl (List.Sublist.refl _) (Sto.Le.refl _) ⟨rfl, rfl⟩
 ·refine ZZ 7 [0] rfl rfl ?_
  obtain ⟨r3, hr4, h⟩ := h
  refine st_ord [1, 0] _ rfl ?_
  refine st_call (foot := [[(ba0p0, .cells #[v1, .I a0p0.2.1, .I a0p0.2.2] 137 (0, 0))]]) rfl rfl rfl rfl rfl rfl (callV_fn z_en63 (lens_Lens_Err_ok hr4 σ hs2)) ?_
  rintro vτ5 τ5 gsτ5 hl6 ⟨rfl, rfl⟩
  refine Z 2 rfl ?_
  refine st_ord [1, 0] _ rfl ?_
  obtain rfl := Eq.symm h
  exact st_ret (gs' := [[(ba0, .cells #[.Pb ba0p0, .I a0.2] 162 (0, 0))], [(ba0p0, .cells #[v1, .I a0p0.2.1, .I a0p0.2.2] 137 (0, 0))]]) Tryz.func95 rfl (List.Sublist.refl _) hl6 ⟨rfl, rfl⟩
theorem body_reader_note_ok {a0 : Unit × Int} {a0p0 : List Int × Int × Int} {a1 : Bool} {a2 : Int} {ba0 : Nat} {ba0p0 : Nat} {v1 : Value} {r : (Unit × Int)} (h : body_reader_note a0 a0p0 a1 a2 r) (σ : Sto) (hs2 : Sl (kI .u8) σ v1 a0p0.1) :
    Does Tryz.prog 110 [.Pb ba0, .bool a1, .I a2] σ [[(ba0, .cells [.Pb ba0p0, .I a0.2].toArray 162 (0, 0))], [(ba0p0, .cells [v1, .I a0p0.2.1, .I a0p0.2.2].toArray 137 (0, 0))]] (fun v τ gs => gs = [[(ba0, .cells [.Pb ba0p0, .I r.2].toArray 162 (0, 0))], [(ba0p0, .cells [v1, .I a0p0.2.1, .I a0p0.2.2].toArray 137 (0, 0))]] ∧ .tuple [].toArray = v) := by
 refine call_of Tryz.func110 Tryz.ntmps110 rfl rfl (fun cs fs => ?_)
 refine st_seq ?_
 refine st_cut (fun ρ τ3 gs => ∃ (s3 : Bool), body_reader_note_j1 a0 a2 s3 r ∧ σ.Le τ3 ∧ ESub ρ [(0, .Pb ba0), (2, .I a2), (11, .bool s3)] ∧ gs = [[(ba0, .cells #[.Pb ba0p0, .I a0.2] 162 (0, 0))], [(ba0p0, .cells #[v1, .I a0p0.2.1, .I a0p0.2.2] 137 (0, 0))]]) ?_ (fun hk3 => ?_)
 ·rintro ρ3 τ3 gs3 ⟨s3, h, hl3, hρ, rfl⟩
  refine st_es hρ ?_
  refine st_if rfl h (fun h => ?_) (fun h => ?_)
  ·refine ZZ 7 [0] rfl rfl ?_
   obtain rfl := Eq.symm h
   exact st_fin (gs' := [[(ba0, .cells #[.Pb ba0p0, .I a2] 162 (0, 0))], [(ba0p0, .cells #[v1, .I a0p0.2.1, .I a0p0.2.2] 137 (0, 0))]]) Tryz.func110 rfl (List.Sublist.refl _) hl3 ⟨rfl, rfl⟩
  ·refine st_skip ?_
   obtain rfl := Eq.symm h
   exact st_fin (gs' := [[(ba0, .cells #[.Pb ba0p0, .I a0.2] 162 (0, 0))], [(ba0p0, .cells #[v1, .I a0p0.2.1, .I a0p0.2.2] 137 (0, 0))]]) Tryz.func110 rfl (List.Sublist.refl _) hl3 ⟨rfl, rfl⟩
 refine Z 2 rfl ?_
 refine o_mif rfl rfl rfl rfl h (fun h => ?_) (fun h => ?_)
 ·refine o_move rfl rfl rfl rfl ?_
  obtain ⟨r4, hr5, h⟩ := h
  refine st_call (foot := [[(ba0, .cells #[.Pb ba0p0, .I a0.2] 162 (0, 0))], [(ba0p0, .cells #[v1, .I a0p0.2.1, .I a0p0.2.2] 137 (0, 0))]]) rfl rfl rfl rfl rfl rfl (callV_fn z_en95 (body_reader_err_ok hr5 σ hs2)) ?_
  rintro vτ6 τ6 gsτ6 hl7 ⟨rfl, rfl⟩
  refine Z 3 rfl ?_
  exact hk3 _ _ _ ⟨(decide (r4 = 0)), h, hl7, rfl, rfl⟩
 ·refine Z 5 rfl ?_
  exact hk3 _ _ _ ⟨false, h, (Sto.Le.refl _), rfl, rfl⟩
theorem varint_Zag_ok {a0 : Int} {r : Int} (h : varint_Zag a0 r) (σ : Sto)  :
    Does Tryz.prog 121 [.int .u64 a0] σ [] (fun v τ gs => gs = [] ∧ .I r = v) := by
 refine call_of Tryz.func121 Tryz.ntmps121 rfl rfl (fun cs fs => ?_)
 refine Z 16 rfl ?_
 obtain rfl := Eq.symm h
 exact st_ret (gs' := []) Tryz.func121 rfl (List.Sublist.refl _) (Sto.Le.refl _) ⟨rfl, rfl⟩
theorem lens_Lens_Signed_1_ok {a0 : List Int} {c0 : Int} {c1 : Int} {c2 : Int} {v1 : Value} {bc0 : Nat} {bc1 : Nat} {bc2 : Nat} {r : Int × Int × Int} (h : lens_Lens_Signed_1 a0 c0 c1 c2 r) (σ : Sto) (hs2 : Sl (kI .u8) σ v1 a0) :
    Does Tryz.prog 120 [v1, .Pb bc0, .Pb bc1, .Pb bc2] σ [[(bc0, .cells [.I c0].toArray 2 (0, 0))], [(bc1, .cells [.I c1].toArray 2 (0, 0))], [(bc2, .cells [.I c2].toArray 2 (0, 0))]] (fun v τ gs => gs = [[(bc0, .cells [.I c0].toArray 2 (0, 0))], [(bc1, .cells [.I c1].toArray 2 (0, 0))], [(bc2, .cells [.I r.2.2].toArray 2 (0, 0))]] ∧ .tuple [.I r.1, .I r.2.1].toArray = v) := by
 refine call_of Tryz.func120 Tryz.ntmps120 rfl rfl (fun cs fs => ?_)
 refine Z 8 rfl ?_
 obtain ⟨r3, hr4, h⟩ := h
 refine st_call (foot := []) rfl rfl rfl rfl rfl rfl (callV_fn z_en79 (varint_Get_ok hr4 σ hs2)) ?_
 rintro vτ5 τ5 gsτ5 hl6 ⟨rfl, rfl⟩
 refine Z 9 rfl ?_
 refine st_cut (fun ρ τ7 gs => ∃ (s7 : Int × Int), lens_Lens_Signed_1_j1 r3 s7 r ∧ τ5.Le τ7 ∧ ESub ρ [(5, .I 0), (6, .I 0), (8, .I r3.2.1), (9, .I s7.1)] ∧ gs = [[(bc0, .cells #[.I c0] 2 (0, 0))], [(bc1, .cells #[.I c1] 2 (0, 0))], [(bc2, .cells #[.I s7.2] 2 (0, 0))]]) ?_ (fun hk7 => ?_)
 ·rintro ρ7 τ7 gs7 ⟨s7, h, hl7, hρ, rfl⟩
  refine st_es hρ ?_
  refine Z 7 rfl ?_
  obtain rfl := Eq.symm h
  exact st_ret (gs' := [[(bc0, .cells #[.I c0] 2 (0, 0))], [(bc1, .cells #[.I c1] 2 (0, 0))], [(bc2, .cells #[.I s7.2] 2 (0, 0))]]) Tryz.func120 rfl (List.Sublist.refl _) (hl6.trans hl7) ⟨rfl, rfl⟩
 refine Z 3 rfl ?_
 obtain ⟨r8, hr9, h⟩ := h
 refine st_call (foot := []) rfl rfl rfl rfl rfl rfl (callV_fn z_en121 (varint_Zag_ok hr9 τ5)) ?_
 rintro vτ10 τ10 gsτ10 hl11 ⟨rfl, rfl⟩
 refine Z 3 rfl ?_
 refine st_cut (fun ρ τ12 gs => ∃ (s12 : Bool), lens_Lens_Signed_1_j2 c2 r3 r8 s12 r ∧ τ10.Le τ12 ∧ ESub ρ [(3, .Pb bc2), (5, .I 0), (6, .I 0), (8, .I r3.2.1), (9, .I r3.2.2), (10, .I r8), (30, .bool s12)] ∧ gs = [[(bc0, .cells #[.I c0] 2 (0, 0))], [(bc1, .cells #[.I c1] 2 (0, 0))], [(bc2, .cells #[.I c2] 2 (0, 0))]]) ?_ (fun hk12 => ?_)
 ·rintro ρ12 τ12 gs12 ⟨s12, h, hl12, hρ, rfl⟩
  refine st_es hρ ?_
  refine st_if rfl h (fun h => ?_) (fun h => ?_)
  ·refine Z 3 rfl ?_
   exact hk7 _ _ _ ⟨(5, c2), h, (hl11.trans hl12), rfl, rfl⟩
  ·refine Z 5 rfl ?_
   refine st_if rfl h (fun h => ?_) (fun h => ?_)
   ·refine ZZ 4 [2] rfl rfl ?_
    exact hk7 _ _ _ ⟨(r3.2.2, r8), h, (hl11.trans hl12), rfl, rfl⟩
   ·refine st_skip ?_
    exact hk7 _ _ _ ⟨(r3.2.2, c2), h, (hl11.trans hl12), rfl, rfl⟩
 refine Z 3 rfl ?_
 refine o_mif rfl rfl rfl rfl h (fun h => ?_) (fun h => ?_)
 ·refine ZZ 3 [0] rfl rfl ?_
  refine o_mif rfl rfl rfl rfl h (fun h => ?_) (fun h => ?_)
  ·refine Z 6 rfl ?_
   exact hk12 _ _ _ ⟨true, h, (Sto.Le.refl _), rfl, rfl⟩
  ·refine ZZ 6 [1] rfl rfl ?_
   exact hk12 _ _ _ ⟨(decide (c1 < r8)), h, (Sto.Le.refl _), rfl, rfl⟩
 ·refine Z 10 rfl ?_
  exact hk12 _ _ _ ⟨false, h, (Sto.Le.refl _), rfl, rfl⟩
theorem lens_Lens_read__lens_Lens_Signed_1_ok {a0 : List Int × Int × Int} {a1_0 : Int} {a1_1 : Int} {a1_2 : Int} {ba0 : Nat} {v1 : Value} {ba1_0 : Nat} {ba1_1 : Nat} {ba1_2 : Nat} {r : Bool × (List Int × Int × Int) × Int} (h : lens_Lens_read__lens_Lens_Signed_1 a0 a1_0 a1_1 a1_2 r) (σ : Sto) (hs2 : Sl (kI .u8) σ v1 a0.1) :
    Does Tryz.prog 77 [.Pb ba0, .func (.func 120) #[] [.Pb ba1_0, .Pb ba1_1, .Pb ba1_2].toArray] σ [[(ba0, .cells [v1, .I a0.2.1, .I a0.2.2].toArray 137 (0, 0))], [(ba1_0, .cells [.I a1_0].toArray 2 (0, 0))], [(ba1_1, .cells [.I a1_1].toArray 2 (0, 0))], [(ba1_2, .cells [.I a1_2].toArray 2 (0, 0))]] (fun v τ gs => ∃ (v13 : Value), gs = [[(ba0, .cells [v13, .I r.2.1.2.1, .I r.2.1.2.2].toArray 137 (0, 0))], [(ba1_0, .cells [.I a1_0].toArray 2 (0, 0))], [(ba1_1, .cells [.I a1_1].toArray 2 (0, 0))], [(ba1_2, .cells [.I r.2.2].toArray 2 (0, 0))]] ∧ .bool r.1 = v ∧ Sl (kI .u8) τ v13 r.2.1.1) := by
 refine call_of Tryz.func77 Tryz.ntmps77 rfl rfl (fun cs fs => ?_)
 refine ZZ 17 [0] rfl rfl ?_
 refine st_if rfl h (fun h => ?_) (fun h => ?_)
 ·refine Z 4 rfl ?_
  obtain rfl := Eq.symm h
  exact st_ret (gs' := [[(ba0, .cells #[v1, .I a0.2.1, .I a0.2.2] 137 (0, 0))], [(ba1_0, .cells #[.I a1_0] 2 (0, 0))], [(ba1_1, .cells #[.I a1_1] 2 (0, 0))], [(ba1_2, .cells #[.I a1_2] 2 (0, 0))]]) Tryz.func77 rfl (List.Sublist.refl _) (Sto.Le.refl _) ⟨_, rfl, rfl, hs2⟩
 ·refine Z 5 rfl ?_
  obtain ⟨r3, hr4, h⟩ := h
  refine st_call (foot := [[(ba0, .cells #[v1, .I a0.2.1, .I a0.2.2] 137 (0, 0))]]) rfl rfl rfl rfl rfl rfl (callV_fn z_en76 (lens_Lens_left_ok hr4 σ hs2)) ?_
  rintro vτ5 τ5 gsτ5 hl6 ⟨v7, rfl, rfl, hs8⟩
  obtain ⟨r9, hr10, h⟩ := h
  refine st_ord [1, 1, 1, 0] _ rfl ?_
  refine st_call (foot := [[(ba1_0, .cells #[.I a1_0] 2 (0, 0))], [(ba1_1, .cells #[.I a1_1] 2 (0, 0))], [(ba1_2, .cells #[.I a1_2] 2 (0, 0))]]) rfl rfl rfl rfl rfl rfl (callV_of2 (caps := [.Pb ba1_0, .Pb ba1_1, .Pb ba1_2]) z_en120 (lens_Lens_Signed_1_ok hr10 τ5 hs8) rfl) ?_
  rintro vτ11 τ11 gsτ11 hl12 ⟨rfl, rfl⟩
  refine Z 12 rfl ?_
  refine st_if rfl h (fun h => ?_) (fun h => ?_)
  ·refine ZZ 12 [3] rfl rfl ?_
   refine st_ord [3, 0, 0, 0] _ rfl ?_
   obtain rfl := Eq.symm h
   exact st_ret (gs' := [[(ba0, .cells #[v1, .I a0.2.1, .I r9.2.1] 137 (0, 0))], [(ba1_0, .cells #[.I a1_0] 2 (0, 0))], [(ba1_1, .cells #[.I a1_1] 2 (0, 0))], [(ba1_2, .cells #[.I r9.2.2] 2 (0, 0))]]) Tryz.func77 rfl (List.Sublist.refl _) (hl6.trans hl12) ⟨_, rfl, rfl, (hs2.up (hl6.trans hl12))⟩
  ·refine ZZ 17 [3, 3] rfl rfl ?_
   refine st_ord [3, 0, 0, 0] _ rfl ?_
   obtain rfl := Eq.symm h
   exact st_ret (gs' := [[(ba0, .cells #[v1, .I (IntKind.i64.wrap (a0.2.1 + r9.1)), .I a0.2.2] 137 (0, 0))], [(ba1_0, .cells #[.I a1_0] 2 (0, 0))], [(ba1_1, .cells #[.I a1_1] 2 (0, 0))], [(ba1_2, .cells #[.I r9.2.2] 2 (0, 0))]]) Tryz.func77 rfl (List.Sublist.refl _) (hl6.trans hl12) ⟨_, rfl, rfl, (hs2.up (hl6.trans hl12))⟩
theorem lens_Lens_Signed_ok {a0 : List Int × Int × Int} {a1 : Int} {a2 : Int} {ba0 : Nat} {v1 : Value} {r : Int × (List Int × Int × Int)} (h : lens_Lens_Signed a0 a1 a2 r) (σ : Sto) (hs2 : Sl (kI .u8) σ v1 a0.1) :
    Does Tryz.prog 111 [.Pb ba0, .I a1, .I a2] σ [[(ba0, .cells [v1, .I a0.2.1, .I a0.2.2].toArray 137 (0, 0))]] (fun v τ gs => ∃ (v12 : Value), gs = [[(ba0, .cells [v12, .I r.2.2.1, .I r.2.2.2].toArray 137 (0, 0))]] ∧ .I r.1 = v ∧ Sl (kI .u8) τ v12 r.2.1) := by
 refine call_of Tryz.func111 Tryz.ntmps111 rfl rfl (fun cs fs => ?_)
 refine Z 2 rfl ?_
 refine o_boxC rfl rfl rfl rfl rfl rfl (fun b3 => ?_)
 refine o_boxC rfl rfl rfl rfl rfl rfl (fun b4 => ?_)
 refine Z 4 rfl ?_
 refine o_alloc rfl rfl rfl z_zero2 (fun b5 => ?_)
 refine ZZ 6 [0] rfl rfl ?_
 obtain ⟨r6, hr7, h⟩ := h
 refine st_ord [3, 2, 1, 0] _ rfl ?_
 refine st_call (foot := [[(ba0, .cells #[v1, .I a0.2.1, .I a0.2.2] 137 (0, 0))], [(b3, .cells #[.I a1] 2 (0, 0))], [(b4, .cells #[.I a2] 2 (0, 0))], [(b5, .cells #[.I 0] 2 (0, 0))]]) rfl rfl rfl rfl rfl rfl (callV_fn z_en77 (lens_Lens_read__lens_Lens_Signed_1_ok hr7 σ hs2)) ?_
 rintro vτ8 τ8 gsτ8 hl9 ⟨v10, rfl, rfl, hs11⟩
 refine ZZ 6 [3] rfl rfl ?_
 refine st_ord [0] _ rfl ?_
 obtain rfl := Eq.symm h
 exact st_ret (gs' := [[(ba0, .cells #[v10, .I r6.2.1.2.1, .I r6.2.1.2.2] 137 (0, 0))]]) Tryz.func111 rfl (List.Sublist.refl _) hl9 ⟨_, rfl, rfl, hs11⟩
theorem body_reader_count_ok {a0 : Unit × Int} {a0p0 : List Int × Int × Int} {a1 : Int} {ba0 : Nat} {ba0p0 : Nat} {v1 : Value} {r : Int × (Unit × Int) × (List Int × Int × Int)} (h : body_reader_count a0 a0p0 a1 r) (σ : Sto) (hs2 : Sl (kI .u8) σ v1 a0p0.1) :
    Does Tryz.prog 123 [.Pb ba0, .I a1] σ [[(ba0, .cells [.Pb ba0p0, .I a0.2].toArray 162 (0, 0))], [(ba0p0, .cells [v1, .I a0p0.2.1, .I a0p0.2.2].toArray 137 (0, 0))]] (fun v τ gs => ∃ (v21 : Value), gs = [[(ba0, .cells [.Pb ba0p0, .I r.2.1.2].toArray 162 (0, 0))], [(ba0p0, .cells [v21, .I r.2.2.2.1, .I r.t4].toArray 137 (0, 0))]] ∧ .I r.1 = v ∧ Sl (kI .u8) τ v21 r.2.2.1) := by
 refine call_of Tryz.func123 Tryz.ntmps123 rfl rfl (fun cs fs => ?_)
 refine ZZ 10 [0] rfl rfl ?_
 obtain ⟨r3, hr4, h⟩ := h
 refine st_ord [1, 0] _ rfl ?_
 refine st_call (foot := [[(ba0p0, .cells #[v1, .I a0p0.2.1, .I a0p0.2.2] 137 (0, 0))]]) rfl rfl rfl rfl rfl rfl (callV_fn z_en109 (lens_Lens_Number_ok hr4 σ hs2)) ?_
 rintro vτ5 τ5 gsτ5 hl6 ⟨v7, rfl, rfl, hs8⟩
 refine Z 7 rfl ?_
 obtain ⟨r9, hr10, h⟩ := h
 refine st_ord [1, 0] _ rfl ?_
 refine st_call (foot := [[(ba0, .cells #[.Pb ba0p0, .I a0.2] 162 (0, 0))], [(ba0p0, .cells #[v7, .I r3.2.2.1, .I r3.2.2.2] 137 (0, 0))]]) rfl rfl rfl rfl rfl rfl (callV_fn z_en110 (body_reader_note_ok hr10 τ5 hs8)) ?_
 rintro vτ11 τ11 gsτ11 hl12 ⟨rfl, rfl⟩
 refine Z 8 rfl ?_
 obtain ⟨r13, hr14, h⟩ := h
 refine st_call (foot := [[(ba0, .cells #[.Pb ba0p0, .I r9.2] 162 (0, 0))], [(ba0p0, .cells #[v7, .I r3.2.2.1, .I r3.2.2.2] 137 (0, 0))]]) rfl rfl rfl rfl rfl rfl (callV_fn z_en110 (body_reader_note_ok hr14 τ11 (hs8.up hl12))) ?_
 rintro vτ15 τ15 gsτ15 hl16 ⟨rfl, rfl⟩
 refine Z 5 rfl ?_
 obtain ⟨r17, hr18, h⟩ := h
 refine st_call (foot := [[(ba0, .cells #[.Pb ba0p0, .I r13.2] 162 (0, 0))], [(ba0p0, .cells #[v7, .I r3.2.2.1, .I r3.2.2.2] 137 (0, 0))]]) rfl rfl rfl rfl rfl rfl (callV_fn z_en95 (body_reader_err_ok hr18 τ15 (hs8.up (hl12.trans hl16)))) ?_
 rintro vτ19 τ19 gsτ19 hl20 ⟨rfl, rfl⟩
 refine Z 2 rfl ?_
 refine st_if rfl h (fun h => ?_) (fun h => ?_)
 ·refine Z 4 rfl ?_
  obtain rfl := Eq.symm h
  exact st_ret (gs' := [[(ba0, .cells #[.Pb ba0p0, .I r13.2] 162 (0, 0))], [(ba0p0, .cells #[v7, .I r3.2.2.1, .I r3.2.2.2] 137 (0, 0))]]) Tryz.func123 rfl (List.Sublist.refl _) (((hl6.trans hl12).trans hl16).trans hl20) ⟨_, rfl, rfl, (hs8.up ((hl12.trans hl16).trans hl20))⟩
 ·refine Z 7 rfl ?_
  obtain rfl := Eq.symm h
  exact st_ret (gs' := [[(ba0, .cells #[.Pb ba0p0, .I r13.2] 162 (0, 0))], [(ba0p0, .cells #[v7, .I r3.2.2.1, .I r3.2.2.2] 137 (0, 0))]]) Tryz.func123 rfl (List.Sublist.refl _) (((hl6.trans hl12).trans hl16).trans hl20) ⟨_, rfl, rfl, (hs8.up ((hl12.trans hl16).trans hl20))⟩
theorem body_reader_points_1_ok {a0 : Int} {c0 : Unit} {c0p0 : Unit × Int} {c0p0p0 : List Int × Int × Int} {bc0 : Nat} {bc0p0 : Nat} {bc0p0p0 : Nat} {v1 : Value} {r : Int × (List Int × Int × Int)} (h : body_reader_points_1 a0 c0 c0p0 c0p0p0 r) (σ : Sto) (hs2 : Sl (kI .u8) σ v1 c0p0p0.1) :
    Does Tryz.prog 122 [.I a0, .Pb bc0] σ [[(bc0, .cells [.Pb bc0p0].toArray 160 (0, 0))], [(bc0p0, .cells [.Pb bc0p0p0, .I c0p0.2].toArray 162 (0, 0))], [(bc0p0p0, .cells [v1, .I c0p0p0.2.1, .I c0p0p0.2.2].toArray 137 (0, 0))]] (fun v τ gs => ∃ (v9 : Value), gs = [[(bc0, .cells [.Pb bc0p0].toArray 160 (0, 0))], [(bc0p0, .cells [.Pb bc0p0p0, .I c0p0.2].toArray 162 (0, 0))], [(bc0p0p0, .cells [v9, .I r.2.2.1, .I r.2.2.2].toArray 137 (0, 0))]] ∧ .I r.1 = v ∧ Sl (kI .u8) τ v9 r.2.1) := by
 refine call_of Tryz.func122 Tryz.ntmps122 rfl rfl (fun cs fs => ?_)
 refine ZZ 15 [0, 1] rfl rfl ?_
 obtain ⟨r3, hr4, h⟩ := h
 refine st_ord [2, 0, 0] _ rfl ?_
 refine st_call (foot := [[(bc0p0p0, .cells #[v1, .I c0p0p0.2.1, .I c0p0p0.2.2] 137 (0, 0))]]) rfl rfl rfl rfl rfl rfl (callV_fn z_en111 (lens_Lens_Signed_ok hr4 σ hs2)) ?_
 rintro vτ5 τ5 gsτ5 hl6 ⟨v7, rfl, rfl, hs8⟩
 refine Z 3 rfl ?_
 refine st_ord [1, 1, 0] _ rfl ?_
 obtain rfl := Eq.symm h
 exact st_ret (gs' := [[(bc0, .cells #[.Pb bc0p0] 160 (0, 0))], [(bc0p0, .cells #[.Pb bc0p0p0, .I c0p0.2] 162 (0, 0))], [(bc0p0p0, .cells #[v7, .I r3.2.2.1, .I r3.2.2.2] 137 (0, 0))]]) Tryz.func122 rfl (List.Sublist.refl _) hl6 ⟨_, rfl, rfl, hs8⟩
theorem body_reader_points_ok {a0 : Unit × Int} {a0p0 : List Int × Int × Int} {ba0 : Nat} {ba0p0 : Nat} {v1 : Value} {r : (List (Int × Int)) × (Unit × Int) × (List Int × Int × Int)} (h : body_reader_points a0 a0p0 r) (σ : Sto) (hs2 : Sl (kI .u8) σ v1 a0p0.1) :
    Does Tryz.prog 112 [.Pb ba0] σ [[(ba0, .cells [.Pb ba0p0, .I a0.2].toArray 162 (0, 0))], [(ba0p0, .cells [v1, .I a0p0.2.1, .I a0p0.2.2].toArray 137 (0, 0))]] (fun v τ gs => ∃ (v54 : Value) (v56 : Value), gs = [[(ba0, .cells [.Pb ba0p0, .I r.2.1.2].toArray 162 (0, 0))], [(ba0p0, .cells [v56, .I r.2.2.2.1, .I r.t4].toArray 137 (0, 0))]] ∧ v54 = v ∧ Sl (kP (kI .i64) (kI .i64)) τ v54 r.1 ∧ Sl (kI .u8) τ v56 r.2.2.1) := by
 refine call_of Tryz.func112 Tryz.ntmps112 rfl rfl (fun cs fs => ?_)
 refine Z 2 rfl ?_
 refine o_boxC rfl rfl rfl rfl rfl rfl (fun b3 => ?_)
 refine Z 14 rfl ?_
 refine o_alloc rfl rfl rfl z_zero84 (fun b4 => ?_)
 refine Z 4 rfl ?_
 refine st_cut (fun ρ τ5 gs => ∃ (s5 : (List (Int × Int)) × Int × List Int × Int × Int) (v6 : Value) (g7 : Grp) (v9 : Value), body_reader_points_j1 s5 r ∧ σ.Le τ5 ∧ ESub ρ [(2, .N0), (3, v6)] ∧ gs = [[(ba0, .cells #[.Pb ba0p0, .I s5.2.1] 162 (0, 0))], [(ba0p0, .cells #[v9, .I s5.2.2.2.1, .I s5.t4] 137 (0, 0))], g7] ∧ Ow (kP (kI .i64) (kI .i64)) 84 τ5 v6 s5.1 g7 ∧ Sl (kI .u8) τ5 v9 s5.2.2.1) ?_ (fun hk5 => ?_)
 ·rintro ρ5 τ5 gs5 ⟨s5, v6, g7, v9, h, hl5, hρ, rfl, ho8, hs10⟩
  refine st_es hρ ?_
  refine Z 5 rfl ?_
  refine st_ord [2, 0, 0] _ rfl ?_
  refine st_freeze (fun τ11 hl12 hg13 => ?_)
  have hs14 := ho8.freeze hl12 hg13
  obtain rfl := Eq.symm h
  exact st_ret (gs' := [[(ba0, .cells #[.Pb ba0p0, .I s5.2.1] 162 (0, 0))], [(ba0p0, .cells #[v9, .I s5.2.2.2.1, .I s5.t4] 137 (0, 0))]]) Tryz.func112 rfl (List.Sublist.refl _) (hl5.trans hl12) ⟨_, _, rfl, rfl, hs14, (hs10.up hl12)⟩
 refine ZZ 3 [1] rfl rfl ?_
 obtain ⟨r17, hr18, h⟩ := h
 refine st_ord [2, 2, 0, 0] _ rfl ?_
 refine st_call (foot := [[(ba0, .cells #[.Pb ba0p0, .I a0.2] 162 (0, 0))], [(ba0p0, .cells #[v1, .I a0p0.2.1, .I a0p0.2.2] 137 (0, 0))]]) rfl rfl rfl rfl rfl rfl (callV_fn z_en123 (body_reader_count_ok hr18 σ hs2)) ?_
 rintro vτ19 τ19 gsτ19 hl20 ⟨v21, rfl, rfl, hs22⟩
 refine Z 2 rfl ?_
 obtain ⟨e23, hL23, hA23⟩ := h
 refine st_addNil ?_
 refine st_ord [1, 1, 2, 1, 0] _ rfl ?_
 refine st_loop hL23 (fun (s23 : (List (Int × Int)) × Int × List Int × Int × Int × Int × Int) ρ τ23 gs => τ19.Le τ23 ∧ ∃ (v24 : Value) (g25 : Grp) (v27 : Value), ESub ρ [(1, .Pb b3), (2, .N0), (3, v24), (4, .func (.func 122) #[] #[.Pb b3]), (5, .Pb b4), (8, .I r17.1), (9, .I s23.2.1)] ∧ gs = [[(ba0, .cells #[.Pb ba0p0, .I r17.2.1.2] 162 (0, 0))], [(ba0p0, .cells #[v27, .I s23.2.2.2.1, .I s23.t4.1] 137 (0, 0))], [(b3, .cells #[.Pb ba0] 160 (0, 0))], [(b4, .cells #[.I s23.t4.2.1, .I s23.t4.2.2] 84 (0, 0))], g25] ∧ Ow (kP (kI .i64) (kI .i64)) 84 τ23 v24 s23.1 g25 ∧ Sl (kI .u8) τ23 v27 s23.2.2.1) ⟨Sto.Le.refl _, _, _, _, rfl, rfl, Ow.nil, hs22⟩ ?_
 rintro s23 o23 h he23 ρ23 τ23 gs23 ⟨hl23, v24, g25, v27, hρ, rfl, ho26, hs28⟩ hn23
 refine st_es hρ ?_
 refine Z 5 rfl ?_
 refine st_if rfl h (fun h => ?_) (fun h => ?_)
 ·refine ZZ 8 [3] rfl rfl ?_
  obtain ⟨r29, hr30, h⟩ := h
  refine st_ord [2, 0, 0, 0, 0] _ rfl ?_
  refine st_call (foot := [[(b3, .cells #[.Pb ba0] 160 (0, 0))], [(ba0, .cells #[.Pb ba0p0, .I r17.2.1.2] 162 (0, 0))], [(ba0p0, .cells #[v27, .I s23.2.2.2.1, .I s23.t4.1] 137 (0, 0))]]) rfl rfl rfl rfl rfl rfl (callV_of2 (caps := [.Pb b3]) z_en122 (body_reader_points_1_ok hr30 τ23 hs28) rfl) ?_
  rintro vτ31 τ31 gsτ31 hl32 ⟨v33, rfl, rfl, hs34⟩
  refine ZZ 8 [3, 3] rfl rfl ?_
  obtain ⟨r35, hr36, h⟩ := h
  refine st_call (foot := [[(b3, .cells #[.Pb ba0] 160 (0, 0))], [(ba0, .cells #[.Pb ba0p0, .I r17.2.1.2] 162 (0, 0))], [(ba0p0, .cells #[v33, .I r29.2.2.1, .I r29.2.2.2] 137 (0, 0))]]) rfl rfl rfl rfl rfl rfl (callV_of2 (caps := [.Pb b3]) z_en122 (body_reader_points_1_ok hr36 τ31 hs34) rfl) ?_
  rintro vτ37 τ37 gsτ37 hl38 ⟨v39, rfl, rfl, hs40⟩
  refine ZZ 7 [3, 0] rfl rfl ?_
  obtain ⟨r41, hr42, h⟩ := h
  refine st_ord [1, 1, 0, 0, 0] _ rfl ?_
  refine st_call (foot := [[(ba0, .cells #[.Pb ba0p0, .I r17.2.1.2] 162 (0, 0))], [(ba0p0, .cells #[v39, .I r35.2.2.1, .I r35.2.2.2] 137 (0, 0))]]) rfl rfl rfl rfl rfl rfl (callV_fn z_en95 (body_reader_err_ok hr42 τ37 hs40)) ?_
  rintro vτ43 τ43 gsτ43 hl44 ⟨rfl, rfl⟩
  refine Z 2 rfl ?_
  refine st_if rfl h (fun h => ?_) (fun h => ?_)
  ·refine st_exit rfl ?_
   obtain rfl := he23 _ h
   replace h := hA23
   refine st_ord [0, 0, 2] _ rfl ?_
   exact hk5 _ _ _ ⟨(s23.1, r17.2.1.2, r35.2.1, r35.2.2.1, r35.2.2.2), _, _, _, h, ((((hl20.trans hl23).trans hl32).trans hl38).trans hl44), rfl, rfl, (ho26.up ((hl32.trans hl38).trans hl44)), (hs40.up hl44)⟩
  ·refine ZZ 4 [3] rfl rfl ?_
   refine o_litE (eP (eI .i64) (eI .i64)) [(r29.1, r35.1)] rfl rfl rfl z_slT27 z_zero84 ⟨rfl, ⟨_, rfl, rfl⟩, trivial⟩ rfl rfl rfl rfl (fun v45 g46 ho47 => ?_)
   obtain ⟨hf51, hf52, h⟩ := h
   refine st_ord [5, 0, 0, 0, 0, 0] _ rfl ?_
   refine o_append (dk := (kP (kI .i64) (kI .i64))) (xs := s23.1) (ys := [(r29.1, r35.1)]) rfl rfl rfl rfl z_slT27 rfl (ho26.up ((hl32.trans hl38).trans hl44)) rfl (Ow.src (j := 1) ho47 rfl) hf51 hf52 (fun v48 g49 ho50 => ?_)
   refine Z 7 rfl ?_
   refine st_ord [2, 2, 2, 2, 0] _ rfl ?_
   exact hn23 _ _ _ _ h ⟨(((hl23.trans hl32).trans hl38).trans hl44), _, _, _, rfl, rfl, ho50, (hs40.up hl44)⟩
 ·refine st_exit rfl ?_
  obtain rfl := he23 _ h
  replace h := hA23
  refine st_ord [0, 0, 2] _ rfl ?_
  exact hk5 _ _ _ ⟨(s23.1, r17.2.1.2, s23.2.2.1, s23.2.2.2.1, s23.t4.1), _, _, _, h, (hl20.trans hl23), rfl, rfl, ho26, hs28⟩
theorem body_reader_cells_ok {a0 : Unit × Int} {a0p0 : List Int × Int × Int} {ba0 : Nat} {ba0p0 : Nat} {v1 : Value} {r : List Int × (Unit × Int) × (List Int × Int × Int)} (h : body_reader_cells a0 a0p0 r) (σ : Sto) (hs2 : Sl (kI .u8) σ v1 a0p0.1) :
    Does Tryz.prog 113 [.Pb ba0] σ [[(ba0, .cells [.Pb ba0p0, .I a0.2].toArray 162 (0, 0))], [(ba0p0, .cells [v1, .I a0p0.2.1, .I a0p0.2.2].toArray 137 (0, 0))]] (fun v τ gs => ∃ (v50 : Value) (v52 : Value), gs = [[(ba0, .cells [.Pb ba0p0, .I r.2.1.2].toArray 162 (0, 0))], [(ba0p0, .cells [v52, .I r.2.2.2.1, .I r.t4].toArray 137 (0, 0))]] ∧ v50 = v ∧ Sl (kI .i64) τ v50 r.1 ∧ Sl (kI .u8) τ v52 r.2.2.1) := by
 refine call_of Tryz.func113 Tryz.ntmps113 rfl rfl (fun cs fs => ?_)
 refine Z 16 rfl ?_
 refine st_cut (fun ρ τ3 gs => ∃ (s3 : List Int × Int × List Int × Int × Int) (v4 : Value) (g5 : Grp) (v7 : Value), body_reader_cells_j1 s3 r ∧ σ.Le τ3 ∧ ESub ρ [(2, .N0), (3, v4)] ∧ gs = [[(ba0, .cells #[.Pb ba0p0, .I s3.2.1] 162 (0, 0))], [(ba0p0, .cells #[v7, .I s3.2.2.2.1, .I s3.t4] 137 (0, 0))], g5] ∧ Ow (kI .i64) 3 τ3 v4 s3.1 g5 ∧ Sl (kI .u8) τ3 v7 s3.2.2.1) ?_ (fun hk3 => ?_)
 ·rintro ρ3 τ3 gs3 ⟨s3, v4, g5, v7, h, hl3, hρ, rfl, ho6, hs8⟩
  refine st_es hρ ?_
  refine Z 5 rfl ?_
  refine st_ord [2, 0, 0] _ rfl ?_
  refine st_freeze (fun τ9 hl10 hg11 => ?_)
  have hs12 := ho6.freeze hl10 hg11
  obtain rfl := Eq.symm h
  exact st_ret (gs' := [[(ba0, .cells #[.Pb ba0p0, .I s3.2.1] 162 (0, 0))], [(ba0p0, .cells #[v7, .I s3.2.2.2.1, .I s3.t4] 137 (0, 0))]]) Tryz.func113 rfl (List.Sublist.refl _) (hl3.trans hl10) ⟨_, _, rfl, rfl, hs12, (hs8.up hl10)⟩
 refine Z 3 rfl ?_
 obtain ⟨r15, hr16, h⟩ := h
 refine st_call (foot := [[(ba0, .cells #[.Pb ba0p0, .I a0.2] 162 (0, 0))], [(ba0p0, .cells #[v1, .I a0p0.2.1, .I a0p0.2.2] 137 (0, 0))]]) rfl rfl rfl rfl rfl rfl (callV_fn z_en123 (body_reader_count_ok hr16 σ hs2)) ?_
 rintro vτ17 τ17 gsτ17 hl18 ⟨v19, rfl, rfl, hs20⟩
 refine Z 2 rfl ?_
 obtain ⟨e21, hL21, hA21⟩ := h
 refine st_addNil ?_
 refine st_ord [1, 1, 0] _ rfl ?_
 refine st_loop hL21 (fun (s21 : List Int × Int × Int × Int × List Int × Int × Int) ρ τ21 gs => τ17.Le τ21 ∧ ∃ (v22 : Value) (g23 : Grp) (v25 : Value), ESub ρ [(0, .Pb ba0), (2, .N0), (3, v22), (4, .I s21.2.1), (6, .I r15.1), (7, .I s21.2.2.1)] ∧ gs = [[(ba0, .cells #[.Pb ba0p0, .I s21.2.2.2.1] 162 (0, 0))], [(ba0p0, .cells #[v25, .I s21.t4.2.1, .I s21.t4.2.2] 137 (0, 0))], g23] ∧ Ow (kI .i64) 3 τ21 v22 s21.1 g23 ∧ Sl (kI .u8) τ21 v25 s21.t4.1) ⟨Sto.Le.refl _, _, _, _, rfl, rfl, Ow.nil, hs20⟩ ?_
 rintro s21 o21 h he21 ρ21 τ21 gs21 ⟨hl21, v22, g23, v25, hρ, rfl, ho24, hs26⟩ hn21
 refine st_es hρ ?_
 refine Z 5 rfl ?_
 refine st_if rfl h (fun h => ?_) (fun h => ?_)
 ·refine ZZ 10 [0] rfl rfl ?_
  obtain ⟨r27, hr28, h⟩ := h
  refine st_ord [1, 0, 0] _ rfl ?_
  refine st_call (foot := [[(ba0p0, .cells #[v25, .I s21.t4.2.1, .I s21.t4.2.2] 137 (0, 0))]]) rfl rfl rfl rfl rfl rfl (callV_fn z_en109 (lens_Lens_Number_ok hr28 τ21 hs26)) ?_
  rintro vτ29 τ29 gsτ29 hl30 ⟨v31, rfl, rfl, hs32⟩
  refine Z 10 rfl ?_
  obtain ⟨r33, hr34, h⟩ := h
  refine st_ord [1, 0, 0] _ rfl ?_
  refine st_call (foot := [[(ba0, .cells #[.Pb ba0p0, .I s21.2.2.2.1] 162 (0, 0))], [(ba0p0, .cells #[v31, .I r27.2.2.1, .I r27.2.2.2] 137 (0, 0))]]) rfl rfl rfl rfl rfl rfl (callV_fn z_en110 (body_reader_note_ok hr34 τ29 hs32)) ?_
  rintro vτ35 τ35 gsτ35 hl36 ⟨rfl, rfl⟩
  refine Z 5 rfl ?_
  obtain ⟨r37, hr38, h⟩ := h
  refine st_call (foot := [[(ba0, .cells #[.Pb ba0p0, .I r33.2] 162 (0, 0))], [(ba0p0, .cells #[v31, .I r27.2.2.1, .I r27.2.2.2] 137 (0, 0))]]) rfl rfl rfl rfl rfl rfl (callV_fn z_en95 (body_reader_err_ok hr38 τ35 (hs32.up hl36))) ?_
  rintro vτ39 τ39 gsτ39 hl40 ⟨rfl, rfl⟩
  refine Z 2 rfl ?_
  refine st_if rfl h (fun h => ?_) (fun h => ?_)
  ·refine st_exit rfl ?_
   obtain rfl := he21 _ h
   replace h := hA21
   exact hk3 _ _ _ ⟨(s21.1, r33.2, r27.2.1, r27.2.2.1, r27.2.2.2), _, _, _, h, ((((hl18.trans hl21).trans hl30).trans hl36).trans hl40), rfl, rfl, (ho24.up ((hl30.trans hl36).trans hl40)), (hs32.up (hl36.trans hl40))⟩
  ·refine Z 4 rfl ?_
   refine o_litE (eI .i64) [(IntKind.i64.wrap (s21.2.1 + (IntKind.i64.wrap ((IntKind.i64.wrap r27.1) + 1))))] rfl rfl rfl z_slT28 z_zero3 ⟨rfl, ⟨_, rfl, rfl⟩, trivial⟩ rfl rfl rfl rfl (fun v41 g42 ho43 => ?_)
   obtain ⟨hf47, hf48, h⟩ := h
   refine st_ord [3, 0, 0, 0] _ rfl ?_
   refine o_append (dk := (kI .i64)) (xs := s21.1) (ys := [(IntKind.i64.wrap (s21.2.1 + (IntKind.i64.wrap ((IntKind.i64.wrap r27.1) + 1))))]) rfl rfl rfl rfl z_slT28 rfl (ho24.up ((hl30.trans hl36).trans hl40)) rfl (Ow.src (j := 1) ho43 rfl) hf47 hf48 (fun v44 g45 ho46 => ?_)
   refine Z 7 rfl ?_
   refine st_ord [2, 2, 0] _ rfl ?_
   exact hn21 _ _ _ _ h ⟨(((hl21.trans hl30).trans hl36).trans hl40), _, _, _, rfl, rfl, ho46, (hs32.up (hl36.trans hl40))⟩
 ·refine st_exit rfl ?_
  obtain rfl := he21 _ h
  replace h := hA21
  exact hk3 _ _ _ ⟨(s21.1, s21.2.2.2.1, s21.t4.1, s21.t4.2.1, s21.t4.2.2), _, _, _, h, (hl18.trans hl21), rfl, rfl, ho24, hs26⟩
theorem body_reader_text_ok {a0 : Unit × Int} {a0p0 : List Int × Int × Int} {a1 : Int} {ba0 : Nat} {ba0p0 : Nat} {v1 : Value} {r : ByteArray × (Unit × Int) × (List Int × Int × Int)} (h : body_reader_text a0 a0p0 a1 r) (σ : Sto) (hs2 : Sl (kI .u8) σ v1 a0p0.1) :
    Does Tryz.prog 114 [.Pb ba0, .I a1] σ [[(ba0, .cells [.Pb ba0p0, .I a0.2].toArray 162 (0, 0))], [(ba0p0, .cells [v1, .I a0p0.2.1, .I a0p0.2.2].toArray 137 (0, 0))]] (fun v τ gs => ∃ (v28 : Value), gs = [[(ba0, .cells [.Pb ba0p0, .I r.2.1.2].toArray 162 (0, 0))], [(ba0p0, .cells [v28, .I r.2.2.2.1, .I r.t4].toArray 137 (0, 0))]] ∧ .string r.1 = v ∧ Sl (kI .u8) τ v28 r.2.2.1) := by
 refine call_of Tryz.func114 Tryz.ntmps114 rfl rfl (fun cs fs => ?_)
 refine Z 2 rfl ?_
 refine o_assign rfl rfl rfl (ev_str z_str19) ?_
 refine ZZ 8 [0] rfl rfl ?_
 obtain ⟨r3, hr4, h⟩ := h
 refine st_ord [1, 0] _ rfl ?_
 refine st_call (foot := [[(ba0p0, .cells #[v1, .I a0p0.2.1, .I a0p0.2.2] 137 (0, 0))]]) rfl rfl rfl rfl rfl rfl (callV_fn z_en62 (lens_Lens_Field_ok hr4 σ hs2)) ?_
 rintro vτ5 τ5 gsτ5 hl6 ⟨v7, v9, rfl, rfl, hs8, hs10⟩
 refine Z 3 rfl ?_
 refine st_cut (fun ρ τ11 gs => ∃ (s11 : Int), body_reader_text_j1 r3 s11 r ∧ τ5.Le τ11 ∧ ESub ρ [(4, .E0), (5, v7)] ∧ gs = [[(ba0, .cells #[.Pb ba0p0, .I s11] 162 (0, 0))], [(ba0p0, .cells #[v9, .I r3.2.2.1, .I r3.2.2.2] 137 (0, 0))]]) ?_ (fun hk11 => ?_)
 ·rintro ρ11 τ11 gs11 ⟨s11, h, hl11, hρ, rfl⟩
  refine st_es hρ ?_
  refine Z 3 rfl ?_
  refine o_bstr (xs := r3.1) rfl rfl rfl Tryz.underlying42 Tryz.underlying5 Tryz.underlying9 rfl (hs8.up hl11) ?_
  refine Z 2 rfl ?_
  obtain rfl := Eq.symm h
  exact st_ret (gs' := [[(ba0, .cells #[.Pb ba0p0, .I s11] 162 (0, 0))], [(ba0p0, .cells #[v9, .I r3.2.2.1, .I r3.2.2.2] 137 (0, 0))]]) Tryz.func114 rfl (List.Sublist.refl _) (hl6.trans hl11) ⟨_, rfl, rfl, (hs10.up hl11)⟩
 refine Z 3 rfl ?_
 refine o_lenI rfl rfl rfl z_slT42 rfl hs8 ?_
 refine Z 2 rfl ?_
 obtain ⟨e12, hL12, hA12⟩ := h
 refine st_ord [1, 0] _ rfl ?_
 refine st_loop hL12 (fun (s12 : Int × Int) ρ τ12 gs => τ5.Le τ12 ∧ ESub ρ [(0, .Pb ba0), (4, .E0), (5, v7), (14, v7), (15, .I (r3.1.length : Int)), (16, .I s12.1)] ∧ gs = [[(ba0, .cells #[.Pb ba0p0, .I s12.2] 162 (0, 0))], [(ba0p0, .cells #[v9, .I r3.2.2.1, .I r3.2.2.2] 137 (0, 0))]]) ⟨Sto.Le.refl _, rfl, rfl⟩ ?_
 rintro s12 o12 h he12 ρ12 τ12 gs12 ⟨hl12, hρ, rfl⟩ hn12
 refine st_es hρ ?_
 refine Z 5 rfl ?_
 refine st_if rfl h (fun h => ?_) (fun h => ?_)
 ·refine Z 2 rfl ?_
  refine st_cut (fun ρ τ13 gs => ∃ (s13 : Int), body_reader_text_j3 s12 s13 o12 ∧ τ12.Le τ13 ∧ ESub ρ [(0, .Pb ba0), (4, .E0), (5, v7), (14, v7), (15, .I (r3.1.length : Int)), (16, .I s12.1)] ∧ gs = [[(ba0, .cells #[.Pb ba0p0, .I s13] 162 (0, 0))], [(ba0p0, .cells #[v9, .I r3.2.2.1, .I r3.2.2.2] 137 (0, 0))]]) ?_ (fun hk13 => ?_)
  ·rintro ρ13 τ13 gs13 ⟨s13, h, hl13, hρ, rfl⟩
   refine st_es hρ ?_
   refine Z 4 rfl ?_
   exact hn12 _ _ _ _ h ⟨(hl12.trans hl13), rfl, rfl⟩
  refine Z 3 rfl ?_
  obtain ⟨q14, hf15, h⟩ := h
  refine o_index rfl rfl rfl z_slT42 rfl rfl (hs8.up hl12) rfl hf15 (fun b16 of17 vs hc18 hrep => ?_)
  obtain rfl := hrep
  refine o_loadI (v := .int .u8 q14) rfl rfl rfl z_sc5 rfl (hc18 0 _ rfl) ?_
  refine Z 6 rfl ?_
  refine o_mif rfl rfl rfl rfl h (fun h => ?_) (fun h => ?_)
  ·refine Z 3 rfl ?_
   obtain ⟨r19, hr20, h⟩ := h
   refine st_call (foot := [[(ba0, .cells #[.Pb ba0p0, .I s12.2] 162 (0, 0))], [(ba0p0, .cells #[v9, .I r3.2.2.1, .I r3.2.2.2] 137 (0, 0))]]) rfl rfl rfl rfl rfl rfl (callV_fn z_en110 (body_reader_note_ok hr20 τ12 (hs10.up hl12))) ?_
   rintro vτ21 τ21 gsτ21 hl22 ⟨rfl, rfl⟩
   refine Z 2 rfl ?_
   exact hk13 _ _ _ ⟨r19.2, h, hl22, rfl, rfl⟩
  ·refine Z 3 rfl ?_
   obtain ⟨r23, hr24, h⟩ := h
   refine st_call (foot := [[(ba0, .cells #[.Pb ba0p0, .I s12.2] 162 (0, 0))], [(ba0p0, .cells #[v9, .I r3.2.2.1, .I r3.2.2.2] 137 (0, 0))]]) rfl rfl rfl rfl rfl rfl (callV_fn z_en110 (body_reader_note_ok hr24 τ12 (hs10.up hl12))) ?_
   rintro vτ25 τ25 gsτ25 hl26 ⟨rfl, rfl⟩
   refine Z 2 rfl ?_
   exact hk13 _ _ _ ⟨r23.2, h, hl26, rfl, rfl⟩
 ·refine st_exit rfl ?_
  obtain rfl := he12 _ h
  replace h := hA12
  exact hk11 _ _ _ ⟨s12.2, h, hl12, rfl, rfl⟩
theorem body_reader_field_ok {a0 : Unit × Int} {a0p0 : List Int × Int × Int} {a1 : TyM} {a2 : TyA} {ba0 : Nat} {ba0p0 : Nat} {v1 : Value} {ba1 : Nat} {v3 : Value} {v4 : Value} {r : (Unit × Int) × (List Int × Int × Int) × (TyM)} (h : body_reader_field a0 a0p0 a1 a2 r) (σ : Sto) (hs2 : Sl (kI .u8) σ v1 a0p0.1) (hs5 : Sl (kP (kI .i64) (kI .i64)) σ v3 a1.2.2.1) (hs6 : Sl (kI .i64) σ v4 a1.2.2.2.1) :
    Does Tryz.prog 94 [.Pb ba0, .Pb ba1, .agg (lA a2).toArray] σ [[(ba0, .cells [.Pb ba0p0, .I a0.2].toArray 162 (0, 0))], [(ba0p0, .cells [v1, .I a0p0.2.1, .I a0p0.2.2].toArray 137 (0, 0))], [(ba1, .cells (lM a1 v3 v4).toArray 30 (0, 0))]] (fun v τ gs => ∃ (v65 : Value) (v67 : Value) (v68 : Value), gs = [[(ba0, .cells [.Pb ba0p0, .I r.1.2].toArray 162 (0, 0))], [(ba0p0, .cells [v65, .I r.2.1.2.1, .I r.2.1.2.2].toArray 137 (0, 0))], [(ba1, .cells (lM r.2.2 v67 v68).toArray 30 (0, 0))]] ∧ .tuple [].toArray = v ∧ Sl (kI .u8) τ v65 r.2.1.1 ∧ Sl (kP (kI .i64) (kI .i64)) τ v67 r.t4.1 ∧ Sl (kI .i64) τ v68 r.t4.2.1) := by
 refine call_of Tryz.func94 Tryz.ntmps94 rfl rfl (fun cs fs => ?_)
 refine Z 2 rfl ?_
 refine o_boxC rfl rfl rfl rfl rfl rfl (fun b7 => ?_)
 refine ZZ 12 [0] rfl rfl ?_
 refine st_if rfl h (fun h => ?_) (fun h => ?_)
 ·refine st_seq ?_
  obtain ⟨r8, hr9, hf16, hf17, h⟩ := h
  refine st_d42 [[(b7, .cells (lA a2).toArray 89 (0, 0))], [(ba0, .cells #[.Pb ba0p0, .I a0.2] 162 (0, 0))]] [[(ba0p0, .cells #[v1, .I a0p0.2.1, .I a0p0.2.2] 137 (0, 0))]] [[(ba1, .cells (lM a1 v3 v4).toArray 30 (0, 0))]] 16 1 1 [none, none, none, none, none, none, none, none, none, none, some (0, 0), none, none, none, none, some (1, 0)] [none, none, none, none, none, none, none, none, none, none, none, none, none, none, none, none] [[none, some 20], [none, none]] [.v (.Pb ba1), .v (.pointer (some ⟨b7, 2, none⟩)), .v (.I a2.2.2.1), .v (.Pb ba0), .v (.Pb ba0), .v (.Pb ba0), .v (.Pb ba0p0), .v (.pointer (some ⟨b7, 4, none⟩)), .v (.I a2.t4.1), .v (.int .u64 (IntKind.u64.wrap a2.t4.1)), .v (.int .u64 r8.1), .v (.I (IntKind.i64.wrap r8.1)), .v (.Pb ba1), .v (.pointer (some ⟨ba1, 1, none⟩)), .v (.pointer (some ⟨ba1, 1 + a2.2.2.1.toNat * 1, none⟩)), .t fun _ _ => True] [[fun τ u F => F = [[(ba0p0, .cells #[v1, .I a0p0.2.1, .I a0p0.2.2] 137 (0, 0))]], fun τ u F => ∃ (v14 : Value), F = [[(ba0p0, .cells #[v14, .I r8.2.2.1, .I r8.2.2.2] 137 (0, 0))]] ∧ Sl (kI .u8) τ v14 r8.2.1], [fun τ u F => F = [[(ba1, .cells (lM a1 v3 v4).toArray 30 (0, 0))]], fun τ u F => F = [[(ba1, .cells #[.I a1.1, .I ((putN 6 0 a1.2.1 a2.2.2.1.toNat (IntKind.i64.wrap r8.1)).getD 0 0), .I ((putN 6 0 a1.2.1 a2.2.2.1.toNat (IntKind.i64.wrap r8.1)).getD 1 0), .I ((putN 6 0 a1.2.1 a2.2.2.1.toNat (IntKind.i64.wrap r8.1)).getD 2 0), .I ((putN 6 0 a1.2.1 a2.2.2.1.toNat (IntKind.i64.wrap r8.1)).getD 3 0), .I ((putN 6 0 a1.2.1 a2.2.2.1.toNat (IntKind.i64.wrap r8.1)).getD 4 0), .I ((putN 6 0 a1.2.1 a2.2.2.1.toNat (IntKind.i64.wrap r8.1)).getD 5 0), v3, v4, .string a1.t4.1, .string a1.t4.2] 30 (0, 0))]]]] rfl z_mix rfl ⟨fun _ _ _ _ _ => trivial, trivial⟩ ⟨⟨fun _ _ _ _ hl h => h, ⟨fun _ _ _ _ hl h => (let ⟨v14, hF, hs15⟩ := h; ⟨v14, hF, hs15.up hl⟩), trivial⟩⟩, ⟨⟨fun _ _ _ _ hl h => h, ⟨fun _ _ _ _ hl h => h, trivial⟩⟩, trivial⟩⟩ rfl rfl ?_ ?_ (allB_cons (allB_cons (allB_cons (allB_cons (allB_cons (allB_cons (allB_cons (allB_cons (allB_cons (allB_cons (allB_cons (allB_cons (allB_cons (allB_cons (allB_cons (allB_cons allB_nil (p4 dA)) (p4 dA)) ?_) (p4 dA)) (p4 dA)) (p4 dA)) ?_) (p4 dA)) ?_) (p4 dA)) ?_) (p4 dA)) (p4 dA)) (p4 dA)) ?_) ?_) ?_
  ·exact rfl
  ·exact rfl
  ·intro ρ' τ pool rs hl hd hout hw hk
   obtain ⟨_, e1, rfl⟩ := hd 1 rfl _ rfl
   refine o_load (j := 0) (v := .I a2.2.2.1) rfl rfl rfl z_sc3 e1 rfl rfl ?_
   exact hk _ _ (Sto.Le.refl _) rfl
  ·intro ρ' τ pool rs hl hd hout hw hk
   obtain ⟨_, e5, rfl⟩ := hd 5 rfl _ rfl
   refine o_load (j := 1) (v := .Pb ba0p0) rfl rfl rfl z_sc113 e5 rfl rfl ?_
   exact hk _ _ (Sto.Le.refl _) rfl
  ·intro ρ' τ pool rs hl hd hout hw hk
   obtain ⟨_, e7, rfl⟩ := hd 7 rfl _ rfl
   refine o_load (j := 0) (v := .I a2.t4.1) rfl rfl rfl z_sc3 e7 rfl rfl ?_
   exact hk _ _ (Sto.Le.refl _) rfl
  ·intro ρ' τ u Fv pool rs hl hI hu hd hout hw hk
   obtain ⟨_, e6, rfl⟩ := hd 6 rfl _ rfl
   obtain ⟨_, e9, rfl⟩ := hd 9 rfl _ rfl
   have hI0 := hI
   obtain rfl := hI
   refine st_ord [2, 0, 0, 0] _ rfl ?_
   refine st_call (foot := [[(ba0p0, .cells #[v1, .I a0p0.2.1, .I a0p0.2.2] 137 (0, 0))]]) rfl rfl rfl rfl (evs_cons e6 (evs_cons e9 rfl)) rfl (callV_fn z_en109 (lens_Lens_Number_ok hr9 τ (hs2.up hl))) ?_
   rintro vτ10 τ10 gsτ10 hl11 ⟨v12, rfl, rfl, hs13⟩
   refine st_ord [1, 1, 0, 0] _ rfl ?_
   exact hk _ _ [[(ba0p0, .cells #[v12, .I r8.2.2.1, .I r8.2.2.2] 137 (0, 0))]] hl11 rfl (by exact ⟨v12, rfl, hs13⟩)
  ·intro ρ' τ pool rs hl hd hout hw hk
   obtain ⟨_, e2, rfl⟩ := hd 2 rfl _ rfl
   obtain ⟨_, e13, rfl⟩ := hd 13 rfl _ rfl
   refine o_indexA rfl rfl rfl z_arr26 e13 e2 hf16 hf17 ?_
   exact hk _ _ (Sto.Le.refl _) rfl
  ·intro ρ' τ u Fv pool rs hl hI hu hd hout hw hk
   obtain ⟨_, e11, rfl⟩ := hd 11 rfl _ rfl
   obtain ⟨_, e14, rfl⟩ := hd 14 rfl _ rfl
   have hI0 := hI
   obtain rfl := hI
   refine o_storeV (j := 2) (a2.2.2.1.toNat) (f := (Value.int .i64)) (zz := 0) (a := (IntKind.i64.wrap r8.1)) (l := 6) (xs := a1.2.1) [.I a1.1] [v3, v4, .string a1.t4.1, .string a1.t4.2] rfl rfl rfl z_size3 e14 e11 rfl rfl rfl (by simp only [List.length_cons, List.length_nil] <;> omega) (by omega) ?_
   exact hk _ _ [[(ba1, .cells #[.I a1.1, .I ((putN 6 0 a1.2.1 a2.2.2.1.toNat (IntKind.i64.wrap r8.1)).getD 0 0), .I ((putN 6 0 a1.2.1 a2.2.2.1.toNat (IntKind.i64.wrap r8.1)).getD 1 0), .I ((putN 6 0 a1.2.1 a2.2.2.1.toNat (IntKind.i64.wrap r8.1)).getD 2 0), .I ((putN 6 0 a1.2.1 a2.2.2.1.toNat (IntKind.i64.wrap r8.1)).getD 3 0), .I ((putN 6 0 a1.2.1 a2.2.2.1.toNat (IntKind.i64.wrap r8.1)).getD 4 0), .I ((putN 6 0 a1.2.1 a2.2.2.1.toNat (IntKind.i64.wrap r8.1)).getD 5 0), v3, v4, .string a1.t4.1, .string a1.t4.2] 30 (0, 0))]] (Sto.Le.refl _) trivial (by exact rfl)
  intro ρ' τ18 vals u u1 Fv Fv1 hl18 hI hu hI1 hu1 hv hout
  obtain ⟨v14, rfl, hs15⟩ := hI
  obtain rfl := hI1
  refine st_env (ρ' := [(0, .Pb ba0), (1, .Pb ba1), (5, .Pb b7)]) ⟨(hout 0 rfl).trans rfl, (hout 1 rfl).trans rfl, (hout 5 rfl).trans rfl, trivial⟩ ?_
  refine st_end ?_
  obtain ⟨hf19, hf20, r21, hr22, h⟩ := h
  refine st_ord [0, 1, 1, 0] _ rfl ?_
  refine st_d41 [[(b7, .cells (lA a2).toArray 89 (0, 0))], [(ba0p0, .cells #[v14, .I r8.2.2.1, .I r8.2.2.2] 137 (0, 0))], [(ba1, .cells #[.I a1.1, .I ((putN 6 0 a1.2.1 a2.2.2.1.toNat (IntKind.i64.wrap r8.1)).getD 0 0), .I ((putN 6 0 a1.2.1 a2.2.2.1.toNat (IntKind.i64.wrap r8.1)).getD 1 0), .I ((putN 6 0 a1.2.1 a2.2.2.1.toNat (IntKind.i64.wrap r8.1)).getD 2 0), .I ((putN 6 0 a1.2.1 a2.2.2.1.toNat (IntKind.i64.wrap r8.1)).getD 3 0), .I ((putN 6 0 a1.2.1 a2.2.2.1.toNat (IntKind.i64.wrap r8.1)).getD 4 0), .I ((putN 6 0 a1.2.1 a2.2.2.1.toNat (IntKind.i64.wrap r8.1)).getD 5 0), v3, v4, .string a1.t4.1, .string a1.t4.2] 30 (0, 0))]] [[(ba0, .cells #[.Pb ba0p0, .I a0.2] 162 (0, 0))]] 12 1 [none, none, none, none, none, none, none, none, none, none, none, some (0, 0)] [none, none, none, none, none, none, none, none, none, none, none, none] [[none, some 36]] [.v (.Pb ba0), .v (.Pb ba1), .v (.pointer (some ⟨b7, 2, none⟩)), .v (.I a2.2.2.1), .v (.Pb ba1), .v (.pointer (some ⟨ba1, 1, none⟩)), .v (.pointer (some ⟨ba1, 1 + a2.2.2.1.toNat * 1, none⟩)), .v (.I ((putN 6 0 a1.2.1 a2.2.2.1.toNat (IntKind.i64.wrap r8.1)).getD a2.2.2.1.toNat 0)), .v (.pointer (some ⟨b7, 3, none⟩)), .v (.I a2.2.2.2.1), .v (.bool (decide (((putN 6 0 a1.2.1 a2.2.2.1.toNat (IntKind.i64.wrap r8.1)).getD a2.2.2.1.toNat 0) < a2.2.2.2.1))), .v (.tuple #[])] [[fun τ u F => F = [[(ba0, .cells #[.Pb ba0p0, .I a0.2] 162 (0, 0))]], fun τ u F => F = [[(ba0, .cells #[.Pb ba0p0, .I r21.2] 162 (0, 0))]]]] rfl z_mix rfl trivial ⟨⟨fun _ _ _ _ hl h => h, ⟨fun _ _ _ _ hl h => h, trivial⟩⟩, trivial⟩ rfl rfl ?_ (allB_cons (allB_cons (allB_cons (allB_cons (allB_cons (allB_cons (allB_cons (allB_cons (allB_cons (allB_cons (allB_cons (allB_cons allB_nil (p4 dA)) (p4 dA)) (p4 dA)) ?_) (p4 dA)) (p4 dA)) ?_) ?_) (p4 dA)) ?_) (p4 dA)) ?_) ?_
  ·exact rfl
  ·intro ρ' τ pool rs hl hd hout hw hk
   obtain ⟨_, e2, rfl⟩ := hd 2 rfl _ rfl
   refine o_load (j := 0) (v := .I a2.2.2.1) rfl rfl rfl z_sc3 e2 rfl rfl ?_
   exact hk _ _ (Sto.Le.refl _) rfl
  ·intro ρ' τ pool rs hl hd hout hw hk
   obtain ⟨_, e3, rfl⟩ := hd 3 rfl _ rfl
   obtain ⟨_, e5, rfl⟩ := hd 5 rfl _ rfl
   refine o_indexA rfl rfl rfl z_arr26 e5 e3 hf19 hf20 ?_
   exact hk _ _ (Sto.Le.refl _) rfl
  ·intro ρ' τ pool rs hl hd hout hw hk
   obtain ⟨_, e6, rfl⟩ := hd 6 rfl _ rfl
   refine o_loadV (j := 2) (a2.2.2.1.toNat) (f := (Value.int .i64)) (zz := 0) (l := 6) (xs := (putN 6 0 a1.2.1 a2.2.2.1.toNat (IntKind.i64.wrap r8.1))) [.I a1.1] [v3, v4, .string a1.t4.1, .string a1.t4.2] rfl rfl rfl z_sc3 e6 rfl (by simp only [List.length_cons, List.length_nil] <;> omega) (by omega) ?_
   exact hk _ _ (Sto.Le.refl _) rfl
  ·intro ρ' τ pool rs hl hd hout hw hk
   obtain ⟨_, e8, rfl⟩ := hd 8 rfl _ rfl
   refine o_load (j := 0) (v := .I a2.2.2.2.1) rfl rfl rfl z_sc3 e8 rfl rfl ?_
   exact hk _ _ (Sto.Le.refl _) rfl
  ·intro ρ' τ u Fv pool rs hl hI hu hd hout hw hk
   obtain ⟨_, e0, rfl⟩ := hd 0 rfl _ rfl
   obtain ⟨_, e10, rfl⟩ := hd 10 rfl _ rfl
   have hI0 := hI
   obtain rfl := hI
   refine st_ord [3, 1, 0, 0, 0] _ rfl ?_
   refine st_call (foot := [[(ba0, .cells #[.Pb ba0p0, .I a0.2] 162 (0, 0))], [(ba0p0, .cells #[v14, .I r8.2.2.1, .I r8.2.2.2] 137 (0, 0))]]) rfl rfl rfl rfl (evs_cons e0 (evs_cons e10 (evs_cons rfl rfl))) rfl (callV_fn z_en110 (body_reader_note_ok hr22 τ (hs15.up hl))) ?_
   rintro vτ23 τ23 gsτ23 hl24 ⟨rfl, rfl⟩
   refine st_ord [2, 1, 1, 0, 0] _ rfl ?_
   exact hk _ _ [[(ba0, .cells #[.Pb ba0p0, .I r21.2] 162 (0, 0))]] hl24 rfl (by exact rfl)
  intro ρ' τ25 vals u Fv hl25 hI hu hv hout
  obtain rfl := hI
  refine st_env (ρ' := []) trivial ?_
  refine Z 2 rfl ?_
  refine st_ord [3, 1, 1] _ rfl ?_
  obtain rfl := Eq.symm h
  exact st_fin (gs' := [[(ba0, .cells #[.Pb ba0p0, .I r21.2] 162 (0, 0))], [(ba0p0, .cells #[v14, .I r8.2.2.1, .I r8.2.2.2] 137 (0, 0))], [(ba1, .cells #[.I a1.1, .I ((putN 6 0 a1.2.1 a2.2.2.1.toNat (IntKind.i64.wrap r8.1)).getD 0 0), .I ((putN 6 0 a1.2.1 a2.2.2.1.toNat (IntKind.i64.wrap r8.1)).getD 1 0), .I ((putN 6 0 a1.2.1 a2.2.2.1.toNat (IntKind.i64.wrap r8.1)).getD 2 0), .I ((putN 6 0 a1.2.1 a2.2.2.1.toNat (IntKind.i64.wrap r8.1)).getD 3 0), .I ((putN 6 0 a1.2.1 a2.2.2.1.toNat (IntKind.i64.wrap r8.1)).getD 4 0), .I ((putN 6 0 a1.2.1 a2.2.2.1.toNat (IntKind.i64.wrap r8.1)).getD 5 0), v3, v4, .string a1.t4.1, .string a1.t4.2] 30 (0, 0))]]) Tryz.func94 rfl (List.Sublist.refl _) (hl18.trans hl25) ⟨_, _, _, rfl, rfl, (hs15.up hl25), (hs5.up (hl18.trans hl25)), (hs6.up (hl18.trans hl25))⟩
 ·refine Z 5 rfl ?_
  refine st_if rfl h (fun h => ?_) (fun h => ?_)
  ·obtain ⟨r26, hr27, hf34, hf35, h⟩ := h
   refine st_d42 [[(b7, .cells (lA a2).toArray 89 (0, 0))], [(ba0, .cells #[.Pb ba0p0, .I a0.2] 162 (0, 0))]] [[(ba0p0, .cells #[v1, .I a0p0.2.1, .I a0p0.2.2] 137 (0, 0))]] [[(ba1, .cells (lM a1 v3 v4).toArray 30 (0, 0))]] 16 1 1 [none, none, none, none, none, none, none, none, none, none, none, some (0, 0), none, none, none, some (1, 0)] [none, none, none, none, none, none, none, none, none, none, none, none, none, none, none, none] [[none, some 50], [none, none]] [.v (.Pb ba1), .v (.pointer (some ⟨b7, 2, none⟩)), .v (.I a2.2.2.1), .v (.Pb ba0), .v (.Pb ba0), .v (.Pb ba0), .v (.Pb ba0p0), .v (.pointer (some ⟨b7, 3, none⟩)), .v (.I a2.2.2.2.1), .v (.pointer (some ⟨b7, 4, none⟩)), .v (.I a2.t4.1), .v (.I r26.1), .v (.Pb ba1), .v (.pointer (some ⟨ba1, 1, none⟩)), .v (.pointer (some ⟨ba1, 1 + a2.2.2.1.toNat * 1, none⟩)), .t fun _ _ => True] [[fun τ u F => F = [[(ba0p0, .cells #[v1, .I a0p0.2.1, .I a0p0.2.2] 137 (0, 0))]], fun τ u F => ∃ (v32 : Value), F = [[(ba0p0, .cells #[v32, .I r26.2.2.1, .I r26.2.2.2] 137 (0, 0))]] ∧ Sl (kI .u8) τ v32 r26.2.1], [fun τ u F => F = [[(ba1, .cells (lM a1 v3 v4).toArray 30 (0, 0))]], fun τ u F => F = [[(ba1, .cells #[.I a1.1, .I ((putN 6 0 a1.2.1 a2.2.2.1.toNat r26.1).getD 0 0), .I ((putN 6 0 a1.2.1 a2.2.2.1.toNat r26.1).getD 1 0), .I ((putN 6 0 a1.2.1 a2.2.2.1.toNat r26.1).getD 2 0), .I ((putN 6 0 a1.2.1 a2.2.2.1.toNat r26.1).getD 3 0), .I ((putN 6 0 a1.2.1 a2.2.2.1.toNat r26.1).getD 4 0), .I ((putN 6 0 a1.2.1 a2.2.2.1.toNat r26.1).getD 5 0), v3, v4, .string a1.t4.1, .string a1.t4.2] 30 (0, 0))]]]] rfl z_mix rfl ⟨fun _ _ _ _ _ => trivial, trivial⟩ ⟨⟨fun _ _ _ _ hl h => h, ⟨fun _ _ _ _ hl h => (let ⟨v32, hF, hs33⟩ := h; ⟨v32, hF, hs33.up hl⟩), trivial⟩⟩, ⟨⟨fun _ _ _ _ hl h => h, ⟨fun _ _ _ _ hl h => h, trivial⟩⟩, trivial⟩⟩ rfl rfl ?_ ?_ (allB_cons (allB_cons (allB_cons (allB_cons (allB_cons (allB_cons (allB_cons (allB_cons (allB_cons (allB_cons (allB_cons (allB_cons (allB_cons (allB_cons (allB_cons (allB_cons allB_nil (p4 dA)) (p4 dA)) ?_) (p4 dA)) (p4 dA)) (p4 dA)) ?_) (p4 dA)) ?_) (p4 dA)) ?_) ?_) (p4 dA)) (p4 dA)) ?_) ?_) ?_
   ·exact rfl
   ·exact rfl
   ·intro ρ' τ pool rs hl hd hout hw hk
    obtain ⟨_, e1, rfl⟩ := hd 1 rfl _ rfl
    refine o_load (j := 0) (v := .I a2.2.2.1) rfl rfl rfl z_sc3 e1 rfl rfl ?_
    exact hk _ _ (Sto.Le.refl _) rfl
   ·intro ρ' τ pool rs hl hd hout hw hk
    obtain ⟨_, e5, rfl⟩ := hd 5 rfl _ rfl
    refine o_load (j := 1) (v := .Pb ba0p0) rfl rfl rfl z_sc113 e5 rfl rfl ?_
    exact hk _ _ (Sto.Le.refl _) rfl
   ·intro ρ' τ pool rs hl hd hout hw hk
    obtain ⟨_, e7, rfl⟩ := hd 7 rfl _ rfl
    refine o_load (j := 0) (v := .I a2.2.2.2.1) rfl rfl rfl z_sc3 e7 rfl rfl ?_
    exact hk _ _ (Sto.Le.refl _) rfl
   ·intro ρ' τ pool rs hl hd hout hw hk
    obtain ⟨_, e9, rfl⟩ := hd 9 rfl _ rfl
    refine o_load (j := 0) (v := .I a2.t4.1) rfl rfl rfl z_sc3 e9 rfl rfl ?_
    exact hk _ _ (Sto.Le.refl _) rfl
   ·intro ρ' τ u Fv pool rs hl hI hu hd hout hw hk
    obtain ⟨_, e6, rfl⟩ := hd 6 rfl _ rfl
    obtain ⟨_, e8, rfl⟩ := hd 8 rfl _ rfl
    obtain ⟨_, e10, rfl⟩ := hd 10 rfl _ rfl
    have hI0 := hI
    obtain rfl := hI
    refine st_ord [2, 0, 0, 0] _ rfl ?_
    refine st_call (foot := [[(ba0p0, .cells #[v1, .I a0p0.2.1, .I a0p0.2.2] 137 (0, 0))]]) rfl rfl rfl rfl (evs_cons e6 (evs_cons e8 (evs_cons e10 rfl))) rfl (callV_fn z_en111 (lens_Lens_Signed_ok hr27 τ (hs2.up hl))) ?_
    rintro vτ28 τ28 gsτ28 hl29 ⟨v30, rfl, rfl, hs31⟩
    refine st_ord [1, 1, 0, 0] _ rfl ?_
    exact hk _ _ [[(ba0p0, .cells #[v30, .I r26.2.2.1, .I r26.2.2.2] 137 (0, 0))]] hl29 rfl (by exact ⟨v30, rfl, hs31⟩)
   ·intro ρ' τ pool rs hl hd hout hw hk
    obtain ⟨_, e2, rfl⟩ := hd 2 rfl _ rfl
    obtain ⟨_, e13, rfl⟩ := hd 13 rfl _ rfl
    refine o_indexA rfl rfl rfl z_arr26 e13 e2 hf34 hf35 ?_
    exact hk _ _ (Sto.Le.refl _) rfl
   ·intro ρ' τ u Fv pool rs hl hI hu hd hout hw hk
    obtain ⟨_, e11, rfl⟩ := hd 11 rfl _ rfl
    obtain ⟨_, e14, rfl⟩ := hd 14 rfl _ rfl
    have hI0 := hI
    obtain rfl := hI
    refine o_storeV (j := 2) (a2.2.2.1.toNat) (f := (Value.int .i64)) (zz := 0) (a := r26.1) (l := 6) (xs := a1.2.1) [.I a1.1] [v3, v4, .string a1.t4.1, .string a1.t4.2] rfl rfl rfl z_size3 e14 e11 rfl rfl rfl (by simp only [List.length_cons, List.length_nil] <;> omega) (by omega) ?_
    exact hk _ _ [[(ba1, .cells #[.I a1.1, .I ((putN 6 0 a1.2.1 a2.2.2.1.toNat r26.1).getD 0 0), .I ((putN 6 0 a1.2.1 a2.2.2.1.toNat r26.1).getD 1 0), .I ((putN 6 0 a1.2.1 a2.2.2.1.toNat r26.1).getD 2 0), .I ((putN 6 0 a1.2.1 a2.2.2.1.toNat r26.1).getD 3 0), .I ((putN 6 0 a1.2.1 a2.2.2.1.toNat r26.1).getD 4 0), .I ((putN 6 0 a1.2.1 a2.2.2.1.toNat r26.1).getD 5 0), v3, v4, .string a1.t4.1, .string a1.t4.2] 30 (0, 0))]] (Sto.Le.refl _) trivial (by exact rfl)
   intro ρ' τ36 vals u u1 Fv Fv1 hl36 hI hu hI1 hu1 hv hout
   obtain ⟨v32, rfl, hs33⟩ := hI
   obtain rfl := hI1
   refine st_env (ρ' := []) trivial ?_
   refine Z 2 rfl ?_
   refine st_ord [1, 1, 1] _ rfl ?_
   obtain rfl := Eq.symm h
   exact st_fin (gs' := [[(ba0, .cells #[.Pb ba0p0, .I a0.2] 162 (0, 0))], [(ba0p0, .cells #[v32, .I r26.2.2.1, .I r26.2.2.2] 137 (0, 0))], [(ba1, .cells #[.I a1.1, .I ((putN 6 0 a1.2.1 a2.2.2.1.toNat r26.1).getD 0 0), .I ((putN 6 0 a1.2.1 a2.2.2.1.toNat r26.1).getD 1 0), .I ((putN 6 0 a1.2.1 a2.2.2.1.toNat r26.1).getD 2 0), .I ((putN 6 0 a1.2.1 a2.2.2.1.toNat r26.1).getD 3 0), .I ((putN 6 0 a1.2.1 a2.2.2.1.toNat r26.1).getD 4 0), .I ((putN 6 0 a1.2.1 a2.2.2.1.toNat r26.1).getD 5 0), v3, v4, .string a1.t4.1, .string a1.t4.2] 30 (0, 0))]]) Tryz.func94 rfl (List.Sublist.refl _) hl36 ⟨_, _, _, rfl, rfl, hs33, (hs5.up hl36), (hs6.up hl36)⟩
  ·refine Z 5 rfl ?_
   refine st_if rfl h (fun h => ?_) (fun h => ?_)
   ·refine Z 3 rfl ?_
    obtain ⟨r37, hr38, h⟩ := h
    refine st_ord [1, 1, 0, 0] _ rfl ?_
    refine st_call (foot := [[(ba0, .cells #[.Pb ba0p0, .I a0.2] 162 (0, 0))], [(ba0p0, .cells #[v1, .I a0p0.2.1, .I a0p0.2.2] 137 (0, 0))]]) rfl rfl rfl rfl rfl rfl (callV_fn z_en112 (body_reader_points_ok hr38 σ hs2)) ?_
    rintro vτ39 τ39 gsτ39 hl40 ⟨v41, v43, rfl, rfl, hs42, hs44⟩
    refine Z 2 rfl ?_
    refine o_store (j := 3) (vs := [v41]) (cs' := (lM a1 v41 v4)) rfl rfl rfl z_size27 rfl rfl (oneL_sl hs42) (ones_cons hs42.one' ones_nil) rfl rfl rfl ?_
    refine Z 2 rfl ?_
    refine st_ord [0, 0, 1] _ rfl ?_
    obtain rfl := Eq.symm h
    exact st_fin (gs' := [[(ba0, .cells #[.Pb ba0p0, .I r37.2.1.2] 162 (0, 0))], [(ba0p0, .cells #[v43, .I r37.2.2.2.1, .I r37.t4] 137 (0, 0))], [(ba1, .cells (lM a1 v41 v4).toArray 30 (0, 0))]]) Tryz.func94 rfl (List.Sublist.refl _) hl40 ⟨_, _, _, rfl, rfl, hs44, hs42, (hs6.up hl40)⟩
   ·refine Z 5 rfl ?_
    refine st_if rfl h (fun h => ?_) (fun h => ?_)
    ·refine Z 3 rfl ?_
     obtain ⟨r45, hr46, h⟩ := h
     refine st_ord [1, 1, 0, 0] _ rfl ?_
     refine st_call (foot := [[(ba0, .cells #[.Pb ba0p0, .I a0.2] 162 (0, 0))], [(ba0p0, .cells #[v1, .I a0p0.2.1, .I a0p0.2.2] 137 (0, 0))]]) rfl rfl rfl rfl rfl rfl (callV_fn z_en113 (body_reader_cells_ok hr46 σ hs2)) ?_
     rintro vτ47 τ47 gsτ47 hl48 ⟨v49, v51, rfl, rfl, hs50, hs52⟩
     refine Z 2 rfl ?_
     refine o_store (j := 3) (vs := [v49]) (cs' := (lM a1 v3 v49)) rfl rfl rfl z_size28 rfl rfl (oneL_sl hs50) (ones_cons hs50.one' ones_nil) rfl rfl rfl ?_
     refine Z 2 rfl ?_
     refine st_ord [0, 0, 1] _ rfl ?_
     obtain rfl := Eq.symm h
     exact st_fin (gs' := [[(ba0, .cells #[.Pb ba0p0, .I r45.2.1.2] 162 (0, 0))], [(ba0p0, .cells #[v51, .I r45.2.2.2.1, .I r45.t4] 137 (0, 0))], [(ba1, .cells (lM a1 v3 v49).toArray 30 (0, 0))]]) Tryz.func94 rfl (List.Sublist.refl _) hl48 ⟨_, _, _, rfl, rfl, hs52, (hs5.up hl48), hs50⟩
    ·refine Z 5 rfl ?_
     refine st_if rfl h (fun h => ?_) (fun h => ?_)
     ·refine ZZ 5 [0] rfl rfl ?_
      obtain ⟨r53, hr54, h⟩ := h
      refine st_ord [1, 1, 0, 0] _ rfl ?_
      refine st_call (foot := [[(ba0, .cells #[.Pb ba0p0, .I a0.2] 162 (0, 0))], [(ba0p0, .cells #[v1, .I a0p0.2.1, .I a0p0.2.2] 137 (0, 0))]]) rfl rfl rfl rfl rfl rfl (callV_fn z_en114 (body_reader_text_ok hr54 σ hs2)) ?_
      rintro vτ55 τ55 gsτ55 hl56 ⟨v57, rfl, rfl, hs58⟩
      refine ZZ 5 [3] rfl rfl ?_
      refine st_ord [0, 0, 1] _ rfl ?_
      obtain rfl := Eq.symm h
      exact st_fin (gs' := [[(ba0, .cells #[.Pb ba0p0, .I r53.2.1.2] 162 (0, 0))], [(ba0p0, .cells #[v57, .I r53.2.2.2.1, .I r53.t4] 137 (0, 0))], [(ba1, .cells #[.I a1.1, .I (a1.2.1.getD 0 0), .I (a1.2.1.getD 1 0), .I (a1.2.1.getD 2 0), .I (a1.2.1.getD 3 0), .I (a1.2.1.getD 4 0), .I (a1.2.1.getD 5 0), v3, v4, .string r53.1, .string a1.t4.2] 30 (0, 0))]]) Tryz.func94 rfl (List.Sublist.refl _) hl56 ⟨_, _, _, rfl, rfl, hs58, (hs5.up hl56), (hs6.up hl56)⟩
     ·refine Z 5 rfl ?_
      refine st_if rfl h (fun h => ?_) (fun h => ?_)
      ·refine ZZ 5 [0] rfl rfl ?_
       obtain ⟨r59, hr60, h⟩ := h
       refine st_ord [1, 1, 0, 0] _ rfl ?_
       refine st_call (foot := [[(ba0, .cells #[.Pb ba0p0, .I a0.2] 162 (0, 0))], [(ba0p0, .cells #[v1, .I a0p0.2.1, .I a0p0.2.2] 137 (0, 0))]]) rfl rfl rfl rfl rfl rfl (callV_fn z_en114 (body_reader_text_ok hr60 σ hs2)) ?_
       rintro vτ61 τ61 gsτ61 hl62 ⟨v63, rfl, rfl, hs64⟩
       refine ZZ 5 [3] rfl rfl ?_
       refine st_ord [0, 0, 1] _ rfl ?_
       obtain rfl := Eq.symm h
       exact st_fin (gs' := [[(ba0, .cells #[.Pb ba0p0, .I r59.2.1.2] 162 (0, 0))], [(ba0p0, .cells #[v63, .I r59.2.2.2.1, .I r59.t4] 137 (0, 0))], [(ba1, .cells #[.I a1.1, .I (a1.2.1.getD 0 0), .I (a1.2.1.getD 1 0), .I (a1.2.1.getD 2 0), .I (a1.2.1.getD 3 0), .I (a1.2.1.getD 4 0), .I (a1.2.1.getD 5 0), v3, v4, .string a1.t4.1, .string r59.1] 30 (0, 0))]]) Tryz.func94 rfl (List.Sublist.refl _) hl62 ⟨_, _, _, rfl, rfl, hs64, (hs5.up hl62), (hs6.up hl62)⟩
      ·refine Z 2 rfl ?_
       refine st_ord [1, 1, 1] _ rfl ?_
       obtain rfl := Eq.symm h
       exact st_fin (gs' := [[(ba0, .cells #[.Pb ba0p0, .I a0.2] 162 (0, 0))], [(ba0p0, .cells #[v1, .I a0p0.2.1, .I a0p0.2.2] 137 (0, 0))], [(ba1, .cells (lM a1 v3 v4).toArray 30 (0, 0))]]) Tryz.func94 rfl (List.Sublist.refl _) (Sto.Le.refl _) ⟨_, _, _, rfl, rfl, hs2, hs5, hs6⟩
theorem lens_Lens_End_ok {a0 : List Int × Int × Int} {ba0 : Nat} {v1 : Value} {r : Int} (h : lens_Lens_End a0 r) (σ : Sto) (hs2 : Sl (kI .u8) σ v1 a0.1) :
    Does Tryz.prog 84 [.Pb ba0] σ [[(ba0, .cells [v1, .I a0.2.1, .I a0.2.2].toArray 137 (0, 0))]] (fun v τ gs => gs = [[(ba0, .cells [v1, .I a0.2.1, .I a0.2.2].toArray 137 (0, 0))]] ∧ .I r = v) := by
 refine call_of Tryz.func84 Tryz.ntmps84 rfl rfl (fun cs fs => ?_)
 refine Z 8 rfl ?_
 obtain ⟨r3, hr4, h⟩ := h
 refine st_call (foot := [[(ba0, .cells #[v1, .I a0.2.1, .I a0.2.2] 137 (0, 0))]]) rfl rfl rfl rfl rfl rfl (callV_fn z_en63 (lens_Lens_Err_ok hr4 σ hs2)) ?_
 rintro vτ5 τ5 gsτ5 hl6 ⟨rfl, rfl⟩
 refine Z 3 rfl ?_
 refine st_cut (fun ρ τ7 gs => ∃ (s7 : Bool), lens_Lens_End_j1 r3 s7 r ∧ τ5.Le τ7 ∧ ESub ρ [(2, .I 0), (3, .I r3), (12, .bool s7)] ∧ gs = [[(ba0, .cells #[v1, .I a0.2.1, .I a0.2.2] 137 (0, 0))]]) ?_ (fun hk7 => ?_)
 ·rintro ρ7 τ7 gs7 ⟨s7, h, hl7, hρ, rfl⟩
  refine st_es hρ ?_
  refine st_if rfl h (fun h => ?_) (fun h => ?_)
  ·refine Z 5 rfl ?_
   obtain rfl := Eq.symm h
   exact st_ret (gs' := [[(ba0, .cells #[v1, .I a0.2.1, .I a0.2.2] 137 (0, 0))]]) Tryz.func84 rfl (List.Sublist.refl _) (hl6.trans hl7) ⟨rfl, rfl⟩
  ·refine Z 5 rfl ?_
   obtain rfl := Eq.symm h
   exact st_ret (gs' := [[(ba0, .cells #[v1, .I a0.2.1, .I a0.2.2] 137 (0, 0))]]) Tryz.func84 rfl (List.Sublist.refl _) (hl6.trans hl7) ⟨rfl, rfl⟩
 refine Z 3 rfl ?_
 refine o_mif rfl rfl rfl rfl h (fun h => ?_) (fun h => ?_)
 ·refine Z 5 rfl ?_
  exact hk7 _ _ _ ⟨true, h, (Sto.Le.refl _), rfl, rfl⟩
 ·refine o_move rfl rfl rfl rfl ?_
  obtain ⟨r8, hr9, h⟩ := h
  refine st_call (foot := [[(ba0, .cells #[v1, .I a0.2.1, .I a0.2.2] 137 (0, 0))]]) rfl rfl rfl rfl rfl rfl (callV_fn z_en60 (lens_Lens_Left_ok hr9 τ5 (hs2.up hl6))) ?_
  rintro vτ10 τ10 gsτ10 hl11 ⟨rfl, rfl⟩
  refine Z 3 rfl ?_
  exact hk7 _ _ _ ⟨(decide (r8 = 0)), h, hl11, rfl, rfl⟩
theorem slices_Clone_msg_Point_msg_Point_ok {a0 : List (Int × Int)} {v1 : Value} {r : (List (Int × Int))} (h : slices_Clone_msg_Point_msg_Point a0 r) (σ : Sto) (hs2 : Sl (kP (kI .i64) (kI .i64)) σ v1 a0) :
    Does Tryz.prog 124 [v1] σ [] (fun v τ gs => ∃ (v18 : Value), gs = [] ∧ v18 = v ∧ Sl (kP (kI .i64) (kI .i64)) τ v18 r) := by
 refine call_of Tryz.func124 Tryz.ntmps124 rfl rfl (fun cs fs => ?_)
 refine Z 8 rfl ?_
 refine o_slNil rfl rfl rfl Tryz.underlying27 rfl hs2 rfl (fun b3 hb4 => ?_)
 replace h := h b3 hb4
 refine st_end ?_
 refine st_if rfl h (fun h => ?_) (fun h => ?_)
 ·refine Z 4 rfl ?_
  obtain rfl := Eq.symm h
  exact st_ret (gs' := []) Tryz.func124 rfl (List.Sublist.refl _) (Sto.Le.refl _) ⟨_, rfl, rfl, Sl.nil⟩
 ·refine Z 3 rfl ?_
  refine o_lit (dk := (kP (kI .i64) (kI .i64))) (xs := ([] : List (Int × Int))) (ps := []) (cs := []) rfl rfl rfl z_slT27 z_zero84 trivial rfl rfl rfl rfl Kd.Many.nil (fun v5 g6 ho7 => ?_)
  refine o_move rfl rfl rfl rfl ?_
  obtain ⟨hf11, hf12, h⟩ := h
  refine o_append (dk := (kP (kI .i64) (kI .i64))) (xs := ([] : List (Int × Int))) (ys := a0) rfl rfl rfl rfl z_slT27 rfl ho7 rfl (Sl.src hs2) hf11 hf12 (fun v8 g9 ho10 => ?_)
  refine Z 2 rfl ?_
  refine st_freeze (fun τ13 hl14 hg15 => ?_)
  have hs16 := ho10.freeze hl14 hg15
  obtain rfl := Eq.symm h
  exact st_ret (gs' := []) Tryz.func124 rfl (List.Sublist.refl _) hl14 ⟨_, rfl, rfl, hs16⟩
theorem slices_Clone_int_int_ok {a0 : List Int} {v1 : Value} {r : List Int} (h : slices_Clone_int_int a0 r) (σ : Sto) (hs2 : Sl (kI .i64) σ v1 a0) :
    Does Tryz.prog 125 [v1] σ [] (fun v τ gs => ∃ (v18 : Value), gs = [] ∧ v18 = v ∧ Sl (kI .i64) τ v18 r) := by
 refine call_of Tryz.func125 Tryz.ntmps125 rfl rfl (fun cs fs => ?_)
 refine Z 8 rfl ?_
 refine o_slNil rfl rfl rfl Tryz.underlying28 rfl hs2 rfl (fun b3 hb4 => ?_)
 replace h := h b3 hb4
 refine st_end ?_
 refine st_if rfl h (fun h => ?_) (fun h => ?_)
 ·refine Z 4 rfl ?_
  obtain rfl := Eq.symm h
  exact st_ret (gs' := []) Tryz.func125 rfl (List.Sublist.refl _) (Sto.Le.refl _) ⟨_, rfl, rfl, Sl.nil⟩
 ·refine Z 3 rfl ?_
  refine o_lit (dk := (kI .i64)) (xs := ([] : List Int)) (ps := []) (cs := []) rfl rfl rfl z_slT28 z_zero3 trivial rfl rfl rfl rfl Kd.Many.nil (fun v5 g6 ho7 => ?_)
  refine o_move rfl rfl rfl rfl ?_
  obtain ⟨hf11, hf12, h⟩ := h
  refine o_append (dk := (kI .i64)) (xs := ([] : List Int)) (ys := a0) rfl rfl rfl rfl z_slT28 rfl ho7 rfl (Sl.src hs2) hf11 hf12 (fun v8 g9 ho10 => ?_)
  refine Z 2 rfl ?_
  refine st_freeze (fun τ13 hl14 hg15 => ?_)
  have hs16 := ho10.freeze hl14 hg15
  obtain rfl := Eq.symm h
  exact st_ret (gs' := []) Tryz.func125 rfl (List.Sublist.refl _) hl14 ⟨_, rfl, rfl, hs16⟩
theorem msg_Copy_ok {a0 : TyM} {v1 : Value} {v2 : Value} {r : (TyM)} (h : msg_Copy a0 r) (σ : Sto) (hs3 : Sl (kP (kI .i64) (kI .i64)) σ v1 a0.2.2.1) (hs4 : Sl (kI .i64) σ v2 a0.2.2.2.1) :
    Does Tryz.prog 115 [.agg (lM a0 v1 v2).toArray] σ [] (fun v τ gs => ∃ (v20 : Value) (v21 : Value), gs = [] ∧ .agg (lM r v20 v21).toArray = v ∧ Sl (kP (kI .i64) (kI .i64)) τ v20 r.2.2.1 ∧ Sl (kI .i64) τ v21 r.2.2.2.1) := by
 refine call_of Tryz.func115 Tryz.ntmps115 rfl rfl (fun cs fs => ?_)
 refine Z 2 rfl ?_
 refine o_box (cs := (lM a0 v1 v2)) rfl rfl rfl rfl rfl (fun b5 => ?_)
 refine o_alloc rfl rfl rfl z_zero30 (fun b6 => ?_)
 refine Z 2 rfl ?_
 obtain ⟨r7, hr8, r13, hr14, h⟩ := h
 refine st_draw 7 (dl [.v (.pointer (some ⟨b5, 7, none⟩)), .v (v1), .t fun τ v => ∃ (v11 : Value), (v11 : Value) = v ∧ Sl (kP (kI .i64) (kI .i64)) τ v11 r7, .v (.pointer (some ⟨b5, 8, none⟩)), .v (v2), .t fun τ v => ∃ (v17 : Value), (v17 : Value) = v ∧ Sl (kI .i64) τ v17 r13, .v (.pointer (some ⟨b5, 7, none⟩))]) (fun _ _ => []) z_mix rfl (dl_mono ⟨fun _ _ _ hl ⟨v11, hv, hs12⟩ => ⟨v11, hv, hs12.up hl⟩, ⟨fun _ _ _ hl ⟨v17, hv, hs18⟩ => ⟨v17, hv, hs18.up hl⟩, trivial⟩⟩) (allB_cons (allB_cons (allB_cons (allB_cons (allB_cons (allB_cons (allB_cons allB_nil (p1 dA)) ?_) ?_) (p1 dA)) ?_) ?_) (p1 dA)) ?_
 ·intro ρ' τ pool rs hl hd hout hk
  obtain ⟨_, e0, rfl⟩ := hd 0 rfl
  refine o_load (j := 1) (v := v1) rfl rfl rfl z_sc27 e0 rfl rfl ?_
  exact st_addNil (hk _ _ (Sto.Le.refl _) rfl)
 ·intro ρ' τ pool rs hl hd hout hk
  obtain ⟨_, e1, rfl⟩ := hd 1 rfl
  refine st_call (foot := []) rfl rfl rfl rfl (evs_cons e1 rfl) rfl (callV_fn z_en124 (slices_Clone_msg_Point_msg_Point_ok hr8 τ (hs3.up hl))) ?_
  rintro vτ9 τ9 gsτ9 hl10 ⟨v11, rfl, rfl, hs12⟩
  exact st_addNil (hk _ _ hl10 ⟨v11, rfl, hs12⟩)
 ·intro ρ' τ pool rs hl hd hout hk
  obtain ⟨_, e3, rfl⟩ := hd 3 rfl
  refine o_load (j := 1) (v := v2) rfl rfl rfl z_sc28 e3 rfl rfl ?_
  exact st_addNil (hk _ _ (Sto.Le.refl _) rfl)
 ·intro ρ' τ pool rs hl hd hout hk
  obtain ⟨_, e4, rfl⟩ := hd 4 rfl
  refine st_call (foot := []) rfl rfl rfl rfl (evs_cons e4 rfl) rfl (callV_fn z_en125 (slices_Clone_int_int_ok hr14 τ (hs4.up hl))) ?_
  rintro vτ15 τ15 gsτ15 hl16 ⟨v17, rfl, rfl, hs18⟩
  exact st_addNil (hk _ _ hl16 ⟨v17, rfl, hs18⟩)
 intro ρ' τ19 vals hl19 hv hout
 obtain ⟨l2, v11, t2, hs12⟩ := hv 2 (by decide)
 replace l2 : Eng.look ρ' 5 = some (v11) := l2.trans (congrArg some (Eq.symm t2))
 obtain ⟨l5, v17, t5, hs18⟩ := hv 5 (by decide)
 replace l5 : Eng.look ρ' 8 = some (v17) := l5.trans (congrArg some (Eq.symm t5))
 refine st_ord [0, 0] _ rfl ?_
 refine st_env (ρ' := [(5, v11), (8, v17), (9, .pointer (some ⟨b5, 7, none⟩)), (1, .Pb b5), (2, .Pb b6)]) ⟨l2, l5, (lv1 hv 6 rfl rfl), (hout 1 rfl).trans rfl, (hout 2 rfl).trans rfl, trivial⟩ ?_
 refine o_store (j := 1) (vs := [v11]) (cs' := (lM a0 v11 v2)) rfl rfl rfl z_size27 rfl rfl (oneL_sl hs12) (ones_cons hs12.one' ones_nil) rfl rfl rfl ?_
 refine o_fieldAddr rfl rfl rfl z_field30_3 rfl ?_
 refine o_store (j := 1) (vs := [v17]) (cs' := (lM a0 v11 v17)) rfl rfl rfl z_size28 rfl rfl (oneL_sl hs18) (ones_cons hs18.one' ones_nil) rfl rfl rfl ?_
 refine ZZ 4 [1] rfl rfl ?_
 refine o_store (j := 0) (vs := (lM a0 v11 v17)) (cs' := (lM a0 v11 v17)) rfl rfl rfl z_size30 rfl rfl rfl (ones_cons rfl (ones_cons rfl (ones_cons rfl (ones_cons rfl (ones_cons rfl (ones_cons rfl (ones_cons rfl (ones_cons hs12.one' (ones_cons hs18.one' (ones_cons rfl (ones_cons rfl ones_nil))))))))))) rfl rfl rfl ?_
 refine st_end ?_
 obtain rfl := Eq.symm h
 exact st_retC (gs' := []) [.agg (lM a0 v11 v17).toArray] Tryz.func115 ⟨⟨_, _, _, _, rfl, mem_flat 0 rfl, fun w hw => cellOfN (vs := (lM a0 v11 v17)) z_agg30 rfl w hw⟩, trivial⟩ (by simp) hl19 ⟨_, _, rfl, rfl, hs12, hs18⟩
theorem msg_Project_ok {a0 : TyM} {a1 : Int} {v1 : Value} {v2 : Value} {r : (TyM)} (h : msg_Project a0 a1 r) (σ : Sto) (hs3 : Sl (kP (kI .i64) (kI .i64)) σ v1 a0.2.2.1) (hs4 : Sl (kI .i64) σ v2 a0.2.2.2.1) :
    Does Tryz.prog 96 [.agg (lM a0 v1 v2).toArray, .I a1] σ [] (fun v τ gs => ∃ (v54 : Value) (v55 : Value), gs = [] ∧ .agg (lM r v54 v55).toArray = v ∧ Sl (kP (kI .i64) (kI .i64)) τ v54 r.2.2.1 ∧ Sl (kI .i64) τ v55 r.2.2.2.1) := by
 refine call_of Tryz.func96 Tryz.ntmps96 rfl rfl (fun cs fs => ?_)
 refine Z 2 rfl ?_
 refine o_box (cs := (lM a0 v1 v2)) rfl rfl rfl rfl rfl (fun b5 => ?_)
 refine o_alloc rfl rfl rfl z_zero30 (fun b6 => ?_)
 refine ZZ 5 [1] rfl rfl ?_
 obtain ⟨r7, hr8, h⟩ := h
 refine st_call (foot := []) rfl rfl rfl rfl rfl rfl (callV_fn z_en115 (msg_Copy_ok hr8 σ hs3 hs4)) ?_
 rintro vτ9 τ9 gsτ9 hl10 ⟨v11, v12, rfl, rfl, hs13, hs14⟩
 refine o_store (j := 1) (vs := (lM r7 v11 v12)) (cs' := (lM r7 v11 v12)) rfl rfl rfl z_size30 rfl rfl rfl (ones_cons rfl (ones_cons rfl (ones_cons rfl (ones_cons rfl (ones_cons rfl (ones_cons rfl (ones_cons rfl (ones_cons hs13.one' (ones_cons hs14.one' (ones_cons rfl (ones_cons rfl ones_nil))))))))))) rfl rfl rfl ?_
 refine Z 4 rfl ?_
 refine st_cut (fun ρ τ15 gs => ∃ (s15 : Int × Int × Int × Int × Int × Int × Int × (List (Int × Int)) × List Int × ByteArray × ByteArray) (v16 : Value) (v18 : Value), msg_Project_j1 s15 r ∧ τ9.Le τ15 ∧ ESub ρ [(2, .Pb b5), (4, .Pb b6)] ∧ gs = [[(b5, .cells #[.I s15.1, .I s15.2.1, .I s15.2.2.1, .I s15.2.2.2.1, .I s15.t4.1, .I s15.t4.2.1, .I s15.t4.2.2.1, v16, v18, .string s15.t4.t4.2.1, .string s15.t4.t4.2.2] 30 (0, 0))], [(b6, .cells lY.toArray 30 (0, 0))]] ∧ Sl (kP (kI .i64) (kI .i64)) τ15 v16 s15.t4.2.2.2.1 ∧ Sl (kI .i64) τ15 v18 s15.t4.t4.1) ?_ (fun hk15 => ?_)
 ·rintro ρ15 τ15 gs15 ⟨s15, v16, v18, h, hl15, hρ, rfl, hs17, hs19⟩
  refine st_es hρ ?_
  refine ZZ 3 [0] rfl rfl ?_
  refine o_store (j := 1) (vs := [.I s15.1, .I s15.2.1, .I s15.2.2.1, .I s15.2.2.2.1, .I s15.t4.1, .I s15.t4.2.1, .I s15.t4.2.2.1, v16, v18, .string s15.t4.t4.2.1, .string s15.t4.t4.2.2]) (cs' := [.I s15.1, .I s15.2.1, .I s15.2.2.1, .I s15.2.2.2.1, .I s15.t4.1, .I s15.t4.2.1, .I s15.t4.2.2.1, v16, v18, .string s15.t4.t4.2.1, .string s15.t4.t4.2.2]) rfl rfl rfl z_size30 rfl rfl rfl (ones_cons rfl (ones_cons rfl (ones_cons rfl (ones_cons rfl (ones_cons rfl (ones_cons rfl (ones_cons rfl (ones_cons hs17.one' (ones_cons hs19.one' (ones_cons rfl (ones_cons rfl ones_nil))))))))))) rfl rfl rfl ?_
  refine st_end ?_
  obtain rfl := Eq.symm h
  exact st_retC (gs' := []) [.agg #[.I s15.1, .I s15.2.1, .I s15.2.2.1, .I s15.2.2.2.1, .I s15.t4.1, .I s15.t4.2.1, .I s15.t4.2.2.1, v16, v18, .string s15.t4.t4.2.1, .string s15.t4.t4.2.2]] Tryz.func96 ⟨⟨_, _, _, _, rfl, mem_flat 1 rfl, fun w hw => cellOfN (vs := [.I s15.1, .I s15.2.1, .I s15.2.2.1, .I s15.2.2.2.1, .I s15.t4.1, .I s15.t4.2.1, .I s15.t4.2.2.1, v16, v18, .string s15.t4.t4.2.1, .string s15.t4.t4.2.2]) z_agg30 rfl w hw⟩, trivial⟩ (by simp) (hl10.trans hl15) ⟨_, _, rfl, rfl, hs17, hs19⟩
 refine ZZ 4 [1] rfl rfl ?_
 obtain ⟨r20, hr21, h⟩ := h
 refine st_call (foot := []) rfl rfl rfl rfl rfl rfl (callV_fn z_en40 (field_Of_ok hr21 τ9)) ?_
 rintro vτ22 τ22 gsτ22 hl23 ⟨v24, rfl, rfl, hs25⟩
 refine o_lenI rfl rfl rfl z_slT86 rfl hs25 ?_
 refine Z 2 rfl ?_
 obtain ⟨e26, hL26, hA26⟩ := h
 refine st_ord [1, 0] _ rfl ?_
 refine st_loop hL26 (fun (s26 : Int × Int × Int × Int × Int × Int × Int × Int × (List (Int × Int)) × List Int × ByteArray × ByteArray) ρ τ26 gs => τ22.Le τ26 ∧ ∃ (v27 : Value) (v29 : Value), ESub ρ [(1, .I a1), (2, .Pb b5), (4, .Pb b6), (11, v24), (12, .I (r20.length : Int)), (13, .I s26.1)] ∧ gs = [[(b5, .cells #[.I s26.2.1, .I s26.2.2.1, .I s26.2.2.2.1, .I s26.t4.1, .I s26.t4.2.1, .I s26.t4.2.2.1, .I s26.t4.2.2.2.1, v27, v29, .string s26.t4.t4.2.2.1, .string s26.t4.t4.2.2.2] 30 (0, 0))], [(b6, .cells lY.toArray 30 (0, 0))]] ∧ Sl (kP (kI .i64) (kI .i64)) τ26 v27 s26.t4.t4.1 ∧ Sl (kI .i64) τ26 v29 s26.t4.t4.2.1) ⟨Sto.Le.refl _, _, _, rfl, rfl, (hs13.up hl23), (hs14.up hl23)⟩ ?_
 rintro s26 o26 h he26 ρ26 τ26 gs26 ⟨hl26, v27, v29, hρ, rfl, hs28, hs30⟩ hn26
 refine st_es hρ ?_
 refine Z 5 rfl ?_
 refine st_if rfl h (fun h => ?_) (fun h => ?_)
 ·refine Z 2 rfl ?_
  refine st_cut (fun ρ τ31 gs => ∃ (s31 : Int × Int × Int × Int × Int × Int × Int × (List (Int × Int)) × List Int × ByteArray × ByteArray) (v32 : Value) (v34 : Value), msg_Project_j3 s26 s31 o26 ∧ τ26.Le τ31 ∧ ESub ρ [(1, .I a1), (2, .Pb b5), (4, .Pb b6), (11, v24), (12, .I (r20.length : Int)), (13, .I s26.1)] ∧ gs = [[(b5, .cells #[.I s31.1, .I s31.2.1, .I s31.2.2.1, .I s31.2.2.2.1, .I s31.t4.1, .I s31.t4.2.1, .I s31.t4.2.2.1, v32, v34, .string s31.t4.t4.2.1, .string s31.t4.t4.2.2] 30 (0, 0))], [(b6, .cells lY.toArray 30 (0, 0))]] ∧ Sl (kP (kI .i64) (kI .i64)) τ31 v32 s31.t4.2.2.2.1 ∧ Sl (kI .i64) τ31 v34 s31.t4.t4.1) ?_ (fun hk31 => ?_)
  ·rintro ρ31 τ31 gs31 ⟨s31, v32, v34, h, hl31, hρ, rfl, hs33, hs35⟩
   refine st_es hρ ?_
   refine Z 4 rfl ?_
   exact hn26 _ _ _ _ h ⟨(hl26.trans hl31), _, _, rfl, rfl, hs33, hs35⟩
  refine Z 3 rfl ?_
  obtain ⟨q36, hf37, h⟩ := h
  refine o_index rfl rfl rfl z_slT86 rfl rfl (hs25.up hl26) rfl hf37 (fun b38 of39 vs hc40 hrep => ?_)
  obtain ⟨_, _, rfl, rfl, ⟨_, _, rfl, rfl, ⟨_, _, rfl, rfl, ⟨_, _, rfl, rfl, ⟨_, _, rfl, rfl, ⟨_, _, rfl, rfl, rfl⟩⟩⟩⟩⟩⟩ := hrep
  refine o_loadIN (vs := (lA q36)) rfl rfl rfl z_agg89 rfl rfl (celn_part 0 rfl hc40) ?_
  refine o_alloc rfl rfl rfl z_zero89 (fun b41 => ?_)
  refine ZZ 4 [0] rfl rfl ?_
  refine st_cut (fun ρ τ42 gs => ∃ (s42 : Bool), msg_Project_j4 s26 q36 s42 o26 ∧ τ26.Le τ42 ∧ ESub ρ [(1, .I a1), (2, .Pb b5), (4, .Pb b6), (11, v24), (12, .I (r20.length : Int)), (13, .I s26.1), (6, .Pb b41), (23, .bool s42)] ∧ gs = [[(b5, .cells #[.I s26.2.1, .I s26.2.2.1, .I s26.2.2.2.1, .I s26.t4.1, .I s26.t4.2.1, .I s26.t4.2.2.1, .I s26.t4.2.2.2.1, v27, v29, .string s26.t4.t4.2.2.1, .string s26.t4.t4.2.2.2] 30 (0, 0))], [(b6, .cells lY.toArray 30 (0, 0))], [(b41, .cells (lA q36).toArray 89 (0, 0))]]) ?_ (fun hk42 => ?_)
  ·rintro ρ42 τ42 gs42 ⟨s42, h, hl42, hρ, rfl⟩
   refine st_es hρ ?_
   refine st_if rfl h (fun h => ?_) (fun h => ?_)
   ·refine st_exit rfl ?_
    refine st_ord [0, 0] _ rfl ?_
    exact hk31 _ _ _ ⟨(s26.2.1, s26.2.2.1, s26.2.2.2.1, s26.t4.1, s26.t4.2.1, s26.t4.2.2.1, s26.t4.2.2.2.1, s26.t4.t4.1, s26.t4.t4.2.1, s26.t4.t4.2.2.1, s26.t4.t4.2.2.2), _, _, h, hl42, rfl, rfl, (hs28.up hl42), (hs30.up hl42)⟩
   ·refine ZZ 5 [0, 2] rfl rfl ?_
    obtain ⟨r43, hr44, h⟩ := h
    refine st_call (foot := []) rfl rfl rfl rfl rfl rfl (callV_fn z_en42 (msg_without_ok hr44 τ42 (hs28.up hl42) (hs30.up hl42))) ?_
    rintro vτ45 τ45 gsτ45 hl46 ⟨v47, v48, rfl, rfl, hs49, hs50⟩
    refine o_store (j := 0) (vs := (lM r43 v47 v48)) (cs' := (lM r43 v47 v48)) rfl rfl rfl z_size30 rfl rfl rfl (ones_cons rfl (ones_cons rfl (ones_cons rfl (ones_cons rfl (ones_cons rfl (ones_cons rfl (ones_cons rfl (ones_cons hs49.one' (ones_cons hs50.one' (ones_cons rfl (ones_cons rfl ones_nil))))))))))) rfl rfl rfl ?_
    refine ZZ 7 [2] rfl rfl ?_
    refine st_if rfl h (fun h => ?_) (fun h => ?_)
    ·refine ZZ 6 [2, 2] rfl rfl ?_
     obtain ⟨hf51, hf52, h⟩ := h
     refine o_indexA rfl rfl rfl z_arr26 rfl rfl hf51 hf52 ?_
     refine o_storeV (j := 0) (q36.2.2.1.toNat) (f := (Value.int .i64)) (zz := 0) (a := q36.t4.2.2) (l := 6) (xs := r43.2.1) [.I r43.1] [v47, v48, .string r43.t4.1, .string r43.t4.2] rfl rfl rfl z_size3 rfl rfl rfl rfl rfl (by simp only [List.length_cons, List.length_nil] <;> omega) (by omega) ?_
     refine Z 2 rfl ?_
     refine st_ord [0, 0] _ rfl ?_
     exact hk31 _ _ _ ⟨(r43.1, ((putN 6 0 r43.2.1 q36.2.2.1.toNat q36.t4.2.2).getD 0 0), ((putN 6 0 r43.2.1 q36.2.2.1.toNat q36.t4.2.2).getD 1 0), ((putN 6 0 r43.2.1 q36.2.2.1.toNat q36.t4.2.2).getD 2 0), ((putN 6 0 r43.2.1 q36.2.2.1.toNat q36.t4.2.2).getD 3 0), ((putN 6 0 r43.2.1 q36.2.2.1.toNat q36.t4.2.2).getD 4 0), ((putN 6 0 r43.2.1 q36.2.2.1.toNat q36.t4.2.2).getD 5 0), r43.2.2.1, r43.2.2.2.1, r43.t4.1, r43.t4.2), _, _, h, (hl42.trans hl46), rfl, rfl, hs49, hs50⟩
    ·refine Z 2 rfl ?_
     refine st_ord [0, 0] _ rfl ?_
     exact hk31 _ _ _ ⟨(r43.1, (r43.2.1.getD 0 0), (r43.2.1.getD 1 0), (r43.2.1.getD 2 0), (r43.2.1.getD 3 0), (r43.2.1.getD 4 0), (r43.2.1.getD 5 0), r43.2.2.1, r43.2.2.2.1, r43.t4.1, r43.t4.2), _, _, h, (hl42.trans hl46), rfl, rfl, hs49, hs50⟩
  refine Z 3 rfl ?_
  refine o_mif rfl rfl rfl rfl h (fun h => ?_) (fun h => ?_)
  ·refine Z 5 rfl ?_
   refine st_ord [1, 1, 0] _ rfl ?_
   exact hk42 _ _ _ ⟨true, h, (Sto.Le.refl _), rfl, rfl⟩
  ·refine ZZ 5 [0] rfl rfl ?_
   refine st_ord [1, 1, 0] _ rfl ?_
   exact hk42 _ _ _ ⟨(decide (q36.t4.2.1 = 1)), h, (Sto.Le.refl _), rfl, rfl⟩
 ·refine st_exit rfl ?_
  obtain rfl := he26 _ h
  replace h := hA26
  exact hk15 _ _ _ ⟨(s26.2.1, s26.2.2.1, s26.2.2.2.1, s26.t4.1, s26.t4.2.1, s26.t4.2.2.1, s26.t4.2.2.2.1, s26.t4.t4.1, s26.t4.t4.2.1, s26.t4.t4.2.2.1, s26.t4.t4.2.2.2), _, _, h, (hl23.trans hl26), rfl, rfl, hs28, hs30⟩
theorem body_Decode_ok {a0 : Int} {a1 : Int} {a2 : List Int} {v1 : Value} {r : (TyM) × Int} (h : body_Decode a0 a1 a2 r) (σ : Sto) (hs2 : Sl (kI .u8) σ v1 a2) :
    Does Tryz.prog 82 [.I a0, .I a1, v1] σ [] (fun v τ gs => ∃ (v90 : Value) (v91 : Value), gs = [] ∧ .tuple [.agg (lM r.1 v90 v91).toArray, .I r.2].toArray = v ∧ Sl (kP (kI .i64) (kI .i64)) τ v90 r.1.2.2.1 ∧ Sl (kI .i64) τ v91 r.1.2.2.2.1) := by
 refine call_of Tryz.func82 Tryz.ntmps82 rfl rfl (fun cs fs => ?_)
 refine Z 2 rfl ?_
 refine o_alloc rfl rfl rfl z_zero30 (fun b3 => ?_)
 refine Z 6 rfl ?_
 refine st_cut (fun ρ τ4 gs => ∃ (s4 : Bool), body_Decode_j1 a0 a1 a2 s4 r ∧ σ.Le τ4 ∧ ESub ρ [(0, .I a0), (1, .I a1), (2, v1), (6, .Pb b3), (7, .I 0), (12, .bool s4)] ∧ gs = [[(b3, .cells lY.toArray 30 (0, 0))]]) ?_ (fun hk4 => ?_)
 ·rintro ρ4 τ4 gs4 ⟨s4, h, hl4, hρ, rfl⟩
  refine st_es hρ ?_
  refine st_cond rfl (fun hc => ?_) (fun hc => ?_)
  ·replace h := (if_pos hc).mp h
   refine ZZ 6 [0] rfl rfl ?_
   obtain rfl := Eq.symm h
   exact st_retC (gs' := []) [.agg lY.toArray, .I 10] Tryz.func82 ⟨⟨_, _, _, _, rfl, mem_flat 0 rfl, fun w hw => cellOfN (vs := lY) z_agg30 rfl w hw⟩, rfl, trivial⟩ (by simp) hl4 ⟨_, _, rfl, rfl, Sl.nil, Sl.nil⟩
  ·replace h := (if_neg (ne_t hc)).mp h
   refine Z 3 rfl ?_
   obtain ⟨r5, hr6, h⟩ := h
   refine st_call (foot := []) rfl rfl rfl rfl rfl rfl (callV_fn z_en93 (field_Word_ok hr6 τ4)) ?_
   rintro vτ7 τ7 gsτ7 hl8 ⟨rfl, rfl⟩
   refine o_sbin (v := .bool (decide (r5 = (bstr [])))) rfl rfl rfl rfl (ev_str z_str19) rfl ?_
   refine Z 2 rfl ?_
   refine st_cond rfl (fun hc => ?_) (fun hc => ?_)
   ·replace h := (if_pos hc).mp h
    refine ZZ 6 [0] rfl rfl ?_
    obtain rfl := Eq.symm h
    exact st_retC (gs' := []) [.agg lY.toArray, .I 9] Tryz.func82 ⟨⟨_, _, _, _, rfl, mem_flat 0 rfl, fun w hw => cellOfN (vs := lY) z_agg30 rfl w hw⟩, rfl, trivial⟩ (by simp) (hl4.trans hl8) ⟨_, _, rfl, rfl, Sl.nil, Sl.nil⟩
   ·replace h := (if_neg (ne_t hc)).mp h
    refine Z 5 rfl ?_
    obtain ⟨r9, hr10, h⟩ := h
    refine st_call (foot := []) rfl rfl rfl rfl rfl rfl (callV_fn z_en59 (lens_New_ok hr10 τ7 (hs2.up (hl4.trans hl8)))) ?_
    rintro vτ11 τ11 gsτ11 hl12 ⟨b13, v14, rfl, rfl, hs15⟩
    refine ZZ 1 [] rfl rfl ?_
    refine o_boxC rfl rfl rfl rfl rfl rfl (fun b16 => ?_)
    refine o_alloc rfl rfl rfl z_zero160 (fun b17 => ?_)
    refine ZZ 6 [0] rfl rfl ?_
    refine o_alloc rfl rfl rfl z_zero30 (fun b18 => ?_)
    refine ZZ 5 [0] rfl rfl ?_
    refine st_cut (fun ρ τ19 gs => ∃ (s19 : List Int × Int × Int × Int × Int × Int × Int × Int × Int × Int × Int × (List (Int × Int)) × List Int × ByteArray × ByteArray) (v20 : Value) (v22 : Value) (v24 : Value), body_Decode_j2 a1 s19 r ∧ τ11.Le τ19 ∧ ESub ρ [(1, .I a1), (6, .Pb b3), (7, .I 0), (8, .Pb b17), (9, .Pb b18)] ∧ gs = [[(b3, .cells lY.toArray 30 (0, 0))], [(b13, .cells #[v20, .I s19.2.1, .I s19.2.2.1] 137 (0, 0))], [(b16, .cells #[.Pb b13, .I s19.2.2.2.1] 162 (0, 0))], [(b17, .cells #[.Pb b16] 160 (0, 0))], [(b18, .cells #[.I s19.t4.1, .I s19.t4.2.1, .I s19.t4.2.2.1, .I s19.t4.2.2.2.1, .I s19.t4.t4.1, .I s19.t4.t4.2.1, .I s19.t4.t4.2.2.1, v22, v24, .string s19.t4.t4.t4.2.1, .string s19.t4.t4.t4.2.2] 30 (0, 0))]] ∧ Sl (kI .u8) τ19 v20 s19.1 ∧ Sl (kP (kI .i64) (kI .i64)) τ19 v22 s19.t4.t4.2.2.2.1 ∧ Sl (kI .i64) τ19 v24 s19.t4.t4.t4.1) ?_ (fun hk19 => ?_)
    ·rintro ρ19 τ19 gs19 ⟨s19, v20, v22, v24, h, hl19, hρ, rfl, hs21, hs23, hs25⟩
     refine st_es hρ ?_
     refine ZZ 3 [3] rfl rfl ?_
     obtain ⟨r26, hr27, h⟩ := h
     refine st_ord [2, 1, 0, 0, 0] _ rfl ?_
     refine st_call (foot := [[(b16, .cells #[.Pb b13, .I s19.2.2.2.1] 162 (0, 0))], [(b13, .cells #[v20, .I s19.2.1, .I s19.2.2.1] 137 (0, 0))]]) rfl rfl rfl rfl rfl rfl (callV_fn z_en95 (body_reader_err_ok hr27 τ19 hs21)) ?_
     rintro vτ28 τ28 gsτ28 hl29 ⟨rfl, rfl⟩
     refine Z 3 rfl ?_
     refine st_cut (fun ρ τ30 gs => ∃ (s30 : Int), body_Decode_j3 a1 s19 s30 r ∧ τ28.Le τ30 ∧ ESub ρ [(1, .I a1), (6, .Pb b3), (7, .I 0), (9, .Pb b18), (11, .I s30)] ∧ gs = [[(b3, .cells lY.toArray 30 (0, 0))], [(b18, .cells #[.I s19.t4.1, .I s19.t4.2.1, .I s19.t4.2.2.1, .I s19.t4.2.2.2.1, .I s19.t4.t4.1, .I s19.t4.t4.2.1, .I s19.t4.t4.2.2.1, v22, v24, .string s19.t4.t4.t4.2.1, .string s19.t4.t4.t4.2.2] 30 (0, 0))]]) ?_ (fun hk30 => ?_)
     ·rintro ρ30 τ30 gs30 ⟨s30, h, hl30, hρ, rfl⟩
      refine st_es hρ ?_
      refine Z 6 rfl ?_
      refine st_if rfl h (fun h => ?_) (fun h => ?_)
      ·refine ZZ 7 [0] rfl rfl ?_
       obtain rfl := Eq.symm h
       exact st_retC (gs' := []) [.agg lY.toArray, .I s30] Tryz.func82 ⟨⟨_, _, _, _, rfl, mem_flat 0 rfl, fun w hw => cellOfN (vs := lY) z_agg30 rfl w hw⟩, rfl, trivial⟩ (by simp) (((((hl4.trans hl8).trans hl12).trans hl19).trans hl29).trans hl30) ⟨_, _, rfl, rfl, Sl.nil, Sl.nil⟩
      ·refine ZZ 5 [1] rfl rfl ?_
       obtain ⟨r31, hr32, h⟩ := h
       refine st_call (foot := []) rfl rfl rfl rfl rfl rfl (callV_fn z_en96 (msg_Project_ok hr32 τ30 (hs23.up (hl29.trans hl30)) (hs25.up (hl29.trans hl30)))) ?_
       rintro vτ33 τ33 gsτ33 hl34 ⟨v35, v36, rfl, rfl, hs37, hs38⟩
       refine o_store (j := 0) (vs := (lM r31 v35 v36)) (cs' := (lM r31 v35 v36)) rfl rfl rfl z_size30 rfl rfl rfl (ones_cons rfl (ones_cons rfl (ones_cons rfl (ones_cons rfl (ones_cons rfl (ones_cons rfl (ones_cons rfl (ones_cons hs37.one' (ones_cons hs38.one' (ones_cons rfl (ones_cons rfl ones_nil))))))))))) rfl rfl rfl ?_
       refine Z 2 rfl ?_
       obtain rfl := Eq.symm h
       exact st_retC (gs' := []) [.agg (lM r31 v35 v36).toArray, .I 0] Tryz.func82 ⟨⟨_, _, _, _, rfl, mem_flat 0 rfl, fun w hw => cellOfN (vs := (lM r31 v35 v36)) z_agg30 rfl w hw⟩, rfl, trivial⟩ (by simp) ((((((hl4.trans hl8).trans hl12).trans hl19).trans hl29).trans hl30).trans hl34) ⟨_, _, rfl, rfl, hs37, hs38⟩
     refine Z 5 rfl ?_
     refine st_if rfl h (fun h => ?_) (fun h => ?_)
     ·refine ZZ 5 [3, 0] rfl rfl ?_
      obtain ⟨r39, hr40, h⟩ := h
      refine st_ord [1, 0, 0, 0, 0] _ rfl ?_
      refine st_call (foot := [[(b13, .cells #[v20, .I s19.2.1, .I s19.2.2.1] 137 (0, 0))]]) rfl rfl rfl rfl rfl rfl (callV_fn z_en84 (lens_Lens_End_ok hr40 τ28 (hs21.up hl29))) ?_
      rintro vτ41 τ41 gsτ41 hl42 ⟨rfl, rfl⟩
      refine Z 2 rfl ?_
      refine st_ord [2, 3] _ rfl ?_
      exact hk30 _ _ _ ⟨r39, h, hl42, rfl, rfl⟩
     ·refine st_skip ?_
      refine st_ord [2, 3] _ rfl ?_
      exact hk30 _ _ _ ⟨r26, h, (Sto.Le.refl _), rfl, rfl⟩
    refine Z 4 rfl ?_
    obtain ⟨r43, hr44, h⟩ := h
    refine st_call (foot := []) rfl rfl rfl rfl rfl rfl (callV_fn z_en89 (field_All_ok hr44 τ11)) ?_
    rintro vτ45 τ45 gsτ45 hl46 ⟨f47, q48, rfl, rfl, hit49⟩
    refine Z 2 rfl ?_
    obtain ⟨t50, w50, hR50, hA50⟩ := h
    refine st_env (ρ' := [(1, .I a1), (6, .Pb b3), (7, .I 0), (8, .Pb b17), (9, .Pb b18), (33, .func (.func f47) #[] q48)]) ⟨rfl, rfl, rfl, rfl, rfl, rfl, trivial⟩ ?_
    refine st_ord [4, 3, 2, 1, 0] _ rfl ?_
    refine st_addNil ?_
    refine st_range (B := body_Decode_l4) (s0 := (r9.1, r9.2.1, r9.2.2, 0, a0, 0, 0, 0, 0, 0, 0, [], [], (bstr []), (bstr []))) ranges_fctx rfl hit49 (Sto.Le.refl _) hR50 rfl (fun _ _ _ h => by cases h; rfl) (fun (s50 : List Int × Int × Int × Int × Int × Int × Int × Int × Int × Int × Int × (List (Int × Int)) × List Int × ByteArray × ByteArray) τ50 gs => τ45.Le τ50 ∧ ∃ (v51 : Value) (v53 : Value) (v55 : Value), gs = [[(b3, .cells lY.toArray 30 (0, 0))], [(b13, .cells #[v51, .I s50.2.1, .I s50.2.2.1] 137 (0, 0))], [(b16, .cells #[.Pb b13, .I s50.2.2.2.1] 162 (0, 0))], [(b17, .cells #[.Pb b16] 160 (0, 0))], [(b18, .cells #[.I s50.t4.1, .I s50.t4.2.1, .I s50.t4.2.2.1, .I s50.t4.2.2.2.1, .I s50.t4.t4.1, .I s50.t4.t4.2.1, .I s50.t4.t4.2.2.1, v53, v55, .string s50.t4.t4.t4.2.1, .string s50.t4.t4.t4.2.2] 30 (0, 0))]] ∧ Sl (kI .u8) τ50 v51 s50.1 ∧ Sl (kP (kI .i64) (kI .i64)) τ50 v53 s50.t4.t4.2.2.2.1 ∧ Sl (kI .i64) τ50 v55 s50.t4.t4.t4.1) (fun (p72 : List Int × Int × Int × Int × Int × Int × Int × Int × Int × Int × Int × (List (Int × Int)) × List Int × ByteArray × ByteArray) cd τ73 gs => cd = .exit 1 ∧ τ45.Le τ73 ∧ ∃ (v75 : Value) (v77 : Value) (v79 : Value), gs = [[(b3, .cells lY.toArray 30 (0, 0))], [(b13, .cells #[v75, .I p72.2.1, .I p72.2.2.1] 137 (0, 0))], [(b16, .cells #[.Pb b13, .I p72.2.2.2.1] 162 (0, 0))], [(b17, .cells #[.Pb b16] 160 (0, 0))], [(b18, .cells #[.I p72.t4.1, .I p72.t4.2.1, .I p72.t4.2.2.1, .I p72.t4.2.2.2.1, .I p72.t4.t4.1, .I p72.t4.t4.2.1, .I p72.t4.t4.2.2.1, v77, v79, .string p72.t4.t4.t4.2.1, .string p72.t4.t4.t4.2.2] 30 (0, 0))]] ∧ Sl (kI .u8) τ73 v75 p72.1 ∧ Sl (kP (kI .i64) (kI .i64)) τ73 v77 p72.t4.t4.2.2.2.1 ∧ Sl (kI .i64) τ73 v79 p72.t4.t4.t4.1) (fun _ _ _ _ hl ⟨hb, v51, v53, v55, hg, hs52, hs54, hs56⟩ => ⟨hb.trans hl, v51, v53, v55, hg, hs52.up hl, hs54.up hl, hs56.up hl⟩) (fun _ _ _ _ _ hl ⟨hc, hb, v75, v77, v79, hg, hs76, hs78, hs80⟩ => ⟨hc, hb.trans hl, v75, v77, v79, hg, hs76.up hl, hs78.up hl, hs80.up hl⟩) ⟨Sto.Le.refl _, _, _, _, rfl, (hs15.up hl46), Sl.nil, Sl.nil⟩ ?_ ?_ ?_
    ·rintro x50 s50 o50 τ50 gs50 vx50 hl50 h rfl ⟨hb50, v51, v53, v55, rfl, hs52, hs54, hs56⟩ l50 rc50 caller50 cs50 fs50
     refine st_region ?_
     refine o_alloc rfl rfl rfl z_zero89 (fun b57 => ?_)
     refine ZZ 2 [0] rfl rfl ?_
     refine st_begin ?_
     refine ZZ 5 [4, 0] rfl rfl ?_
     obtain ⟨r58, hr59, h⟩ := h
     refine st_ord [3, 2, 3, 0, 0, 0] _ rfl ?_
     refine st_call (foot := [[(b16, .cells #[.Pb b13, .I s50.2.2.2.1] 162 (0, 0))], [(b13, .cells #[v51, .I s50.2.1, .I s50.2.2.1] 137 (0, 0))], [(b18, .cells #[.I s50.t4.1, .I s50.t4.2.1, .I s50.t4.2.2.1, .I s50.t4.2.2.2.1, .I s50.t4.t4.1, .I s50.t4.t4.2.1, .I s50.t4.t4.2.2.1, v53, v55, .string s50.t4.t4.t4.2.1, .string s50.t4.t4.t4.2.2] 30 (0, 0))]]) rfl rfl rfl rfl rfl rfl (callV_fn z_en94 (body_reader_field_ok hr59 τ50 hs52 hs54 hs56)) ?_
     rintro vτ60 τ60 gsτ60 hl61 ⟨v62, v64, v65, rfl, rfl, hs63, hs66, hs67⟩
     refine ZZ 4 [5] rfl rfl ?_
     obtain ⟨r68, hr69, h⟩ := h
     refine st_call (foot := [[(b16, .cells #[.Pb b13, .I r58.1.2] 162 (0, 0))], [(b13, .cells #[v62, .I r58.2.1.2.1, .I r58.2.1.2.2] 137 (0, 0))]]) rfl rfl rfl rfl rfl rfl (callV_fn z_en95 (body_reader_err_ok hr69 τ60 hs63)) ?_
     rintro vτ70 τ70 gsτ70 hl71 ⟨rfl, rfl⟩
     refine Z 2 rfl ?_
     refine st_if rfl h (fun h => ?_) (fun h => ?_)
     ·refine st_ord [4, 1, 0, 2, 0] _ rfl ?_
      exact st_rexit rfl (List.Sublist.refl _) (hl61.trans hl71) ⟨_, h, rfl, ((hl50.trans hl61).trans hl71), _, _, _, rfl, (hs63.up hl71), (hs66.up hl71), (hs67.up hl71)⟩
     ·refine Z 2 rfl ?_
      refine st_ord [4, 1, 0, 2, 0] _ rfl ?_
      exact st_rend (List.Sublist.refl _) (hl61.trans hl71) ⟨_, h, ((hl50.trans hl61).trans hl71), _, _, _, rfl, (hs63.up hl71), (hs66.up hl71), (hs67.up hl71)⟩
    ·rintro p81 τ82 gs50 f50 ht hl83 ⟨hb, v84, v86, v88, rfl, hs85, hs87, hs89⟩ rfl
     subst ht
     replace h := hA50
     refine st_ord [1, 1, 1, 1, 1] _ rfl ?_
     refine st_inBlock ?_
     exact hk19 _ _ _ ⟨(p81.1, p81.2.1, p81.2.2.1, p81.2.2.2.1, p81.t4.1, p81.t4.2.1, p81.t4.2.2.1, p81.t4.2.2.2.1, p81.t4.t4.1, p81.t4.t4.2.1, p81.t4.t4.2.2.1, p81.t4.t4.2.2.2.1, p81.t4.t4.t4.1, p81.t4.t4.t4.2.1, p81.t4.t4.t4.2.2), _, _, _, h, (hl46.trans hl83), rfl, rfl, hs85, hs87, hs89⟩
    ·rintro p72 cd50 τ73 gs50 f50 ht hl74 ⟨rfl, hb, v75, v77, v79, rfl, hs76, hs78, hs80⟩ rfl
     subst ht
     replace h := hA50
     refine st_ord [1, 1, 1, 1, 1] _ rfl ?_
     refine st_exit rfl ?_
     exact hk19 _ _ _ ⟨(p72.1, p72.2.1, p72.2.2.1, p72.2.2.2.1, p72.t4.1, p72.t4.2.1, p72.t4.2.2.1, p72.t4.2.2.2.1, p72.t4.t4.1, p72.t4.t4.2.1, p72.t4.t4.2.2.1, p72.t4.t4.2.2.2.1, p72.t4.t4.t4.1, p72.t4.t4.t4.2.1, p72.t4.t4.t4.2.2), _, _, _, h, (hl46.trans hl74), rfl, rfl, hs76, hs78, hs80⟩
 refine Z 3 rfl ?_
 refine o_mif rfl rfl rfl rfl h (fun h => ?_) (fun h => ?_)
 ·refine Z 5 rfl ?_
  exact hk4 _ _ _ ⟨(!(decide (a1 = 2))), h, (Sto.Le.refl _), rfl, rfl⟩
 ·refine Z 5 rfl ?_
  exact hk4 _ _ _ ⟨false, h, (Sto.Le.refl _), rfl, rfl⟩
theorem log_read_ok {a0 : List Int} {v1 : Value} {r : (Int × Int × Int × Int × (TyM)) × Int} (h : log_read a0 r) (σ : Sto) (hs2 : Sl (kI .u8) σ v1 a0) :
    Does Tryz.prog 64 [v1] σ [] (fun v τ gs => ∃ (v88 : Value) (v89 : Value), gs = [] ∧ .tuple [.agg [.I r.1.1, .int .u32 r.1.2.1, .I r.1.2.2.1, .I r.1.2.2.2.1, .I r.1.t4.1, .I (r.1.t4.2.1.getD 0 0), .I (r.1.t4.2.1.getD 1 0), .I (r.1.t4.2.1.getD 2 0), .I (r.1.t4.2.1.getD 3 0), .I (r.1.t4.2.1.getD 4 0), .I (r.1.t4.2.1.getD 5 0), v88, v89, .string r.1.t4.t4.1, .string r.1.t4.t4.2].toArray, .I r.2].toArray = v ∧ Sl (kP (kI .i64) (kI .i64)) τ v88 r.1.t4.2.2.1 ∧ Sl (kI .i64) τ v89 r.1.t4.2.2.2.1) := by
 refine call_of Tryz.func64 Tryz.ntmps64 rfl rfl (fun cs fs => ?_)
 refine Z 2 rfl ?_
 refine o_alloc rfl rfl rfl z_zero32 (fun b3 => ?_)
 refine Z 3 rfl ?_
 refine st_lcut (l := 0) rfl (fun ρ τ4 gs => ∃ (s4 : Int), log_read_j1 s4 r ∧ σ.Le τ4 ∧ ESub ρ [(2, .Pb b3), (3, .I 0), (5, .I s4)] ∧ gs = [[(b3, .cells #[.I 0, .int .u32 0, .I 0, .I 0, .I 0, .I 0, .I 0, .I 0, .I 0, .I 0, .I 0, .N0, .N0, .E0, .E0] 32 (0, 0))]]) ?_ (fun hk4 => ?_)
 ·rintro ρ4 τ4 gs4 ⟨s4, h, hl4, hρ, rfl⟩
  refine st_es hρ ?_
  refine ZZ 9 [0] rfl rfl ?_
  obtain rfl := Eq.symm h
  exact st_retC (gs' := []) [.agg #[.I 0, .int .u32 0, .I 0, .I 0, .I 0, .I 0, .I 0, .I 0, .I 0, .I 0, .I 0, .N0, .N0, .E0, .E0], .I s4] Tryz.func64 ⟨⟨_, _, _, _, rfl, mem_flat 0 rfl, fun w hw => cellOfN (vs := [.I 0, .int .u32 0, .I 0, .I 0, .I 0, .I 0, .I 0, .I 0, .I 0, .I 0, .I 0, .N0, .N0, .E0, .E0]) z_agg32 rfl w hw⟩, rfl, trivial⟩ (by simp) hl4 ⟨_, _, rfl, rfl, Sl.nil, Sl.nil⟩
 refine Z 2 rfl ?_
 refine o_alloc rfl rfl rfl z_zero30 (fun b5 => ?_)
 refine Z 8 rfl ?_
 obtain ⟨r6, hr7, h⟩ := h
 refine st_call (foot := []) rfl rfl rfl rfl rfl rfl (callV_fn z_en59 (lens_New_ok hr7 σ hs2)) ?_
 rintro vτ8 τ8 gsτ8 hl9 ⟨b10, v11, rfl, rfl, hs12⟩
 refine Z 5 rfl ?_
 obtain ⟨r13, hr14, h⟩ := h
 refine st_call (foot := [[(b10, .cells #[v11, .I r6.2.1, .I r6.2.2] 137 (0, 0))]]) rfl rfl rfl rfl rfl rfl (callV_fn z_en80 (lens_Lens_U8_ok hr14 τ8 hs12)) ?_
 rintro vτ15 τ15 gsτ15 hl16 ⟨v17, rfl, rfl, hs18⟩
 refine Z 2 rfl ?_
 obtain ⟨r19, hr20, h⟩ := h
 refine st_call (foot := [[(b10, .cells #[v17, .I r13.2.2.1, .I r13.2.2.2] 137 (0, 0))]]) rfl rfl rfl rfl rfl rfl (callV_fn z_en81 (lens_Lens_U32_ok hr20 τ15 hs18)) ?_
 rintro vτ21 τ21 gsτ21 hl22 ⟨v23, rfl, rfl, hs24⟩
 refine ZZ 1 [] rfl rfl ?_
 refine o_alloc rfl rfl rfl z_zero32 (fun b25 => ?_)
 refine ZZ 6 [0] rfl rfl ?_
 obtain ⟨r26, hr27, h⟩ := h
 refine st_ord [1, 0, 0, 0] _ rfl ?_
 refine st_call (foot := [[(b10, .cells #[v23, .I r19.2.2.1, .I r19.2.2.2] 137 (0, 0))]]) rfl rfl rfl rfl rfl rfl (callV_fn z_en63 (lens_Lens_Err_ok hr27 τ21 hs24)) ?_
 rintro vτ28 τ28 gsτ28 hl29 ⟨rfl, rfl⟩
 refine Z 2 rfl ?_
 refine st_if rfl h (fun h => ?_) (fun h => ?_)
 ·refine st_goto rfl ?_
  refine st_ord [3] _ rfl ?_
  exact hk4 _ _ _ ⟨13, h, (((hl9.trans hl16).trans hl22).trans hl29), rfl, rfl⟩
 ·refine Z 2 rfl ?_
  refine st_cut (fun ρ τ30 gs => ∃ (s30 : Int × List Int × Int × Int × Int × Int × Int × Int × Int × Int × Int × Int × Int × (List (Int × Int)) × List Int × ByteArray × ByteArray) (v31 : Value) (v33 : Value) (v35 : Value), log_read_j2 r13 r19 s30 r ∧ τ28.Le τ30 ∧ ESub ρ [(2, .Pb b3), (3, .I 0), (5, .I s30.1), (6, .Pb b10), (7, .Pb b25)] ∧ gs = [[(b3, .cells #[.I 0, .int .u32 0, .I 0, .I 0, .I 0, .I 0, .I 0, .I 0, .I 0, .I 0, .I 0, .N0, .N0, .E0, .E0] 32 (0, 0))], [(b10, .cells #[v31, .I s30.2.2.1, .I s30.2.2.2.1] 137 (0, 0))], [(b25, .cells #[.I (IntKind.i64.wrap r13.1), .int .u32 r19.1, .I s30.t4.1, .I s30.t4.2.1, .I s30.t4.2.2.1, .I s30.t4.2.2.2.1, .I s30.t4.t4.1, .I s30.t4.t4.2.1, .I s30.t4.t4.2.2.1, .I s30.t4.t4.2.2.2.1, .I s30.t4.t4.t4.1, v33, v35, .string s30.t4.t4.t4.2.2.2.1, .string s30.t4.t4.t4.t4] 32 (0, 0))]] ∧ Sl (kI .u8) τ30 v31 s30.2.1 ∧ Sl (kP (kI .i64) (kI .i64)) τ30 v33 s30.t4.t4.t4.2.1 ∧ Sl (kI .i64) τ30 v35 s30.t4.t4.t4.2.2.1) ?_ (fun hk30 => ?_)
  ·rintro ρ30 τ30 gs30 ⟨s30, v31, v33, v35, h, hl30, hρ, rfl, hs32, hs34, hs36⟩
   refine st_es hρ ?_
   refine Z 4 rfl ?_
   obtain ⟨r37, hr38, h⟩ := h
   refine st_ord [1, 0, 0] _ rfl ?_
   refine st_call (foot := [[(b10, .cells #[v31, .I s30.2.2.1, .I s30.2.2.2.1] 137 (0, 0))]]) rfl rfl rfl rfl rfl rfl (callV_fn z_en84 (lens_Lens_End_ok hr38 τ30 hs32)) ?_
   rintro vτ39 τ39 gsτ39 hl40 ⟨rfl, rfl⟩
   refine Z 7 rfl ?_
   refine st_if rfl h (fun h => ?_) (fun h => ?_)
   ·refine st_goto rfl ?_
    refine st_ord [1] _ rfl ?_
    exact hk4 _ _ _ ⟨r37, h, (((((hl9.trans hl16).trans hl22).trans hl29).trans hl30).trans hl40), rfl, rfl⟩
   ·refine ZZ 5 [2] rfl rfl ?_
    refine o_store (j := 1) (vs := [.I (IntKind.i64.wrap r13.1), .int .u32 r19.1, .I s30.t4.1, .I s30.t4.2.1, .I s30.t4.2.2.1, .I s30.t4.2.2.2.1, .I s30.t4.t4.1, .I s30.t4.t4.2.1, .I s30.t4.t4.2.2.1, .I s30.t4.t4.2.2.2.1, .I s30.t4.t4.t4.1, v33, v35, .string s30.t4.t4.t4.2.2.2.1, .string s30.t4.t4.t4.t4]) (cs' := [.I (IntKind.i64.wrap r13.1), .int .u32 r19.1, .I s30.t4.1, .I s30.t4.2.1, .I s30.t4.2.2.1, .I s30.t4.2.2.2.1, .I s30.t4.t4.1, .I s30.t4.t4.2.1, .I s30.t4.t4.2.2.1, .I s30.t4.t4.2.2.2.1, .I s30.t4.t4.t4.1, v33, v35, .string s30.t4.t4.t4.2.2.2.1, .string s30.t4.t4.t4.t4]) rfl rfl rfl z_size32 rfl rfl rfl (ones_cons rfl (ones_cons rfl (ones_cons rfl (ones_cons rfl (ones_cons rfl (ones_cons rfl (ones_cons rfl (ones_cons rfl (ones_cons rfl (ones_cons rfl (ones_cons rfl (ones_cons (hs34.up hl40).one' (ones_cons (hs36.up hl40).one' (ones_cons rfl (ones_cons rfl ones_nil))))))))))))))) rfl rfl rfl ?_
    refine Z 2 rfl ?_
    obtain rfl := Eq.symm h
    exact st_retC (gs' := []) [.agg #[.I (IntKind.i64.wrap r13.1), .int .u32 r19.1, .I s30.t4.1, .I s30.t4.2.1, .I s30.t4.2.2.1, .I s30.t4.2.2.2.1, .I s30.t4.t4.1, .I s30.t4.t4.2.1, .I s30.t4.t4.2.2.1, .I s30.t4.t4.2.2.2.1, .I s30.t4.t4.t4.1, v33, v35, .string s30.t4.t4.t4.2.2.2.1, .string s30.t4.t4.t4.t4], .I 0] Tryz.func64 ⟨⟨_, _, _, _, rfl, mem_flat 1 rfl, fun w hw => cellOfN (vs := [.I (IntKind.i64.wrap r13.1), .int .u32 r19.1, .I s30.t4.1, .I s30.t4.2.1, .I s30.t4.2.2.1, .I s30.t4.2.2.2.1, .I s30.t4.t4.1, .I s30.t4.t4.2.1, .I s30.t4.t4.2.2.1, .I s30.t4.t4.2.2.2.1, .I s30.t4.t4.t4.1, v33, v35, .string s30.t4.t4.t4.2.2.2.1, .string s30.t4.t4.t4.t4]) z_agg32 rfl w hw⟩, rfl, trivial⟩ (by simp) (((((hl9.trans hl16).trans hl22).trans hl29).trans hl30).trans hl40) ⟨_, _, rfl, rfl, (hs34.up hl40), (hs36.up hl40)⟩
  refine ZZ 11 [1] rfl rfl ?_
  refine st_if rfl h (fun h => ?_) (fun h => ?_)
  ·refine Z 7 rfl ?_
   obtain ⟨r41, hr42, h⟩ := h
   refine st_call (foot := [[(b10, .cells #[v23, .I r19.2.2.1, .I r19.2.2.2] 137 (0, 0))]]) rfl rfl rfl rfl rfl rfl (callV_fn z_en80 (lens_Lens_U8_ok hr42 τ28 (hs24.up hl29))) ?_
   rintro vτ43 τ43 gsτ43 hl44 ⟨v45, rfl, rfl, hs46⟩
   refine Z 2 rfl ?_
   obtain ⟨r47, hr48, h⟩ := h
   refine st_call (foot := [[(b10, .cells #[v45, .I r41.2.2.1, .I r41.2.2.2] 137 (0, 0))]]) rfl rfl rfl rfl rfl rfl (callV_fn z_en80 (lens_Lens_U8_ok hr48 τ43 hs46)) ?_
   rintro vτ49 τ49 gsτ49 hl50 ⟨v51, rfl, rfl, hs52⟩
   refine ZZ 9 [1] rfl rfl ?_
   obtain ⟨r53, hr54, h⟩ := h
   refine st_call (foot := [[(b10, .cells #[v51, .I r47.2.2.1, .I r47.2.2.2] 137 (0, 0))]]) rfl rfl rfl rfl rfl rfl (callV_fn z_en63 (lens_Lens_Err_ok hr54 τ49 hs52)) ?_
   rintro vτ55 τ55 gsτ55 hl56 ⟨rfl, rfl⟩
   refine Z 2 rfl ?_
   refine st_if rfl h (fun h => ?_) (fun h => ?_)
   ·refine st_goto rfl ?_
    refine st_ord [3] _ rfl ?_
    exact hk4 _ _ _ ⟨13, h, ((((((hl9.trans hl16).trans hl22).trans hl29).trans hl44).trans hl50).trans hl56), rfl, rfl⟩
   ·refine Z 7 rfl ?_
    refine st_cut (fun ρ τ57 gs => ∃ (s57 : Bool), log_read_j3 r13 r19 r41 r47 s57 r ∧ τ55.Le τ57 ∧ ESub ρ [(2, .Pb b3), (3, .I 0), (4, .Pb b5), (5, .I 10), (6, .Pb b10), (7, .Pb b25), (8, .I (IntKind.i64.wrap r47.1)), (41, .bool s57)] ∧ gs = [[(b3, .cells #[.I 0, .int .u32 0, .I 0, .I 0, .I 0, .I 0, .I 0, .I 0, .I 0, .I 0, .I 0, .N0, .N0, .E0, .E0] 32 (0, 0))], [(b5, .cells lY.toArray 30 (0, 0))], [(b10, .cells #[v51, .I r47.2.2.1, .I r47.2.2.2] 137 (0, 0))], [(b25, .cells #[.I (IntKind.i64.wrap r13.1), .int .u32 r19.1, .I (IntKind.i64.wrap r41.1), .I 0, .I 0, .I 0, .I 0, .I 0, .I 0, .I 0, .I 0, .N0, .N0, .E0, .E0] 32 (0, 0))]]) ?_ (fun hk57 => ?_)
    ·rintro ρ57 τ57 gs57 ⟨s57, h, hl57, hρ, rfl⟩
     refine st_es hρ ?_
     refine st_if rfl h (fun h => ?_) (fun h => ?_)
     ·refine st_goto rfl ?_
      refine st_ord [0] _ rfl ?_
      exact hk4 _ _ _ ⟨10, h, (((((((hl9.trans hl16).trans hl22).trans hl29).trans hl44).trans hl50).trans hl56).trans hl57), rfl, rfl⟩
     ·refine Z 6 rfl ?_
      obtain ⟨r58, hr59, h⟩ := h
      refine st_ord [2, 0, 0, 0] _ rfl ?_
      refine st_call (foot := [[(b10, .cells #[v51, .I r47.2.2.1, .I r47.2.2.2] 137 (0, 0))]]) rfl rfl rfl rfl rfl rfl (callV_fn z_en83 (lens_Lens_Rest_ok hr59 τ57 (hs52.up (hl56.trans hl57)))) ?_
      rintro vτ60 τ60 gsτ60 hl61 ⟨v62, v64, rfl, rfl, hs63, hs65⟩
      obtain ⟨r66, hr67, h⟩ := h
      refine st_call (foot := []) rfl rfl rfl rfl rfl rfl (callV_fn z_en82 (body_Decode_ok hr67 τ60 hs63)) ?_
      rintro vτ68 τ68 gsτ68 hl69 ⟨v70, v71, rfl, rfl, hs72, hs73⟩
      refine Z 3 rfl ?_
      refine o_store (j := 2) (vs := (lM r66.1 v70 v71)) (cs' := (lM r66.1 v70 v71)) rfl rfl rfl z_size30 rfl rfl rfl (ones_cons rfl (ones_cons rfl (ones_cons rfl (ones_cons rfl (ones_cons rfl (ones_cons rfl (ones_cons rfl (ones_cons hs72.one' (ones_cons hs73.one' (ones_cons rfl (ones_cons rfl ones_nil))))))))))) rfl rfl rfl ?_
      refine Z 7 rfl ?_
      refine st_if rfl h (fun h => ?_) (fun h => ?_)
      ·refine st_goto rfl ?_
       refine st_ord [1] _ rfl ?_
       exact hk4 _ _ _ ⟨r66.2, h, (((((((((hl9.trans hl16).trans hl22).trans hl29).trans hl44).trans hl50).trans hl56).trans hl57).trans hl61).trans hl69), rfl, rfl⟩
      ·refine ZZ 4 [2] rfl rfl ?_
       refine o_store (j := 3) (vs := (lM r66.1 v70 v71)) (cs' := [.I (IntKind.i64.wrap r13.1), .int .u32 r19.1, .I (IntKind.i64.wrap r41.1), .I 0, .I r66.1.1, .I (r66.1.2.1.getD 0 0), .I (r66.1.2.1.getD 1 0), .I (r66.1.2.1.getD 2 0), .I (r66.1.2.1.getD 3 0), .I (r66.1.2.1.getD 4 0), .I (r66.1.2.1.getD 5 0), v70, v71, .string r66.1.t4.1, .string r66.1.t4.2]) rfl rfl rfl z_size30 rfl rfl rfl (ones_cons rfl (ones_cons rfl (ones_cons rfl (ones_cons rfl (ones_cons rfl (ones_cons rfl (ones_cons rfl (ones_cons hs72.one' (ones_cons hs73.one' (ones_cons rfl (ones_cons rfl ones_nil))))))))))) rfl rfl rfl ?_
       refine Z 2 rfl ?_
       refine st_ord [1, 0, 1] _ rfl ?_
       exact hk30 _ _ _ ⟨(r66.2, r58.2.1, r58.2.2.1, r58.2.2.2, (IntKind.i64.wrap r41.1), 0, r66.1.1, (r66.1.2.1.getD 0 0), (r66.1.2.1.getD 1 0), (r66.1.2.1.getD 2 0), (r66.1.2.1.getD 3 0), (r66.1.2.1.getD 4 0), (r66.1.2.1.getD 5 0), r66.1.2.2.1, r66.1.2.2.2.1, r66.1.t4.1, r66.1.t4.2), _, _, _, h, (((((hl44.trans hl50).trans hl56).trans hl57).trans hl61).trans hl69), rfl, rfl, (hs65.up hl69), hs72, hs73⟩
    refine ZZ 4 [1] rfl rfl ?_
    refine o_mif rfl rfl rfl rfl h (fun h => ?_) (fun h => ?_)
    ·refine ZZ 5 [1] rfl rfl ?_
     refine st_ord [3, 2, 0, 0] _ rfl ?_
     exact hk57 _ _ _ ⟨(!(decide ((IntKind.i64.wrap r41.1) = 2))), h, (Sto.Le.refl _), rfl, rfl⟩
    ·refine Z 5 rfl ?_
     refine st_ord [3, 2, 0, 0] _ rfl ?_
     exact hk57 _ _ _ ⟨false, h, (Sto.Le.refl _), rfl, rfl⟩
  ·refine Z 5 rfl ?_
   refine st_if rfl h (fun h => ?_) (fun h => ?_)
   ·refine Z 3 rfl ?_
    obtain ⟨r74, hr75, h⟩ := h
    refine st_call (foot := [[(b10, .cells #[v23, .I r19.2.2.1, .I r19.2.2.2] 137 (0, 0))]]) rfl rfl rfl rfl rfl rfl (callV_fn z_en80 (lens_Lens_U8_ok hr75 τ28 (hs24.up hl29))) ?_
    rintro vτ76 τ76 gsτ76 hl77 ⟨v78, rfl, rfl, hs79⟩
    refine ZZ 8 [1] rfl rfl ?_
    obtain ⟨r80, hr81, h⟩ := h
    refine st_call (foot := [[(b10, .cells #[v78, .I r74.2.2.1, .I r74.2.2.2] 137 (0, 0))]]) rfl rfl rfl rfl rfl rfl (callV_fn z_en63 (lens_Lens_Err_ok hr81 τ76 hs79)) ?_
    rintro vτ82 τ82 gsτ82 hl83 ⟨rfl, rfl⟩
    refine Z 2 rfl ?_
    refine st_if rfl h (fun h => ?_) (fun h => ?_)
    ·refine st_goto rfl ?_
     refine st_ord [3] _ rfl ?_
     exact hk4 _ _ _ ⟨13, h, (((((hl9.trans hl16).trans hl22).trans hl29).trans hl77).trans hl83), rfl, rfl⟩
    ·refine ZZ 9 [1] rfl rfl ?_
     obtain ⟨r84, hr85, h⟩ := h
     refine st_call (foot := []) rfl rfl rfl rfl rfl rfl (callV_fn z_en23 (event_Word_ok hr85 τ82)) ?_
     rintro vτ86 τ86 gsτ86 hl87 ⟨rfl, rfl⟩
     refine o_sbin (v := .bool (decide (r84 = (bstr [])))) rfl rfl rfl rfl (ev_str z_str19) rfl ?_
     refine st_end ?_
     refine st_if rfl h (fun h => ?_) (fun h => ?_)
     ·refine st_goto rfl ?_
      refine st_ord [3] _ rfl ?_
      exact hk4 _ _ _ ⟨7, h, ((((((hl9.trans hl16).trans hl22).trans hl29).trans hl77).trans hl83).trans hl87), rfl, rfl⟩
     ·refine Z 2 rfl ?_
      refine st_ord [3, 0, 0] _ rfl ?_
      exact hk30 _ _ _ ⟨(7, r74.2.1, r74.2.2.1, r74.2.2.2, 0, (IntKind.i64.wrap r74.1), 0, 0, 0, 0, 0, 0, 0, [], [], (bstr []), (bstr [])), _, _, _, h, ((hl77.trans hl83).trans hl87), rfl, rfl, (hs79.up (hl83.trans hl87)), Sl.nil, Sl.nil⟩
   ·refine Z 5 rfl ?_
    refine st_if rfl h (fun h => ?_) (fun h => ?_)
    ·refine Z 2 rfl ?_
     refine st_ord [3, 0, 0] _ rfl ?_
     exact hk30 _ _ _ ⟨(13, r19.2.1, r19.2.2.1, r19.2.2.2, 0, 0, 0, 0, 0, 0, 0, 0, 0, [], [], (bstr []), (bstr [])), _, _, _, h, (Sto.Le.refl _), rfl, rfl, (hs24.up hl29), Sl.nil, Sl.nil⟩
    ·refine Z 4 rfl ?_
     refine st_goto rfl ?_
     refine st_ord [3] _ rfl ?_
     exact hk4 _ _ _ ⟨9, h, (((hl9.trans hl16).trans hl22).trans hl29), rfl, rfl⟩
theorem log_Parse_1_ok {a0 : Int} {a1 : Int} {a2 : Int × Int × Int × Int × (TyM)} {c0 : List (Int × Int × Int × Int × (TyM))} {v1 : Value} {v2 : Value} {bc0 : Nat} {v5 : Value} {g6 : Grp} {r : Bool × (List (Int × Int × Int × Int × (TyM)))} (h : log_Parse_1 a0 a1 a2 c0 r) (σ : Sto) (hs3 : Sl (kP (kI .i64) (kI .i64)) σ v1 a2.t4.2.2.1) (hs4 : Sl (kI .i64) σ v2 a2.t4.2.2.2.1) (ho7 : Ow (kP (kI .i64) (kP (kI .u32) (kP (kI .i64) (kP (kI .i64) (kP (kI .i64) (kP (kA .i64 6) (kP (kSl (kP (kI .i64) (kI .i64))) (kP (kSl (kI .i64)) (kP kS kS))))))))) 32 σ v5 c0 g6) :
    Does Tryz.prog 34 [.I a0, .I a1, .agg [.I a2.1, .int .u32 a2.2.1, .I a2.2.2.1, .I a2.2.2.2.1, .I a2.t4.1, .I (a2.t4.2.1.getD 0 0), .I (a2.t4.2.1.getD 1 0), .I (a2.t4.2.1.getD 2 0), .I (a2.t4.2.1.getD 3 0), .I (a2.t4.2.1.getD 4 0), .I (a2.t4.2.1.getD 5 0), v1, v2, .string a2.t4.t4.1, .string a2.t4.t4.2].toArray, .Pb bc0] σ [[(bc0, .cells [v5].toArray 22 (0, 0))], g6] (fun v τ gs => ∃ (v17 : Value) (g18 : Grp), gs = [[(bc0, .cells [v17].toArray 22 (0, 0))], g18] ∧ .bool r.1 = v ∧ Ow (kP (kI .i64) (kP (kI .u32) (kP (kI .i64) (kP (kI .i64) (kP (kI .i64) (kP (kA .i64 6) (kP (kSl (kP (kI .i64) (kI .i64))) (kP (kSl (kI .i64)) (kP kS kS))))))))) 32 τ v17 r.2 g18) := by
 refine call_of Tryz.func34 Tryz.ntmps34 rfl rfl (fun cs fs => ?_)
 refine Z 2 rfl ?_
 refine o_box (cs := [.I a2.1, .int .u32 a2.2.1, .I a2.2.2.1, .I a2.2.2.2.1, .I a2.t4.1, .I (a2.t4.2.1.getD 0 0), .I (a2.t4.2.1.getD 1 0), .I (a2.t4.2.1.getD 2 0), .I (a2.t4.2.1.getD 3 0), .I (a2.t4.2.1.getD 4 0), .I (a2.t4.2.1.getD 5 0), v1, v2, .string a2.t4.t4.1, .string a2.t4.t4.2]) rfl rfl rfl rfl rfl (fun b8 => ?_)
 refine ZZ 6 [1, 0] rfl rfl ?_
 refine o_lit (dk := (kP (kI .i64) (kP (kI .u32) (kP (kI .i64) (kP (kI .i64) (kP (kI .i64) (kP (kA .i64 6) (kP (kSl (kP (kI .i64) (kI .i64))) (kP (kSl (kI .i64)) (kP kS kS)))))))))) (xs := [a2]) (ps := [(0, [.I a2.1, .int .u32 a2.2.1, .I a2.2.2.1, .I a2.2.2.2.1, .I a2.t4.1, .I (a2.t4.2.1.getD 0 0), .I (a2.t4.2.1.getD 1 0), .I (a2.t4.2.1.getD 2 0), .I (a2.t4.2.1.getD 3 0), .I (a2.t4.2.1.getD 4 0), .I (a2.t4.2.1.getD 5 0), v1, v2, .string a2.t4.t4.1, .string a2.t4.t4.2])]) (cs := [.I a2.1, .int .u32 a2.2.1, .I a2.2.2.1, .I a2.2.2.2.1, .I a2.t4.1, .I (a2.t4.2.1.getD 0 0), .I (a2.t4.2.1.getD 1 0), .I (a2.t4.2.1.getD 2 0), .I (a2.t4.2.1.getD 3 0), .I (a2.t4.2.1.getD 4 0), .I (a2.t4.2.1.getD 5 0), v1, v2, .string a2.t4.t4.1, .string a2.t4.t4.2]) rfl rfl rfl z_slT22 z_zero32 ⟨rfl, ⟨_, rfl, rfl⟩, trivial⟩ rfl rfl rfl rfl (Kd.Many.cons (d := (kP (kI .i64) (kP (kI .u32) (kP (kI .i64) (kP (kI .i64) (kP (kI .i64) (kP (kA .i64 6) (kP (kSl (kP (kI .i64) (kI .i64))) (kP (kSl (kI .i64)) (kP kS kS)))))))))) (x := a2) (a := [.I a2.1, .int .u32 a2.2.1, .I a2.2.2.1, .I a2.2.2.2.1, .I a2.t4.1, .I (a2.t4.2.1.getD 0 0), .I (a2.t4.2.1.getD 1 0), .I (a2.t4.2.1.getD 2 0), .I (a2.t4.2.1.getD 3 0), .I (a2.t4.2.1.getD 4 0), .I (a2.t4.2.1.getD 5 0), v1, v2, .string a2.t4.t4.1, .string a2.t4.t4.2]) ⟨[.I a2.1], _, rfl, rfl, ⟨[.int .u32 a2.2.1], _, rfl, rfl, ⟨[.I a2.2.2.1], _, rfl, rfl, ⟨[.I a2.2.2.2.1], _, rfl, rfl, ⟨[.I a2.t4.1], _, rfl, rfl, ⟨[.I (a2.t4.2.1.getD 0 0), .I (a2.t4.2.1.getD 1 0), .I (a2.t4.2.1.getD 2 0), .I (a2.t4.2.1.getD 3 0), .I (a2.t4.2.1.getD 4 0), .I (a2.t4.2.1.getD 5 0)], _, rfl, rfl, ⟨[v1], _, rfl, ⟨_, rfl, hs3⟩, ⟨[v2], _, rfl, ⟨_, rfl, hs4⟩, ⟨[.string a2.t4.t4.1], _, rfl, rfl, rfl⟩⟩⟩⟩⟩⟩⟩⟩⟩ Kd.Many.nil) (fun v9 g10 ho11 => ?_)
 obtain ⟨hf15, hf16, h⟩ := h
 refine st_ord [3, 0, 0, 0] _ rfl ?_
 refine o_append (dk := (kP (kI .i64) (kP (kI .u32) (kP (kI .i64) (kP (kI .i64) (kP (kI .i64) (kP (kA .i64 6) (kP (kSl (kP (kI .i64) (kI .i64))) (kP (kSl (kI .i64)) (kP kS kS)))))))))) (xs := c0) (ys := [a2]) rfl rfl rfl rfl z_slT22 rfl ho7 rfl (Ow.src (j := 1) ho11 rfl) hf15 hf16 (fun v12 g13 ho14 => ?_)
 refine o_store (j := 3) (vs := [v12]) (cs' := [v12]) rfl rfl rfl z_size22 rfl rfl (oneL_ow ho14) (ones_cons ho14.one' ones_nil) rfl rfl rfl ?_
 refine Z 5 rfl ?_
 refine st_ord [3, 0] _ rfl ?_
 obtain rfl := Eq.symm h
 exact st_ret (gs' := [[(bc0, .cells #[v12] 22 (0, 0))], g13]) Tryz.func34 rfl (List.Sublist.refl _) (Sto.Le.refl _) ⟨_, _, rfl, rfl, ho14⟩
theorem log_each__log_Parse_1_ok {a0 : List Int} {a1_0 : List (Int × Int × Int × Int × (TyM))} {v1 : Value} {ba1_0 : Nat} {v3 : Value} {g4 : Grp} {r : Int × (List (Int × Int × Int × Int × (TyM)))} (h : log_each__log_Parse_1 a0 a1_0 r) (σ : Sto) (hs2 : Sl (kI .u8) σ v1 a0) (ho5 : Ow (kP (kI .i64) (kP (kI .u32) (kP (kI .i64) (kP (kI .i64) (kP (kI .i64) (kP (kA .i64 6) (kP (kSl (kP (kI .i64) (kI .i64))) (kP (kSl (kI .i64)) (kP kS kS))))))))) 32 σ v3 a1_0 g4) :
    Does Tryz.prog 33 [v1, .func (.func 34) #[] [.Pb ba1_0].toArray] σ [[(ba1_0, .cells [v3].toArray 22 (0, 0))], g4] (fun v τ gs => ∃ (v73 : Value) (g74 : Grp), gs = [[(ba1_0, .cells [v73].toArray 22 (0, 0))], g74] ∧ .I r.1 = v ∧ Ow (kP (kI .i64) (kP (kI .u32) (kP (kI .i64) (kP (kI .i64) (kP (kI .i64) (kP (kA .i64 6) (kP (kSl (kP (kI .i64) (kI .i64))) (kP (kSl (kI .i64)) (kP kS kS))))))))) 32 τ v73 r.2 g74) := by
 refine call_of Tryz.func33 Tryz.ntmps33 rfl rfl (fun cs fs => ?_)
 refine Z 8 rfl ?_
 obtain ⟨r6, hr7, h⟩ := h
 refine st_call (foot := []) rfl rfl rfl rfl rfl rfl (callV_fn z_en59 (lens_New_ok hr7 σ hs2)) ?_
 rintro vτ8 τ8 gsτ8 hl9 ⟨b10, v11, rfl, rfl, hs12⟩
 refine Z 5 rfl ?_
 refine st_cut (fun ρ τ13 gs => ∃ (s13 : (List (Int × Int × Int × Int × (TyM)))) (v14 : Value) (g15 : Grp), log_each__log_Parse_1_j1 s13 r ∧ τ8.Le τ13 ∧ ESub ρ [(4, .I 0)] ∧ gs = [[(ba1_0, .cells #[v14] 22 (0, 0))], g15] ∧ Ow (kP (kI .i64) (kP (kI .u32) (kP (kI .i64) (kP (kI .i64) (kP (kI .i64) (kP (kA .i64 6) (kP (kSl (kP (kI .i64) (kI .i64))) (kP (kSl (kI .i64)) (kP kS kS))))))))) 32 τ13 v14 s13 g15) ?_ (fun hk13 => ?_)
 ·rintro ρ13 τ13 gs13 ⟨s13, v14, g15, h, hl13, hρ, rfl, ho16⟩
  refine st_es hρ ?_
  refine Z 4 rfl ?_
  obtain rfl := Eq.symm h
  exact st_ret (gs' := [[(ba1_0, .cells #[v14] 22 (0, 0))], g15]) Tryz.func33 rfl (List.Sublist.refl _) (hl9.trans hl13) ⟨_, _, rfl, rfl, ho16⟩
 obtain ⟨e17, hL17, hA17⟩ := h
 refine st_ord [1, 0, 0] _ rfl ?_
 refine st_loop hL17 (fun (s17 : (List (Int × Int × Int × Int × (TyM))) × List Int × Int × Int) ρ τ17 gs => τ8.Le τ17 ∧ ∃ (v18 : Value) (g19 : Grp) (v21 : Value), ESub ρ [(1, .func (.func 34) #[] #[.Pb ba1_0]), (4, .I 0), (5, .Pb b10)] ∧ gs = [[(ba1_0, .cells #[v18] 22 (0, 0))], [(b10, .cells #[v21, .I s17.2.2.1, .I s17.2.2.2] 137 (0, 0))], g19] ∧ Ow (kP (kI .i64) (kP (kI .u32) (kP (kI .i64) (kP (kI .i64) (kP (kI .i64) (kP (kA .i64 6) (kP (kSl (kP (kI .i64) (kI .i64))) (kP (kSl (kI .i64)) (kP kS kS))))))))) 32 τ17 v18 s17.1 g19 ∧ Sl (kI .u8) τ17 v21 s17.2.1) ⟨Sto.Le.refl _, _, _, _, rfl, rfl, (ho5.up hl9), hs12⟩ ?_
 rintro s17 o17 h he17 ρ17 τ17 gs17 ⟨hl17, v18, g19, v21, hρ, rfl, ho20, hs22⟩ hn17
 refine st_es hρ ?_
 refine Z 4 rfl ?_
 obtain ⟨r23, hr24, h⟩ := h
 refine st_ord [1, 0, 0] _ rfl ?_
 refine st_call (foot := [[(b10, .cells #[v21, .I s17.2.2.1, .I s17.2.2.2] 137 (0, 0))]]) rfl rfl rfl rfl rfl rfl (callV_fn z_en60 (lens_Lens_Left_ok hr24 τ17 hs22)) ?_
 rintro vτ25 τ25 gsτ25 hl26 ⟨rfl, rfl⟩
 refine Z 2 rfl ?_
 refine st_if rfl h (fun h => ?_) (fun h => ?_)
 ·refine Z 5 rfl ?_
  obtain ⟨r27, hr28, h⟩ := h
  refine st_call (foot := [[(b10, .cells #[v21, .I s17.2.2.1, .I s17.2.2.2] 137 (0, 0))]]) rfl rfl rfl rfl rfl rfl (callV_fn z_en61 (lens_Lens_Place_ok hr28 τ25 (hs22.up hl26))) ?_
  rintro vτ29 τ29 gsτ29 hl30 ⟨rfl, rfl⟩
  refine Z 5 rfl ?_
  obtain ⟨r31, hr32, h⟩ := h
  refine st_call (foot := [[(b10, .cells #[v21, .I s17.2.2.1, .I s17.2.2.2] 137 (0, 0))]]) rfl rfl rfl rfl rfl rfl (callV_fn z_en62 (lens_Lens_Field_ok hr32 τ29 (hs22.up (hl26.trans hl30)))) ?_
  rintro vτ33 τ33 gsτ33 hl34 ⟨v35, v37, rfl, rfl, hs36, hs38⟩
  refine Z 6 rfl ?_
  obtain ⟨r39, hr40, h⟩ := h
  refine st_call (foot := [[(b10, .cells #[v37, .I r31.2.2.1, .I r31.2.2.2] 137 (0, 0))]]) rfl rfl rfl rfl rfl rfl (callV_fn z_en63 (lens_Lens_Err_ok hr40 τ33 hs38)) ?_
  rintro vτ41 τ41 gsτ41 hl42 ⟨rfl, rfl⟩
  refine Z 2 rfl ?_
  refine st_if rfl h (fun h => ?_) (fun h => ?_)
  ·refine Z 3 rfl ?_
   obtain ⟨r43, hr44, h⟩ := h
   refine st_call (foot := [[(b10, .cells #[v37, .I r31.2.2.1, .I r31.2.2.2] 137 (0, 0))]]) rfl rfl rfl rfl rfl rfl (callV_fn z_en63 (lens_Lens_Err_ok hr44 τ41 (hs38.up hl42))) ?_
   rintro vτ45 τ45 gsτ45 hl46 ⟨rfl, rfl⟩
   refine Z 2 rfl ?_
   refine st_ord [1, 1] _ rfl ?_
   obtain rfl := he17 _ h
   replace h := hA17
   obtain rfl := Eq.symm h
   exact st_ret (gs' := [[(ba1_0, .cells #[v18] 22 (0, 0))], g19]) Tryz.func33 rfl (List.Sublist.refl _) ((((((hl9.trans hl17).trans hl26).trans hl30).trans hl34).trans hl42).trans hl46) ⟨_, _, rfl, rfl, (ho20.up ((((hl26.trans hl30).trans hl34).trans hl42).trans hl46))⟩
  ·refine Z 4 rfl ?_
   obtain ⟨r47, hr48, h⟩ := h
   refine st_call (foot := []) rfl rfl rfl rfl rfl rfl (callV_fn z_en64 (log_read_ok hr48 τ41 (hs36.up hl42))) ?_
   rintro vτ49 τ49 gsτ49 hl50 ⟨v51, v52, rfl, rfl, hs53, hs54⟩
   refine Z 3 rfl ?_
   refine o_alloc rfl rfl rfl z_zero32 (fun b55 => ?_)
   refine o_store (j := 0) (vs := [.I r47.1.1, .int .u32 r47.1.2.1, .I r47.1.2.2.1, .I r47.1.2.2.2.1, .I r47.1.t4.1, .I (r47.1.t4.2.1.getD 0 0), .I (r47.1.t4.2.1.getD 1 0), .I (r47.1.t4.2.1.getD 2 0), .I (r47.1.t4.2.1.getD 3 0), .I (r47.1.t4.2.1.getD 4 0), .I (r47.1.t4.2.1.getD 5 0), v51, v52, .string r47.1.t4.t4.1, .string r47.1.t4.t4.2]) (cs' := [.I r47.1.1, .int .u32 r47.1.2.1, .I r47.1.2.2.1, .I r47.1.2.2.2.1, .I r47.1.t4.1, .I (r47.1.t4.2.1.getD 0 0), .I (r47.1.t4.2.1.getD 1 0), .I (r47.1.t4.2.1.getD 2 0), .I (r47.1.t4.2.1.getD 3 0), .I (r47.1.t4.2.1.getD 4 0), .I (r47.1.t4.2.1.getD 5 0), v51, v52, .string r47.1.t4.t4.1, .string r47.1.t4.t4.2]) rfl rfl rfl z_size32 rfl rfl rfl (ones_cons rfl (ones_cons rfl (ones_cons rfl (ones_cons rfl (ones_cons rfl (ones_cons rfl (ones_cons rfl (ones_cons rfl (ones_cons rfl (ones_cons rfl (ones_cons rfl (ones_cons hs53.one' (ones_cons hs54.one' (ones_cons rfl (ones_cons rfl ones_nil))))))))))))))) rfl rfl rfl ?_
   refine Z 8 rfl ?_
   refine st_if rfl h (fun h => ?_) (fun h => ?_)
   ·refine Z 5 rfl ?_
    refine st_ord [2, 2] _ rfl ?_
    obtain rfl := he17 _ h
    replace h := hA17
    obtain rfl := Eq.symm h
    exact st_ret (gs' := [[(ba1_0, .cells #[v18] 22 (0, 0))], g19]) Tryz.func33 rfl (List.Sublist.refl _) ((((((hl9.trans hl17).trans hl26).trans hl30).trans hl34).trans hl42).trans hl50) ⟨_, _, rfl, rfl, (ho20.up ((((hl26.trans hl30).trans hl34).trans hl42).trans hl50))⟩
   ·refine Z 2 rfl ?_
    obtain ⟨r56, hr57, r60, hr61, h⟩ := h
    refine st_d41 [[(b55, .cells #[.I r47.1.1, .int .u32 r47.1.2.1, .I r47.1.2.2.1, .I r47.1.2.2.2.1, .I r47.1.t4.1, .I (r47.1.t4.2.1.getD 0 0), .I (r47.1.t4.2.1.getD 1 0), .I (r47.1.t4.2.1.getD 2 0), .I (r47.1.t4.2.1.getD 3 0), .I (r47.1.t4.2.1.getD 4 0), .I (r47.1.t4.2.1.getD 5 0), v51, v52, .string r47.1.t4.t4.1, .string r47.1.t4.t4.2] 32 (0, 0))], [(b10, .cells #[v37, .I r31.2.2.1, .I r31.2.2.2] 137 (0, 0))]] [[(ba1_0, .cells #[v18] 22 (0, 0))], g19] 7 1 [none, none, none, none, none, some (0, 0), none] [none, none, none, none, none, none, none] [[none, some 37]] [.v (.func (.func 34) #[] #[.Pb ba1_0]), .v (.I r27), .v (.Pb b10), .v (.I r56), .v (.agg #[.I r47.1.1, .int .u32 r47.1.2.1, .I r47.1.2.2.1, .I r47.1.2.2.2.1, .I r47.1.t4.1, .I (r47.1.t4.2.1.getD 0 0), .I (r47.1.t4.2.1.getD 1 0), .I (r47.1.t4.2.1.getD 2 0), .I (r47.1.t4.2.1.getD 3 0), .I (r47.1.t4.2.1.getD 4 0), .I (r47.1.t4.2.1.getD 5 0), v51, v52, .string r47.1.t4.t4.1, .string r47.1.t4.t4.2]), .v (.bool r60.1), .v (.bool (!r60.1))] [[fun τ u F => F = [[(ba1_0, .cells #[v18] 22 (0, 0))], g19], fun τ u F => ∃ (v67 : Value) (g68 : Grp), F = [[(ba1_0, .cells #[v67] 22 (0, 0))], g68] ∧ Ow (kP (kI .i64) (kP (kI .u32) (kP (kI .i64) (kP (kI .i64) (kP (kI .i64) (kP (kA .i64 6) (kP (kSl (kP (kI .i64) (kI .i64))) (kP (kSl (kI .i64)) (kP kS kS))))))))) 32 τ v67 r60.2 g68]] rfl z_mix rfl trivial ⟨⟨fun _ _ _ _ hl h => h, ⟨fun _ _ _ _ hl h => (let ⟨v67, g68, hF, ho69⟩ := h; ⟨v67, g68, hF, ho69.up hl⟩), trivial⟩⟩, trivial⟩ rfl rfl ?_ (allB_cons (allB_cons (allB_cons (allB_cons (allB_cons (allB_cons (allB_cons allB_nil (p4 dA)) (p4 dA)) (p4 dA)) ?_) ?_) ?_) (p4 dA)) ?_
    ·exact rfl
    ·intro ρ' τ pool rs hl hd hout hw hk
     obtain ⟨_, e2, rfl⟩ := hd 2 rfl _ rfl
     refine st_ord [1, 0, 0] _ rfl ?_
     refine st_call (foot := [[(b10, .cells #[v37, .I r31.2.2.1, .I r31.2.2.2] 137 (0, 0))]]) rfl rfl rfl rfl (evs_cons e2 rfl) rfl (callV_fn z_en61 (lens_Lens_Place_ok hr57 τ (hs38.up ((hl42.trans hl50).trans hl)))) ?_
     rintro vτ58 τ58 gsτ58 hl59 ⟨rfl, rfl⟩
     refine st_ord [1, 0, 0] _ rfl ?_
     exact hk _ _ hl59 rfl
    ·intro ρ' τ pool rs hl hd hout hw hk
     refine o_loadN (j := 0) (vs := [.I r47.1.1, .int .u32 r47.1.2.1, .I r47.1.2.2.1, .I r47.1.2.2.2.1, .I r47.1.t4.1, .I (r47.1.t4.2.1.getD 0 0), .I (r47.1.t4.2.1.getD 1 0), .I (r47.1.t4.2.1.getD 2 0), .I (r47.1.t4.2.1.getD 3 0), .I (r47.1.t4.2.1.getD 4 0), .I (r47.1.t4.2.1.getD 5 0), v51, v52, .string r47.1.t4.t4.1, .string r47.1.t4.t4.2]) rfl rfl rfl z_agg32 ((hout 8 rfl).trans rfl) rfl rfl ?_
     exact hk _ _ (Sto.Le.refl _) rfl
    ·intro ρ' τ u Fv pool rs hl hI hu hd hout hw hk
     obtain ⟨_, e0, rfl⟩ := hd 0 rfl _ rfl
     obtain ⟨_, e1, rfl⟩ := hd 1 rfl _ rfl
     obtain ⟨_, e3, rfl⟩ := hd 3 rfl _ rfl
     obtain ⟨_, e4, rfl⟩ := hd 4 rfl _ rfl
     have hI0 := hI
     obtain rfl := hI
     refine st_ord [2, 2, 0, 0, 0] _ rfl ?_
     refine st_call (foot := [[(ba1_0, .cells #[v18] 22 (0, 0))], g19]) rfl rfl rfl e0 (evs_cons e1 (evs_cons e3 (evs_cons e4 rfl))) rfl (callV_of2 (caps := [.Pb ba1_0]) z_en34 (log_Parse_1_ok hr61 τ (hs53.up hl) (hs54.up hl) (ho20.up (((((hl26.trans hl30).trans hl34).trans hl42).trans hl50).trans hl))) rfl) ?_
     rintro vτ62 τ62 gsτ62 hl63 ⟨v64, g65, rfl, rfl, ho66⟩
     refine st_ord [2, 2, 0, 0, 0] _ rfl ?_
     exact hk _ _ [[(ba1_0, .cells #[v64] 22 (0, 0))], g65] hl63 rfl (by exact ⟨v64, g65, rfl, ho66⟩)
    intro ρ' τ70 vals u Fv hl70 hI hu hv hout
    obtain ⟨v67, g68, rfl, ho69⟩ := hI
    refine st_env (ρ' := [(38, .bool (!r60.1)), (1, .func (.func 34) #[] #[.Pb ba1_0]), (4, .I 0), (5, .Pb b10)]) ⟨(lv4 hv 6 rfl rfl rfl), (hout 1 rfl).trans rfl, (hout 4 rfl).trans rfl, (hout 5 rfl).trans rfl, trivial⟩ ?_
    refine st_end ?_
    refine st_if rfl h (fun h => ?_) (fun h => ?_)
    ·refine st_exit rfl ?_
     obtain rfl := he17 _ h
     replace h := hA17
     refine st_ord [2, 2] _ rfl ?_
     exact hk13 _ _ _ ⟨r60.2, _, _, h, ((((((hl17.trans hl26).trans hl30).trans hl34).trans hl42).trans hl50).trans hl70), rfl, rfl, ho69⟩
    ·refine Z 2 rfl ?_
     refine st_ord [2, 1, 1] _ rfl ?_
     exact hn17 _ _ _ _ h ⟨((((((hl17.trans hl26).trans hl30).trans hl34).trans hl42).trans hl50).trans hl70), _, _, _, rfl, rfl, ho69, (hs38.up ((hl42.trans hl50).trans hl70))⟩
 ·refine st_exit rfl ?_
  obtain rfl := he17 _ h
  replace h := hA17
  refine st_ord [1, 1] _ rfl ?_
  exact hk13 _ _ _ ⟨s17.1, _, _, h, (hl17.trans hl26), rfl, rfl, (ho20.up hl26)⟩
theorem log_Parse_ok {a0 : List Int} {v1 : Value} {r : (List (Int × Int × Int × Int × (TyM))) × Int} (h : log_Parse a0 r) (σ : Sto) (hs2 : Sl (kI .u8) σ v1 a0) :
    Does Tryz.prog 13 [v1] σ [] (fun v τ gs => ∃ (v17 : Value), gs = [] ∧ .tuple [v17, .I r.2].toArray = v ∧ Sl (kP (kI .i64) (kP (kI .u32) (kP (kI .i64) (kP (kI .i64) (kP (kI .i64) (kP (kA .i64 6) (kP (kSl (kP (kI .i64) (kI .i64))) (kP (kSl (kI .i64)) (kP kS kS))))))))) τ v17 r.1) := by
 refine call_of Tryz.func13 Tryz.ntmps13 rfl rfl (fun cs fs => ?_)
 refine Z 7 rfl ?_
 refine o_alloc rfl rfl rfl z_zero22 (fun b3 => ?_)
 refine Z 5 rfl ?_
 obtain ⟨r4, hr5, h⟩ := h
 refine st_addNil ?_
 refine st_ord [1, 0] _ rfl ?_
 refine st_call (foot := [[(b3, .cells #[.N0] 22 (0, 0))], []]) rfl rfl rfl rfl rfl rfl (callV_fn z_en33 (log_each__log_Parse_1_ok hr5 σ hs2 Ow.nil)) ?_
 rintro vτ6 τ6 gsτ6 hl7 ⟨v8, g9, rfl, rfl, ho10⟩
 refine Z 8 rfl ?_
 refine st_if rfl h (fun h => ?_) (fun h => ?_)
 ·refine Z 6 rfl ?_
  refine st_ord [] _ rfl ?_
  obtain rfl := Eq.symm h
  exact st_ret (gs' := []) Tryz.func13 rfl (List.Sublist.refl _) hl7 ⟨_, rfl, rfl, Sl.nil⟩
 ·refine ZZ 7 [0] rfl rfl ?_
  refine st_ord [1, 0] _ rfl ?_
  refine st_freeze (fun τ11 hl12 hg13 => ?_)
  have hs14 := ho10.freeze hl12 hg13
  refine st_ord [] _ rfl ?_
  obtain rfl := Eq.symm h
  exact st_ret (gs' := []) Tryz.func13 rfl (List.Sublist.refl _) (hl7.trans hl12) ⟨_, rfl, rfl, hs14⟩
theorem ref23_Same_ok {a0 : Int × Int × Int × Int × (TyR)} {a1 : Int × Int × Int × Int × (TyR)} {v1 : Value} {v2 : Value} {v5 : Value} {v6 : Value} {r : Bool} (h : ref23_Same a0 a1 r) (σ : Sto) (hs3 : Sl (kA .i64 2) σ v1 a0.t4.2.2.1) (hs4 : Sl (kI .i64) σ v2 a0.t4.2.2.2.1) (hs7 : Sl (kA .i64 2) σ v5 a1.t4.2.2.1) (hs8 : Sl (kI .i64) σ v6 a1.t4.2.2.2.1) :
    Does Tryz.prog 17 [.agg [.I a0.1, .int .u32 a0.2.1, .I a0.2.2.1, .I a0.2.2.2.1, .I a0.t4.1, .I (a0.t4.2.1.getD 0 0), .I (a0.t4.2.1.getD 1 0), .I (a0.t4.2.1.getD 2 0), .I (a0.t4.2.1.getD 3 0), .I (a0.t4.2.1.getD 4 0), .I (a0.t4.2.1.getD 5 0), v1, v2, .string a0.t4.t4.1, .string a0.t4.t4.2].toArray, .agg [.I a1.1, .int .u32 a1.2.1, .I a1.2.2.1, .I a1.2.2.2.1, .I a1.t4.1, .I (a1.t4.2.1.getD 0 0), .I (a1.t4.2.1.getD 1 0), .I (a1.t4.2.1.getD 2 0), .I (a1.t4.2.1.getD 3 0), .I (a1.t4.2.1.getD 4 0), .I (a1.t4.2.1.getD 5 0), v5, v6, .string a1.t4.t4.1, .string a1.t4.t4.2].toArray] σ [] (fun v τ gs => gs = [] ∧ .bool r = v) := by
 refine call_of Tryz.func17 Tryz.ntmps17 rfl rfl (fun cs fs => ?_)
 refine Z 2 rfl ?_
 refine o_box (cs := [.I a0.1, .int .u32 a0.2.1, .I a0.2.2.1, .I a0.2.2.2.1, .I a0.t4.1, .I (a0.t4.2.1.getD 0 0), .I (a0.t4.2.1.getD 1 0), .I (a0.t4.2.1.getD 2 0), .I (a0.t4.2.1.getD 3 0), .I (a0.t4.2.1.getD 4 0), .I (a0.t4.2.1.getD 5 0), v1, v2, .string a0.t4.t4.1, .string a0.t4.t4.2]) rfl rfl rfl rfl rfl (fun b9 => ?_)
 refine o_box (cs := [.I a1.1, .int .u32 a1.2.1, .I a1.2.2.1, .I a1.2.2.2.1, .I a1.t4.1, .I (a1.t4.2.1.getD 0 0), .I (a1.t4.2.1.getD 1 0), .I (a1.t4.2.1.getD 2 0), .I (a1.t4.2.1.getD 3 0), .I (a1.t4.2.1.getD 4 0), .I (a1.t4.2.1.getD 5 0), v5, v6, .string a1.t4.t4.1, .string a1.t4.t4.2]) rfl rfl rfl rfl rfl (fun b10 => ?_)
 refine Z 3 rfl ?_
 refine st_cut (fun ρ τ11 gs => ∃ (s11 : Bool), ref23_Same_j1 s11 r ∧ σ.Le τ11 ∧ ESub ρ [(4, .bool s11)] ∧ gs = []) ?_ (fun hk11 => ?_)
 ·rintro ρ11 τ11 gs11 ⟨s11, h, hl11, hρ, rfl⟩
  refine st_es hρ ?_
  obtain rfl := Eq.symm h
  exact st_ret (gs' := []) Tryz.func17 rfl (List.Sublist.refl _) hl11 ⟨rfl, rfl⟩
 refine ZZ 6 [1, 0] rfl rfl ?_
 refine o_mif rfl rfl rfl rfl h (fun h => ?_) (fun h => ?_)
 ·refine ZZ 6 [1, 0] rfl rfl ?_
  refine o_mif rfl rfl rfl rfl h (fun h => ?_) (fun h => ?_)
  ·refine ZZ 6 [1, 0] rfl rfl ?_
   refine o_mif rfl rfl rfl rfl h (fun h => ?_) (fun h => ?_)
   ·refine ZZ 6 [1, 0] rfl rfl ?_
    refine o_mif rfl rfl rfl rfl h (fun h => ?_) (fun h => ?_)
    ·refine ZZ 4 [1, 0] rfl rfl ?_
     obtain ⟨r12, hr13, h⟩ := h
     refine st_call (foot := []) rfl rfl rfl rfl rfl rfl (callV_fn z_en25 (ref17_Same_ok hr13 σ hs3 hs4 hs7 hs8)) ?_
     rintro vτ14 τ14 gsτ14 hl15 ⟨rfl, rfl⟩
     refine Z 3 rfl ?_
     refine st_ord [] _ rfl ?_
     exact hk11 _ _ _ ⟨r12, h, hl15, rfl, rfl⟩
    ·refine Z 8 rfl ?_
     refine st_ord [] _ rfl ?_
     exact hk11 _ _ _ ⟨false, h, (Sto.Le.refl _), rfl, rfl⟩
   ·refine Z 15 rfl ?_
    refine st_ord [] _ rfl ?_
    exact hk11 _ _ _ ⟨false, h, (Sto.Le.refl _), rfl, rfl⟩
  ·refine Z 22 rfl ?_
   refine st_ord [] _ rfl ?_
   exact hk11 _ _ _ ⟨false, h, (Sto.Le.refl _), rfl, rfl⟩
 ·refine Z 29 rfl ?_
  refine st_ord [] _ rfl ?_
  exact hk11 _ _ _ ⟨false, h, (Sto.Le.refl _), rfl, rfl⟩
theorem law24_Same_ok {a0 : List (Int × Int × Int × Int × (TyM))} {a1 : List (Int × Int × Int × Int × (TyR))} {a2 : Int} {v1 : Value} {v3 : Value} {r : Bool} (h : law24_Same a0 a1 a2 r) (σ : Sto) (hs2 : Sl (kP (kI .i64) (kP (kI .u32) (kP (kI .i64) (kP (kI .i64) (kP (kI .i64) (kP (kA .i64 6) (kP (kSl (kP (kI .i64) (kI .i64))) (kP (kSl (kI .i64)) (kP kS kS))))))))) σ v1 a0) (hs4 : Sl (kP (kI .i64) (kP (kI .u32) (kP (kI .i64) (kP (kI .i64) (kP (kI .i64) (kP (kA .i64 6) (kP (kSl (kA .i64 2)) (kP (kSl (kI .i64)) (kP kS kS))))))))) σ v3 a1) :
    Does Tryz.prog 14 [v1, v3, .I a2] σ [] (fun v τ gs => gs = [] ∧ .bool r = v) := by
 refine call_of Tryz.func14 Tryz.ntmps14 rfl rfl (fun cs fs => ?_)
 refine Z 8 rfl ?_
 refine o_lenI rfl rfl rfl z_slT22 rfl hs2 ?_
 refine o_move rfl rfl rfl rfl ?_
 refine o_lenI rfl rfl rfl z_slT23 rfl hs4 ?_
 refine Z 4 rfl ?_
 refine st_if rfl h (fun h => ?_) (fun h => ?_)
 ·refine Z 4 rfl ?_
  obtain rfl := Eq.symm h
  exact st_ret (gs' := []) Tryz.func14 rfl (List.Sublist.refl _) (Sto.Le.refl _) ⟨rfl, rfl⟩
 ·refine Z 2 rfl ?_
  refine st_cut (fun ρ τ5 gs => ∃ (s5 : Unit), law24_Same_j1 s5 r ∧ σ.Le τ5 ∧ ESub ρ [(6, .bool false)] ∧ gs = []) ?_ (fun hk5 => ?_)
  ·rintro ρ5 τ5 gs5 ⟨s5, h, hl5, hρ, rfl⟩
   refine st_es hρ ?_
   refine Z 4 rfl ?_
   obtain rfl := Eq.symm h
   exact st_ret (gs' := []) Tryz.func14 rfl (List.Sublist.refl _) hl5 ⟨rfl, rfl⟩
  refine Z 4 rfl ?_
  obtain ⟨e6, hL6, hA6⟩ := h
  refine st_loop hL6 (fun (s6 : Int) ρ τ6 gs => σ.Le τ6 ∧ ESub ρ [(0, v1), (1, v3), (2, .I a2), (6, .bool false), (7, .I s6)] ∧ gs = []) ⟨Sto.Le.refl _, rfl, rfl⟩ ?_
  rintro s6 o6 h he6 ρ6 τ6 gs6 ⟨hl6, hρ, rfl⟩ hn6
  refine st_es hρ ?_
  refine Z 5 rfl ?_
  refine o_lenI rfl rfl rfl z_slT22 rfl (hs2.up hl6) ?_
  refine Z 2 rfl ?_
  refine st_if rfl h (fun h => ?_) (fun h => ?_)
  ·refine Z 4 rfl ?_
   obtain ⟨q7, hf8, r18, hr19, q26, hf27, r37, hr38, h⟩ := h
   refine st_draw 13 (dl [.v (v1), .v (.I s6), .t fun τ v => ∃ (b9 : Nat) (of10 : Nat) (vsb9 : List Value), (.pointer (some ⟨b9, of10, none⟩) : Value) = v ∧ CelN τ ⟨b9, of10, none⟩ vsb9 ∧ (kP (kI .i64) (kP (kI .u32) (kP (kI .i64) (kP (kI .i64) (kP (kI .i64) (kP (kA .i64 6) (kP (kSl (kP (kI .i64) (kI .i64))) (kP (kSl (kI .i64)) (kP kS kS))))))))).rep τ vsb9 q7, .t fun τ v => ∃ (v11 : Value) (v12 : Value), (.agg #[.I q7.1, .int .u32 q7.2.1, .I q7.2.2.1, .I q7.2.2.2.1, .I q7.t4.1, .I (q7.t4.2.1.getD 0 0), .I (q7.t4.2.1.getD 1 0), .I (q7.t4.2.1.getD 2 0), .I (q7.t4.2.1.getD 3 0), .I (q7.t4.2.1.getD 4 0), .I (q7.t4.2.1.getD 5 0), v11, v12, .string q7.t4.t4.1, .string q7.t4.t4.2] : Value) = v ∧ Sl (kP (kI .i64) (kI .i64)) τ v11 q7.t4.2.2.1 ∧ Sl (kI .i64) τ v12 q7.t4.2.2.2.1, .t fun τ v => ∃ (v22 : Value) (v23 : Value), (.agg #[.I r18.1, .int .u32 r18.2.1, .I r18.2.2.1, .I r18.2.2.2.1, .I r18.t4.1, .I (r18.t4.2.1.getD 0 0), .I (r18.t4.2.1.getD 1 0), .I (r18.t4.2.1.getD 2 0), .I (r18.t4.2.1.getD 3 0), .I (r18.t4.2.1.getD 4 0), .I (r18.t4.2.1.getD 5 0), v22, v23, .string r18.t4.t4.1, .string r18.t4.t4.2] : Value) = v ∧ Sl (kA .i64 2) τ v22 r18.t4.2.2.1 ∧ Sl (kI .i64) τ v23 r18.t4.2.2.2.1, .v (v3), .v (.I a2), .v (.I s6), .v (.I (IntKind.i64.wrap (a2 + s6))), .t fun τ v => ∃ (b28 : Nat) (of29 : Nat) (vsb28 : List Value), (.pointer (some ⟨b28, of29, none⟩) : Value) = v ∧ CelN τ ⟨b28, of29, none⟩ vsb28 ∧ (kP (kI .i64) (kP (kI .u32) (kP (kI .i64) (kP (kI .i64) (kP (kI .i64) (kP (kA .i64 6) (kP (kSl (kA .i64 2)) (kP (kSl (kI .i64)) (kP kS kS))))))))).rep τ vsb28 q26, .t fun τ v => ∃ (v30 : Value) (v31 : Value), (.agg #[.I q26.1, .int .u32 q26.2.1, .I q26.2.2.1, .I q26.2.2.2.1, .I q26.t4.1, .I (q26.t4.2.1.getD 0 0), .I (q26.t4.2.1.getD 1 0), .I (q26.t4.2.1.getD 2 0), .I (q26.t4.2.1.getD 3 0), .I (q26.t4.2.1.getD 4 0), .I (q26.t4.2.1.getD 5 0), v30, v31, .string q26.t4.t4.1, .string q26.t4.t4.2] : Value) = v ∧ Sl (kA .i64 2) τ v30 q26.t4.2.2.1 ∧ Sl (kI .i64) τ v31 q26.t4.2.2.2.1, .v (.bool r37), .v (.bool (!r37))]) (fun _ _ => []) z_mix rfl (dl_mono ⟨fun _ _ _ hl ⟨b9, of10, vsb9, hv, hc13, hrepb9⟩ => ⟨b9, of10, vsb9, hv, hc13.up hl, Kd.mono _ hl hrepb9⟩, ⟨fun _ _ _ hl ⟨v11, v12, hv, hs16, hs17⟩ => ⟨v11, v12, hv, hs16.up hl, hs17.up hl⟩, ⟨fun _ _ _ hl ⟨v22, v23, hv, hs24, hs25⟩ => ⟨v22, v23, hv, hs24.up hl, hs25.up hl⟩, ⟨fun _ _ _ hl ⟨b28, of29, vsb28, hv, hc32, hrepb28⟩ => ⟨b28, of29, vsb28, hv, hc32.up hl, Kd.mono _ hl hrepb28⟩, ⟨fun _ _ _ hl ⟨v30, v31, hv, hs35, hs36⟩ => ⟨v30, v31, hv, hs35.up hl, hs36.up hl⟩, trivial⟩⟩⟩⟩⟩) (allB_cons (allB_cons (allB_cons (allB_cons (allB_cons (allB_cons (allB_cons (allB_cons (allB_cons (allB_cons (allB_cons (allB_cons (allB_cons allB_nil (p1 dA)) (p1 dA)) ?_) ?_) ?_) (p1 dA)) (p1 dA)) (p1 dA)) (p1 dA)) ?_) ?_) ?_) (p1 dA)) ?_
   ·intro ρ' τ pool rs hl hd hout hk
    obtain ⟨_, e0, rfl⟩ := hd 0 rfl
    obtain ⟨_, e1, rfl⟩ := hd 1 rfl
    refine o_index rfl rfl rfl z_slT22 rfl e0 (hs2.up (hl6.trans hl)) e1 hf8 (fun b9 of10 vsb9 hc13 hrepb9 => ?_)
    exact st_addNil (hk _ _ (Sto.Le.refl _) ⟨b9, of10, _, rfl, hc13, hrepb9⟩)
   ·intro ρ' τ pool rs hl hd hout hk
    obtain ⟨_, e2, b9, of10, vsb9, rfl, hc13, hrepb9⟩ := hd 2 rfl
    have hrepb9 := hrepb9
    obtain ⟨_, _, rfl, rfl, ⟨_, _, rfl, rfl, ⟨_, _, rfl, rfl, ⟨_, _, rfl, rfl, ⟨_, _, rfl, rfl, ⟨_, _, rfl, rfl, ⟨_, _, rfl, ⟨v11, rfl, hs16⟩, ⟨_, _, rfl, ⟨v12, rfl, hs17⟩, ⟨_, _, rfl, rfl, rfl⟩⟩⟩⟩⟩⟩⟩⟩⟩ := hrepb9
    refine o_loadIN (vs := [.I q7.1, .int .u32 q7.2.1, .I q7.2.2.1, .I q7.2.2.2.1, .I q7.t4.1, .I (q7.t4.2.1.getD 0 0), .I (q7.t4.2.1.getD 1 0), .I (q7.t4.2.1.getD 2 0), .I (q7.t4.2.1.getD 3 0), .I (q7.t4.2.1.getD 4 0), .I (q7.t4.2.1.getD 5 0), v11, v12, .string q7.t4.t4.1, .string q7.t4.t4.2]) rfl rfl rfl z_agg32 e2 rfl (celn_part 0 rfl hc13) ?_
    exact st_addNil (hk _ _ (Sto.Le.refl _) ⟨v11, v12, rfl, hs16, hs17⟩)
   ·intro ρ' τ pool rs hl hd hout hk
    obtain ⟨_, e3, v11, v12, rfl, hs16, hs17⟩ := hd 3 rfl
    refine st_call (foot := []) rfl rfl rfl rfl (evs_cons e3 rfl) rfl (callV_fn z_en6 (law23_Of_ok hr19 τ hs16 hs17)) ?_
    rintro vτ20 τ20 gsτ20 hl21 ⟨v22, v23, rfl, rfl, hs24, hs25⟩
    exact st_addNil (hk _ _ hl21 ⟨v22, v23, rfl, hs24, hs25⟩)
   ·intro ρ' τ pool rs hl hd hout hk
    obtain ⟨_, e5, rfl⟩ := hd 5 rfl
    obtain ⟨_, e8, rfl⟩ := hd 8 rfl
    refine o_index rfl rfl rfl z_slT23 rfl e5 (hs4.up (hl6.trans hl)) e8 hf27 (fun b28 of29 vsb28 hc32 hrepb28 => ?_)
    exact st_addNil (hk _ _ (Sto.Le.refl _) ⟨b28, of29, _, rfl, hc32, hrepb28⟩)
   ·intro ρ' τ pool rs hl hd hout hk
    obtain ⟨_, e9, b28, of29, vsb28, rfl, hc32, hrepb28⟩ := hd 9 rfl
    have hrepb28 := hrepb28
    obtain ⟨_, _, rfl, rfl, ⟨_, _, rfl, rfl, ⟨_, _, rfl, rfl, ⟨_, _, rfl, rfl, ⟨_, _, rfl, rfl, ⟨_, _, rfl, rfl, ⟨_, _, rfl, ⟨v30, rfl, hs35⟩, ⟨_, _, rfl, ⟨v31, rfl, hs36⟩, ⟨_, _, rfl, rfl, rfl⟩⟩⟩⟩⟩⟩⟩⟩⟩ := hrepb28
    refine o_loadIN (vs := [.I q26.1, .int .u32 q26.2.1, .I q26.2.2.1, .I q26.2.2.2.1, .I q26.t4.1, .I (q26.t4.2.1.getD 0 0), .I (q26.t4.2.1.getD 1 0), .I (q26.t4.2.1.getD 2 0), .I (q26.t4.2.1.getD 3 0), .I (q26.t4.2.1.getD 4 0), .I (q26.t4.2.1.getD 5 0), v30, v31, .string q26.t4.t4.1, .string q26.t4.t4.2]) rfl rfl rfl z_agg38 e9 rfl (celn_part 0 rfl hc32) ?_
    exact st_addNil (hk _ _ (Sto.Le.refl _) ⟨v30, v31, rfl, hs35, hs36⟩)
   ·intro ρ' τ pool rs hl hd hout hk
    obtain ⟨_, e4, v22, v23, rfl, hs24, hs25⟩ := hd 4 rfl
    obtain ⟨_, e10, v30, v31, rfl, hs35, hs36⟩ := hd 10 rfl
    refine st_call (foot := []) rfl rfl rfl rfl (evs_cons e4 (evs_cons e10 rfl)) rfl (callV_fn z_en17 (ref23_Same_ok hr38 τ hs24 hs25 hs35 hs36)) ?_
    rintro vτ39 τ39 gsτ39 hl40 ⟨rfl, rfl⟩
    exact st_addNil (hk _ _ hl40 rfl)
   intro ρ' τ41 vals hl41 hv hout
   refine st_ord [] _ rfl ?_
   refine st_env (ρ' := [(33, .bool (!r37)), (0, v1), (1, v3), (2, .I a2), (6, .bool false), (7, .I s6)]) ⟨(lv1 hv 12 rfl rfl), (hout 0 rfl).trans rfl, (hout 1 rfl).trans rfl, (hout 2 rfl).trans rfl, (hout 6 rfl).trans rfl, (hout 7 rfl).trans rfl, trivial⟩ ?_
   refine st_end ?_
   refine st_if rfl h (fun h => ?_) (fun h => ?_)
   ·refine Z 4 rfl ?_
    obtain rfl := he6 _ h
    replace h := hA6
    obtain rfl := Eq.symm h
    exact st_ret (gs' := []) Tryz.func14 rfl (List.Sublist.refl _) (hl6.trans hl41) ⟨rfl, rfl⟩
   ·refine Z 7 rfl ?_
    exact hn6 _ _ _ _ h ⟨(hl6.trans hl41), rfl, rfl⟩
  ·refine st_exit rfl ?_
   obtain rfl := he6 _ h
   replace h := hA6
   exact hk5 _ _ _ ⟨(), h, hl6, rfl, rfl⟩
theorem ref01_Get_ok {a0 : List Int} {a1 : Int} {v1 : Value} {r : Int × Int × Int} (h : ref01_Get a0 a1 r) (σ : Sto) (hs2 : Sl (kI .u8) σ v1 a0) :
    Does Tryz.prog 35 [v1, .I a1] σ [] (fun v τ gs => gs = [] ∧ .tuple [.int .u64 r.1, .I r.2.1, .I r.2.2].toArray = v) := by
 refine call_of Tryz.func35 Tryz.ntmps35 rfl rfl (fun cs fs => ?_)
 refine Z 12 rfl ?_
 refine st_cut (fun ρ τ3 gs => ∃ (s3 : Int), ref01_Get_j1 a0 a1 s3 r ∧ σ.Le τ3 ∧ ESub ρ [(0, v1), (1, .I a1), (4, .int .u64 0), (5, .I 0), (6, .I 0), (7, .I s3)] ∧ gs = []) ?_ (fun hk3 => ?_)
 ·rintro ρ3 τ3 gs3 ⟨s3, h, hl3, hρ, rfl⟩
  refine st_es hρ ?_
  refine Z 8 rfl ?_
  refine st_if rfl h (fun h => ?_) (fun h => ?_)
  ·refine Z 7 rfl ?_
   obtain rfl := Eq.symm h
   exact st_ret (gs' := []) Tryz.func35 rfl (List.Sublist.refl _) hl3 ⟨rfl, rfl⟩
  ·refine Z 6 rfl ?_
   refine o_lenI rfl rfl rfl z_slT42 rfl (hs2.up hl3) ?_
   refine Z 2 rfl ?_
   refine st_if rfl h (fun h => ?_) (fun h => ?_)
   ·refine Z 7 rfl ?_
    obtain rfl := Eq.symm h
    exact st_ret (gs' := []) Tryz.func35 rfl (List.Sublist.refl _) hl3 ⟨rfl, rfl⟩
   ·refine Z 6 rfl ?_
    refine st_cut (fun ρ τ4 gs => ∃ (s4 : Int), ref01_Get_j2 a0 a1 s3 s4 r ∧ τ3.Le τ4 ∧ ESub ρ [(0, v1), (1, .I a1), (4, .int .u64 0), (5, .I 0), (6, .I 0), (7, .I s3), (8, .int .u64 s4)] ∧ gs = []) ?_ (fun hk4 => ?_)
    ·rintro ρ4 τ4 gs4 ⟨s4, h, hl4, hρ, rfl⟩
     refine st_es hρ ?_
     refine Z 2 rfl ?_
     refine st_cut (fun ρ τ5 gs => ∃ (s5 : Bool), ref01_Get_j3 a1 s3 s4 s5 r ∧ τ4.Le τ5 ∧ ESub ρ [(1, .I a1), (4, .int .u64 0), (5, .I 0), (6, .I 0), (7, .I s3), (8, .int .u64 s4), (67, .bool s5)] ∧ gs = []) ?_ (fun hk5 => ?_)
     ·rintro ρ5 τ5 gs5 ⟨s5, h, hl5, hρ, rfl⟩
      refine st_es hρ ?_
      refine st_if rfl h (fun h => ?_) (fun h => ?_)
      ·refine Z 7 rfl ?_
       obtain rfl := Eq.symm h
       exact st_ret (gs' := []) Tryz.func35 rfl (List.Sublist.refl _) ((hl3.trans hl4).trans hl5) ⟨rfl, rfl⟩
      ·refine Z 10 rfl ?_
       obtain rfl := Eq.symm h
       exact st_ret (gs' := []) Tryz.func35 rfl (List.Sublist.refl _) ((hl3.trans hl4).trans hl5) ⟨rfl, rfl⟩
     refine Z 4 rfl ?_
     refine o_mif rfl rfl rfl rfl h (fun h => ?_) (fun h => ?_)
     ·refine Z 2 rfl ?_
      obtain ⟨q6, hf7, h⟩ := h
      refine o_index rfl rfl rfl z_slT42 rfl rfl (hs2.up (hl3.trans hl4)) rfl hf7 (fun b8 of9 vs hc10 hrep => ?_)
      obtain rfl := hrep
      refine o_loadI (v := .int .u8 q6) rfl rfl rfl z_sc5 rfl (hc10 0 _ rfl) ?_
      refine Z 3 rfl ?_
      exact hk5 _ _ _ ⟨(decide (q6 = 0)), h, (Sto.Le.refl _), rfl, rfl⟩
     ·refine Z 7 rfl ?_
      exact hk5 _ _ _ ⟨false, h, (Sto.Le.refl _), rfl, rfl⟩
    refine Z 5 rfl ?_
    obtain ⟨e11, hL11, hA11⟩ := h
    refine st_loop hL11 (fun (s11 : Int × Int) ρ τ11 gs => τ3.Le τ11 ∧ ESub ρ [(0, v1), (1, .I a1), (4, .int .u64 0), (5, .I 0), (6, .I 0), (7, .I s3), (8, .int .u64 s11.1), (9, .I s11.2)] ∧ gs = []) ⟨Sto.Le.refl _, rfl, rfl⟩ ?_
    rintro s11 o11 h he11 ρ11 τ11 gs11 ⟨hl11, hρ, rfl⟩ hn11
    refine st_es hρ ?_
    refine Z 7 rfl ?_
    refine st_if rfl h (fun h => ?_) (fun h => ?_)
    ·refine Z 9 rfl ?_
     refine st_if rfl h (fun h => ?_) (fun h => ?_)
     ·refine Z 7 rfl ?_
      obtain rfl := he11 _ h
      replace h := hA11
      obtain rfl := Eq.symm h
      exact st_ret (gs' := []) Tryz.func35 rfl (List.Sublist.refl _) (hl3.trans hl11) ⟨rfl, rfl⟩
     ·refine Z 6 rfl ?_
      obtain ⟨q12, hf13, h⟩ := h
      refine o_index rfl rfl rfl z_slT42 rfl rfl (hs2.up (hl3.trans hl11)) rfl hf13 (fun b14 of15 vs hc16 hrep => ?_)
      obtain rfl := hrep
      refine o_loadI (v := .int .u8 q12) rfl rfl rfl z_sc5 rfl (hc16 0 _ rfl) ?_
      refine Z 11 rfl ?_
      exact hn11 _ _ _ _ h ⟨hl11, rfl, rfl⟩
    ·refine st_exit rfl ?_
     obtain rfl := he11 _ h
     replace h := hA11
     exact hk4 _ _ _ ⟨s11.1, h, hl11, rfl, rfl⟩
 obtain ⟨e19, hL19, hA19⟩ := h
 refine st_loop hL19 (fun (s19 : Int) ρ τ19 gs => σ.Le τ19 ∧ ESub ρ [(0, v1), (1, .I a1), (4, .int .u64 0), (5, .I 0), (6, .I 0), (7, .I s19)] ∧ gs = []) ⟨Sto.Le.refl _, rfl, rfl⟩ ?_
 rintro s19 o19 h he19 ρ19 τ19 gs19 ⟨hl19, hρ, rfl⟩ hn19
 refine st_es hρ ?_
 refine Z 2 rfl ?_
 refine st_cut (fun ρ τ20 gs => ∃ (s20 : Bool), ref01_Get_j6 s19 s20 o19 ∧ τ19.Le τ20 ∧ ESub ρ [(0, v1), (1, .I a1), (4, .int .u64 0), (5, .I 0), (6, .I 0), (7, .I s19), (27, .bool s20)] ∧ gs = []) ?_ (fun hk20 => ?_)
 ·rintro ρ20 τ20 gs20 ⟨s20, h, hl20, hρ, rfl⟩
  refine st_es hρ ?_
  refine st_if rfl h (fun h => ?_) (fun h => ?_)
  ·refine Z 8 rfl ?_
   exact hn19 _ _ _ _ h ⟨(hl19.trans hl20), rfl, rfl⟩
  ·refine st_exit rfl ?_
   obtain rfl := he19 _ h
   replace h := hA19
   exact hk3 _ _ _ ⟨s19, h, (hl19.trans hl20), rfl, rfl⟩
 refine Z 3 rfl ?_
 refine o_lenI rfl rfl rfl z_slT42 rfl (hs2.up hl19) ?_
 refine o_ibin (v := .bool (decide (s19 < (a0.length : Int)))) rfl rfl rfl rfl rfl rfl ?_
 refine o_mif rfl rfl rfl rfl h (fun h => ?_) (fun h => ?_)
 ·refine Z 5 rfl ?_
  refine o_mif rfl rfl rfl rfl h (fun h => ?_) (fun h => ?_)
  ·refine Z 2 rfl ?_
   obtain ⟨q21, hf22, h⟩ := h
   refine o_index rfl rfl rfl z_slT42 rfl rfl (hs2.up hl19) rfl hf22 (fun b23 of24 vs hc25 hrep => ?_)
   obtain rfl := hrep
   refine o_loadI (v := .int .u8 q21) rfl rfl rfl z_sc5 rfl (hc25 0 _ rfl) ?_
   refine Z 3 rfl ?_
   exact hk20 _ _ _ ⟨(decide (127 < q21)), h, (Sto.Le.refl _), rfl, rfl⟩
  ·refine Z 7 rfl ?_
   exact hk20 _ _ _ ⟨false, h, (Sto.Le.refl _), rfl, rfl⟩
 ·refine Z 13 rfl ?_
  exact hk20 _ _ _ ⟨false, h, (Sto.Le.refl _), rfl, rfl⟩
theorem ref01_Zag_ok {a0 : Int} {r : Int} (h : ref01_Zag a0 r) (σ : Sto)  :
    Does Tryz.prog 99 [.int .u64 a0] σ [] (fun v τ gs => gs = [] ∧ .I r = v) := by
 refine call_of Tryz.func99 Tryz.ntmps99 rfl rfl (fun cs fs => ?_)
 refine Z 11 rfl ?_
 refine st_if rfl h (fun h => ?_) (fun h => ?_)
 ·refine Z 9 rfl ?_
  obtain rfl := Eq.symm h
  exact st_ret (gs' := []) Tryz.func99 rfl (List.Sublist.refl _) (Sto.Le.refl _) ⟨rfl, rfl⟩
 ·refine Z 8 rfl ?_
  obtain rfl := Eq.symm h
  exact st_ret (gs' := []) Tryz.func99 rfl (List.Sublist.refl _) (Sto.Le.refl _) ⟨rfl, rfl⟩
theorem ref18_far_ok {a0 : Int} {r : Bool} (h : ref18_far a0 r) (σ : Sto)  :
    Does Tryz.prog 98 [.I a0] σ [] (fun v τ gs => gs = [] ∧ .bool r = v) := by
 refine call_of Tryz.func98 Tryz.ntmps98 rfl rfl (fun cs fs => ?_)
 refine Z 5 rfl ?_
 refine st_cut (fun ρ τ1 gs => ∃ (s1 : Bool), ref18_far_j1 s1 r ∧ σ.Le τ1 ∧ ESub ρ [(2, .bool s1)] ∧ gs = []) ?_ (fun hk1 => ?_)
 ·rintro ρ1 τ1 gs1 ⟨s1, h, hl1, hρ, rfl⟩
  refine st_es hρ ?_
  obtain rfl := Eq.symm h
  exact st_ret (gs' := []) Tryz.func98 rfl (List.Sublist.refl _) hl1 ⟨rfl, rfl⟩
 refine Z 3 rfl ?_
 refine o_mif rfl rfl rfl rfl h (fun h => ?_) (fun h => ?_)
 ·refine Z 5 rfl ?_
  exact hk1 _ _ _ ⟨true, h, (Sto.Le.refl _), rfl, rfl⟩
 ·refine Z 5 rfl ?_
  exact hk1 _ _ _ ⟨(decide (1000000 < a0)), h, (Sto.Le.refl _), rfl, rfl⟩
theorem ref18_path_ok {a0 : TyR} {a1 : Int} {a2 : List Int} {a3 : Int} {v1 : Value} {v2 : Value} {v5 : Value} {r : (TyR) × Int × Int} (h : ref18_path a0 a1 a2 a3 r) (σ : Sto) (hs3 : Sl (kA .i64 2) σ v1 a0.2.2.1) (hs4 : Sl (kI .i64) σ v2 a0.2.2.2.1) (hs6 : Sl (kI .u8) σ v5 a2) :
    Does Tryz.prog 100 [.agg (lM a0 v1 v2).toArray, .I a1, v5, .I a3] σ [] (fun v τ gs => ∃ (v76 : Value) (v77 : Value), gs = [] ∧ .tuple [.agg (lM r.1 v76 v77).toArray, .I r.2.1, .I r.2.2].toArray = v ∧ Sl (kA .i64 2) τ v76 r.1.2.2.1 ∧ Sl (kI .i64) τ v77 r.1.2.2.2.1) := by
 refine call_of Tryz.func100 Tryz.ntmps100 rfl rfl (fun cs fs => ?_)
 refine Z 2 rfl ?_
 refine o_box (cs := (lM a0 v1 v2)) rfl rfl rfl rfl rfl (fun b7 => ?_)
 refine o_alloc rfl rfl rfl z_zero36 (fun b8 => ?_)
 refine Z 5 rfl ?_
 refine o_buildA (ps := []) (cs := [.I 0, .I 0]) rfl rfl rfl z_arrz85 trivial rfl ?_
 refine o_alloc rfl rfl rfl z_zero85 (fun b9 => ?_)
 refine ZZ 3 [0] rfl rfl ?_
 refine st_cut (fun ρ τ10 gs => ∃ (s10 : Int × List (List Int)) (v11 : Value), ref18_path_j1 a0 s10 r ∧ σ.Le τ10 ∧ ESub ρ [(3, .I s10.1), (4, .Pb b7), (8, .Pb b8), (9, .I 0), (10, .I 0)] ∧ gs = [[(b7, .cells (lM a0 v11 v2).toArray 36 (0, 0))], [(b8, .cells lY.toArray 36 (0, 0))]] ∧ Sl (kA .i64 2) τ10 v11 s10.2) ?_ (fun hk10 => ?_)
 ·rintro ρ10 τ10 gs10 ⟨s10, v11, h, hl10, hρ, rfl, hs12⟩
  refine st_es hρ ?_
  refine ZZ 4 [0] rfl rfl ?_
  refine o_store (j := 1) (vs := (lM a0 v11 v2)) (cs' := (lM a0 v11 v2)) rfl rfl rfl z_size36 rfl rfl rfl (ones_cons rfl (ones_cons rfl (ones_cons rfl (ones_cons rfl (ones_cons rfl (ones_cons rfl (ones_cons rfl (ones_cons hs12.one' (ones_cons (hs4.up hl10).one' (ones_cons rfl (ones_cons rfl ones_nil))))))))))) rfl rfl rfl ?_
  refine Z 3 rfl ?_
  obtain rfl := Eq.symm h
  exact st_retC (gs' := []) [.agg (lM a0 v11 v2).toArray, .I s10.1, .I 0] Tryz.func100 ⟨⟨_, _, _, _, rfl, mem_flat 1 rfl, fun w hw => cellOfN (vs := (lM a0 v11 v2)) z_agg36 rfl w hw⟩, rfl, rfl, trivial⟩ (by simp) hl10 ⟨_, _, rfl, rfl, hs12, (hs4.up hl10)⟩
 refine Z 4 rfl ?_
 obtain ⟨e13, hL13, hA13⟩ := h
 refine st_ord [2, 1, 0] _ rfl ?_
 refine st_loop hL13 (fun (s13 : Int × Int × List (List Int) × Int × Int) ρ τ13 gs => σ.Le τ13 ∧ ∃ (v14 : Value), ESub ρ [(1, .I a1), (2, v5), (3, .I s13.1), (4, .Pb b7), (8, .Pb b8), (9, .I 0), (10, .I 0), (11, .Pb b9), (12, .I s13.2.1)] ∧ gs = [[(b7, .cells (lM a0 v14 v2).toArray 36 (0, 0))], [(b8, .cells lY.toArray 36 (0, 0))], [(b9, .cells #[.I s13.2.2.2.1, .I s13.t4] 85 (0, 0))]] ∧ Sl (kA .i64 2) τ13 v14 s13.2.2.1) ⟨Sto.Le.refl _, _, rfl, rfl, hs3⟩ ?_
 rintro s13 o13 h he13 ρ13 τ13 gs13 ⟨hl13, v14, hρ, rfl, hs15⟩ hn13
 refine st_es hρ ?_
 refine Z 7 rfl ?_
 refine st_if rfl h (fun h => ?_) (fun h => ?_)
 ·refine Z 4 rfl ?_
  refine st_cut (fun ρ τ16 gs => ∃ (s16 : Int × Int × Int), ref18_path_j3 s13 s16 o13 ∧ τ13.Le τ16 ∧ ESub ρ [(1, .I a1), (2, v5), (3, .I s16.1), (4, .Pb b7), (8, .Pb b8), (9, .I 0), (10, .I 0), (11, .Pb b9), (12, .I s13.2.1)] ∧ gs = [[(b7, .cells (lM a0 v14 v2).toArray 36 (0, 0))], [(b8, .cells lY.toArray 36 (0, 0))], [(b9, .cells #[.I s16.2.1, .I s16.2.2] 85 (0, 0))]]) ?_ (fun hk16 => ?_)
  ·rintro ρ16 τ16 gs16 ⟨s16, h, hl16, hρ, rfl⟩
   refine st_es hρ ?_
   obtain ⟨hf26, hf27, hf41, hf42, h⟩ := h
   refine st_d41 [[(b7, .cells (lM a0 v14 v2).toArray 36 (0, 0))], [(b8, .cells lY.toArray 36 (0, 0))], [(b9, .cells #[.I s16.2.1, .I s16.2.2] 85 (0, 0))]] [] 7 3 [some (0, 0), none, none, some (0, 1), none, none, some (0, 2)] [none, none, none, none, none, none, none] [[none, some 66, some 69, some 72]] [.t fun _ _ => True, .v (.pointer (some ⟨b7, 7, none⟩)), .v (v14), .t fun _ _ => True, .v (.agg #[.I s16.2.1, .I s16.2.2]), .t fun τ v => ∃ (v31 : Value), (v31 : Value) = v ∧ Sl (kA .i64 2) τ v31 [[s16.2.1, s16.2.2]], .t fun _ _ => True] [[fun τ u F => F = [], fun τ u F => ∃ (v20 : Value) (g21 : Grp), F = [g21] ∧ v20 = u ∧ Ow (kA .i64 2) 85 τ v20 ([] : List (List Int)) g21, fun τ u F => ∃ (v28 : Value) (g29 : Grp), F = [g29] ∧ v28 = u ∧ Ow (kA .i64 2) 85 τ v28 (([] : List (List Int)) ++ s13.2.2.1) g29, fun τ u F => ∃ (v43 : Value) (g44 : Grp), F = [g44] ∧ v43 = u ∧ Ow (kA .i64 2) 85 τ v43 ((([] : List (List Int)) ++ s13.2.2.1) ++ [[s16.2.1, s16.2.2]]) g44]] rfl z_mix rfl ⟨fun _ _ _ _ _ => trivial, ⟨fun _ _ _ _ _ => trivial, ⟨fun _ _ _ hl ⟨v31, hv, hs37⟩ => ⟨v31, hv, hs37.up hl⟩, ⟨fun _ _ _ _ _ => trivial, trivial⟩⟩⟩⟩ ⟨⟨fun _ _ _ _ hl h => h, ⟨fun _ _ _ _ hl h => (let ⟨v20, g21, hF, hU, ho22⟩ := h; ⟨v20, g21, hF, hU, ho22.up hl⟩), ⟨fun _ _ _ _ hl h => (let ⟨v28, g29, hF, hU, ho30⟩ := h; ⟨v28, g29, hF, hU, ho30.up hl⟩), ⟨fun _ _ _ _ hl h => (let ⟨v43, g44, hF, hU, ho45⟩ := h; ⟨v43, g44, hF, hU, ho45.up hl⟩), trivial⟩⟩⟩⟩, trivial⟩ rfl rfl ?_ (allB_cons (allB_cons (allB_cons (allB_cons (allB_cons (allB_cons (allB_cons allB_nil ?_) (p4 dA)) ?_) ?_) ?_) ?_) ?_) ?_
   ·exact rfl
   ·intro ρ' τ u Fv pool rs hl hI hu hd hout hw hk
    have hI0 := hI
    obtain rfl := hI
    refine o_lit (dk := (kA .i64 2)) (xs := ([] : List (List Int))) (ps := []) (cs := []) rfl rfl rfl z_slT34 z_zero85 trivial rfl rfl rfl rfl Kd.Many.nil (fun v17 g18 ho19 => ?_)
    refine st_ord [1, 1, 1, 0, 0] _ rfl ?_
    exact hk _ _ [g18] (Sto.Le.refl _) trivial (by exact ⟨v17, g18, rfl, rfl, ho19⟩)
   ·intro ρ' τ pool rs hl hd hout hw hk
    obtain ⟨_, e1, rfl⟩ := hd 1 rfl _ rfl
    refine o_load (j := 0) (v := v14) rfl rfl rfl z_sc34 e1 rfl rfl ?_
    exact hk _ _ (Sto.Le.refl _) rfl
   ·intro ρ' τ u Fv pool rs hl hI hu hd hout hw hk
    obtain ⟨_, e2, rfl⟩ := hd 2 rfl _ rfl
    obtain ⟨v20, g21, rfl, rfl, ho22⟩ := hI
    refine st_ord [3, 0, 0, 0, 0] _ rfl ?_
    refine o_append (dk := (kA .i64 2)) (xs := ([] : List (List Int))) (ys := s13.2.2.1) rfl rfl rfl rfl z_slT34 (hu (by decide) _ rfl) ho22 e2 (Sl.src (hs15.up (hl16.trans hl))) hf26 hf27 (fun v23 g24 ho25 => ?_)
    refine st_ord [1, 1, 1, 0, 0] _ rfl ?_
    exact hk _ _ [g24] (Sto.Le.refl _) trivial (by exact ⟨v23, g24, rfl, rfl, ho25⟩)
   ·intro ρ' τ pool rs hl hd hout hw hk
    refine o_loadN (j := 2) (vs := [.I s16.2.1, .I s16.2.2]) rfl rfl rfl z_agg85 ((hout 11 rfl).trans rfl) rfl rfl ?_
    exact hk _ _ (Sto.Le.refl _) rfl
   ·intro ρ' τ pool rs hl hd hout hw hk
    obtain ⟨_, e4, rfl⟩ := hd 4 rfl _ rfl
    refine o_litE (eA .i64 2) [[s16.2.1, s16.2.2]] rfl rfl rfl z_slT34 z_zero85 ⟨rfl, ⟨_, e4, rfl⟩, trivial⟩ rfl rfl rfl rfl (fun v31 g32 ho33 => ?_)
    refine st_freeze (fun τ34 hl35 hg36 => ?_)
    have hs37 := ho33.freeze hl35 hg36
    exact hk _ _ hl35 ⟨v31, rfl, hs37⟩
   ·intro ρ' τ u Fv pool rs hl hI hu hd hout hw hk
    obtain ⟨_, e5, v31, rfl, hs37⟩ := hd 5 rfl _ rfl
    obtain ⟨v28, g29, rfl, rfl, ho30⟩ := hI
    refine st_ord [3, 0, 0, 0, 0] _ rfl ?_
    refine o_append (dk := (kA .i64 2)) (xs := (([] : List (List Int)) ++ s13.2.2.1)) (ys := [[s16.2.1, s16.2.2]]) rfl rfl rfl rfl z_slT34 (hu (by decide) _ rfl) ho30 e5 (Sl.src hs37) hf41 hf42 (fun v38 g39 ho40 => ?_)
    refine st_ord [1, 1, 1, 0, 0] _ rfl ?_
    exact hk _ _ [g39] (Sto.Le.refl _) trivial (by exact ⟨v38, g39, rfl, rfl, ho40⟩)
   intro ρ' τ46 vals u Fv hl46 hI hu hv hout
   obtain ⟨v43, g44, rfl, rfl, ho45⟩ := hI
   refine st_env (ρ' := [(1, .I a1), (2, v5), (3, .I s16.1), (4, .Pb b7), (8, .Pb b8), (9, .I 0), (10, .I 0), (11, .Pb b9), (12, .I s13.2.1), (72, v43)]) ⟨(hout 1 rfl).trans rfl, (hout 2 rfl).trans rfl, (hout 3 rfl).trans rfl, (hout 4 rfl).trans rfl, (hout 8 rfl).trans rfl, (hout 9 rfl).trans rfl, (hout 10 rfl).trans rfl, (hout 11 rfl).trans rfl, (hout 12 rfl).trans rfl, (by exact hu _ rfl), trivial⟩ ?_
   refine o_fieldAddr rfl rfl rfl z_field36_2 rfl ?_
   refine o_store (j := 0) (vs := [v43]) (cs' := (lM a0 v43 v2)) rfl rfl rfl z_size34 rfl rfl (oneL_ow ho45) (ones_cons ho45.one' ones_nil) rfl rfl rfl ?_
   refine Z 7 rfl ?_
   refine st_ord [3, 0, 0, 0] _ rfl ?_
   refine st_freeze (fun τ47 hl48 hg49 => ?_)
   have hs50 := ho45.freeze hl48 hg49
   exact hn13 _ _ _ _ h ⟨(((hl13.trans hl16).trans hl46).trans hl48), _, rfl, rfl, hs50⟩
  refine Z 4 rfl ?_
  obtain ⟨e52, hL52, hA52⟩ := h
  refine st_loop hL52 (fun (s52 : Int × Int × Int × Int) ρ τ52 gs => τ13.Le τ52 ∧ ESub ρ [(1, .I a1), (2, v5), (3, .I s52.1), (4, .Pb b7), (8, .Pb b8), (9, .I 0), (10, .I 0), (11, .Pb b9), (12, .I s13.2.1), (13, .I s52.2.1)] ∧ gs = [[(b7, .cells (lM a0 v14 v2).toArray 36 (0, 0))], [(b8, .cells lY.toArray 36 (0, 0))], [(b9, .cells #[.I s52.2.2.1, .I s52.2.2.2] 85 (0, 0))]]) ⟨Sto.Le.refl _, rfl, rfl⟩ ?_
  rintro s52 o52 h he52 ρ52 τ52 gs52 ⟨hl52, hρ, rfl⟩ hn52
  refine st_es hρ ?_
  refine Z 6 rfl ?_
  refine st_if rfl h (fun h => ?_) (fun h => ?_)
  ·refine Z 7 rfl ?_
   obtain ⟨r53, hr54, h⟩ := h
   refine st_call (foot := []) rfl rfl rfl rfl rfl rfl (callV_fn z_en35 (ref01_Get_ok hr54 τ52 (hs6.up (hl13.trans hl52)))) ?_
   rintro vτ55 τ55 gsτ55 hl56 ⟨rfl, rfl⟩
   refine Z 14 rfl ?_
   refine st_if rfl h (fun h => ?_) (fun h => ?_)
   ·refine ZZ 5 [0] rfl rfl ?_
    refine o_store (j := 1) (vs := (lM a0 v14 v2)) (cs' := (lM a0 v14 v2)) rfl rfl rfl z_size36 rfl rfl rfl (ones_cons rfl (ones_cons rfl (ones_cons rfl (ones_cons rfl (ones_cons rfl (ones_cons rfl (ones_cons rfl (ones_cons (hs15.up (hl52.trans hl56)).one' (ones_cons (hs4.up ((hl13.trans hl52).trans hl56)).one' (ones_cons rfl (ones_cons rfl ones_nil))))))))))) rfl rfl rfl ?_
    refine Z 3 rfl ?_
    obtain rfl := he52 _ h
    replace h := hA52
    obtain rfl := he13 _ h
    replace h := hA13
    obtain rfl := Eq.symm h
    exact st_retC (gs' := []) [.agg (lM a0 v14 v2).toArray, .I s52.1, .I r53.2.2] Tryz.func100 ⟨⟨_, _, _, _, rfl, mem_flat 1 rfl, fun w hw => cellOfN (vs := (lM a0 v14 v2)) z_agg36 rfl w hw⟩, rfl, rfl, trivial⟩ (by simp) ((hl13.trans hl52).trans hl56) ⟨_, _, rfl, rfl, (hs15.up (hl52.trans hl56)), (hs4.up ((hl13.trans hl52).trans hl56))⟩
   ·refine Z 4 rfl ?_
    obtain ⟨r57, hr58, h⟩ := h
    refine st_call (foot := []) rfl rfl rfl rfl rfl rfl (callV_fn z_en99 (ref01_Zag_ok hr58 τ55)) ?_
    rintro vτ59 τ59 gsτ59 hl60 ⟨rfl, rfl⟩
    refine Z 4 rfl ?_
    refine st_cut (fun ρ τ61 gs => ∃ (s61 : Bool), ref18_path_j5 a0 s13 s52 r53 r57 s61 o52 ∧ τ59.Le τ61 ∧ ESub ρ [(1, .I a1), (2, v5), (3, .I s52.1), (4, .Pb b7), (8, .Pb b8), (9, .I 0), (10, .I 0), (11, .Pb b9), (12, .I s13.2.1), (13, .I s52.2.1), (15, .I r53.2.1), (17, .I r57), (55, .bool s61)] ∧ gs = [[(b7, .cells (lM a0 v14 v2).toArray 36 (0, 0))], [(b8, .cells lY.toArray 36 (0, 0))], [(b9, .cells #[.I s52.2.2.1, .I s52.2.2.2] 85 (0, 0))]]) ?_ (fun hk61 => ?_)
    ·rintro ρ61 τ61 gs61 ⟨s61, h, hl61, hρ, rfl⟩
     refine st_es hρ ?_
     refine st_if rfl h (fun h => ?_) (fun h => ?_)
     ·refine ZZ 4 [0] rfl rfl ?_
      refine o_store (j := 1) (vs := (lM a0 v14 v2)) (cs' := (lM a0 v14 v2)) rfl rfl rfl z_size36 rfl rfl rfl (ones_cons rfl (ones_cons rfl (ones_cons rfl (ones_cons rfl (ones_cons rfl (ones_cons rfl (ones_cons rfl (ones_cons (hs15.up (((hl52.trans hl56).trans hl60).trans hl61)).one' (ones_cons (hs4.up ((((hl13.trans hl52).trans hl56).trans hl60).trans hl61)).one' (ones_cons rfl (ones_cons rfl ones_nil))))))))))) rfl rfl rfl ?_
      refine Z 3 rfl ?_
      obtain rfl := he52 _ h
      replace h := hA52
      obtain rfl := he13 _ h
      replace h := hA13
      obtain rfl := Eq.symm h
      exact st_retC (gs' := []) [.agg (lM a0 v14 v2).toArray, .I s52.1, .I 5] Tryz.func100 ⟨⟨_, _, _, _, rfl, mem_flat 1 rfl, fun w hw => cellOfN (vs := (lM a0 v14 v2)) z_agg36 rfl w hw⟩, rfl, rfl, trivial⟩ (by simp) ((((hl13.trans hl52).trans hl56).trans hl60).trans hl61) ⟨_, _, rfl, rfl, (hs15.up (((hl52.trans hl56).trans hl60).trans hl61)), (hs4.up ((((hl13.trans hl52).trans hl56).trans hl60).trans hl61))⟩
     ·refine Z 5 rfl ?_
      obtain ⟨hf62, hf63, h⟩ := h
      refine o_indexA rfl rfl rfl z_arr85 rfl rfl hf62 hf63 ?_
      refine o_loadV (j := 2) (s52.2.1.toNat) (f := (Value.int .i64)) (zz := 0) (l := 2) (xs := [s52.2.2.1, s52.2.2.2]) [] [] rfl rfl rfl z_sc3 rfl rfl (by simp only [List.length_cons, List.length_nil] <;> omega) (by omega) ?_
      refine Z 2 rfl ?_
      obtain ⟨hf64, hf65, h⟩ := h
      refine o_indexA rfl rfl rfl z_arr85 rfl rfl hf64 hf65 ?_
      refine o_storeV (j := 2) (s52.2.1.toNat) (f := (Value.int .i64)) (zz := 0) (a := (IntKind.i64.wrap (([s52.2.2.1, s52.2.2.2].getD s52.2.1.toNat 0) + r57))) (l := 2) (xs := [s52.2.2.1, s52.2.2.2]) [] [] rfl rfl rfl z_size3 rfl rfl rfl rfl rfl (by simp only [List.length_cons, List.length_nil] <;> omega) (by omega) ?_
      refine Z 11 rfl ?_
      exact hn52 _ _ _ _ h ⟨(((hl52.trans hl56).trans hl60).trans hl61), rfl, rfl⟩
    refine Z 3 rfl ?_
    refine o_mif rfl rfl rfl rfl h (fun h => ?_) (fun h => ?_)
    ·refine Z 12 rfl ?_
     exact hk61 _ _ _ ⟨true, h, (Sto.Le.refl _), rfl, rfl⟩
    ·refine Z 3 rfl ?_
     refine o_mif rfl rfl rfl rfl h (fun h => ?_) (fun h => ?_)
     ·refine Z 8 rfl ?_
      exact hk61 _ _ _ ⟨true, h, (Sto.Le.refl _), rfl, rfl⟩
     ·refine o_move rfl rfl rfl rfl ?_
      obtain ⟨hf66, hf67, h⟩ := h
      refine o_indexA rfl rfl rfl z_arr85 rfl rfl hf66 hf67 ?_
      refine o_loadV (j := 2) (s52.2.1.toNat) (f := (Value.int .i64)) (zz := 0) (l := 2) (xs := [s52.2.2.1, s52.2.2.2]) [] [] rfl rfl rfl z_sc3 rfl rfl (by simp only [List.length_cons, List.length_nil] <;> omega) (by omega) ?_
      refine Z 2 rfl ?_
      obtain ⟨r68, hr69, h⟩ := h
      refine st_call (foot := []) rfl rfl rfl rfl rfl rfl (callV_fn z_en98 (ref18_far_ok hr69 τ59)) ?_
      rintro vτ70 τ70 gsτ70 hl71 ⟨rfl, rfl⟩
      refine Z 2 rfl ?_
      exact hk61 _ _ _ ⟨r68, h, hl71, rfl, rfl⟩
  ·refine st_exit rfl ?_
   obtain rfl := he52 _ h
   replace h := hA52
   exact hk16 _ _ _ ⟨(s52.1, s52.2.2.1, s52.2.2.2), h, hl52, rfl, rfl⟩
 ·refine st_exit rfl ?_
  obtain rfl := he13 _ h
  replace h := hA13
  refine st_ord [0, 0] _ rfl ?_
  exact hk10 _ _ _ ⟨(s13.1, s13.2.2.1), _, h, hl13, rfl, rfl, hs15⟩
end Go.Rel
