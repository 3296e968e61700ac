import Derived.Test.YtonmgcebhhdplaaGreatURel
import Derived.Test.YtonmgcebhhdplaaGreatUFacts
import Derived.Test.YtonmgcebhhdplaaGreatUWalk1
/-! The walks. -/
set_option linter.unusedVariables false
set_option linter.unusedSimpArgs false
set_option maxRecDepth 4000
set_option maxHeartbeats 4000000
namespace Go.Rel
open Go Go.Eng Go.Proofs
theorem ref18_cells_ok {a0 : TyR} {a1 : Int} {a2 : List Int} {a3 : Int} {v1 : Value} {v2 : Value} {v5 : Value} {r : (TyR) × Int × Int} (h : ref18_cells a0 a1 a2 a3 r) (σ : Sto) (hs3 : Sl (kA .i64 2) σ v1 a0.2.2.1) (hs4 : Sl (kI .i64) σ v2 a0.2.2.2.1) (hs6 : Sl (kI .u8) σ v5 a2) :
    Does Tryz.prog 101 [.agg (lM a0 v1 v2).toArray, .I a1, v5, .I a3] σ [] (fun v τ gs => ∃ (v43 : Value) (v44 : Value), gs = [] ∧ .tuple [.agg (lM r.1 v43 v44).toArray, .I r.2.1, .I r.2.2].toArray = v ∧ Sl (kA .i64 2) τ v43 r.1.2.2.1 ∧ Sl (kI .i64) τ v44 r.1.2.2.2.1) := by
 refine call_of Tryz.func101 Tryz.ntmps101 rfl rfl (fun cs fs => ?_)
 refine Z 2 rfl ?_
 refine o_box (cs := (lM a0 v1 v2)) rfl rfl rfl rfl rfl (fun b7 => ?_)
 refine o_alloc rfl rfl rfl z_zero36 (fun b8 => ?_)
 refine Z 8 rfl ?_
 refine st_cut (fun ρ τ9 gs => ∃ (s9 : Int × List Int) (v10 : Value), ref18_cells_j1 a0 s9 r ∧ σ.Le τ9 ∧ ESub ρ [(3, .I s9.1), (4, .Pb b7), (8, .Pb b8), (9, .I 0), (10, .I 0)] ∧ gs = [[(b7, .cells (lM a0 v1 v10).toArray 36 (0, 0))], [(b8, .cells lY.toArray 36 (0, 0))]] ∧ Sl (kI .i64) τ9 v10 s9.2) ?_ (fun hk9 => ?_)
 ·rintro ρ9 τ9 gs9 ⟨s9, v10, h, hl9, hρ, rfl, hs11⟩
  refine st_es hρ ?_
  refine ZZ 4 [0] rfl rfl ?_
  refine o_store (j := 1) (vs := (lM a0 v1 v10)) (cs' := (lM a0 v1 v10)) rfl rfl rfl z_size36 rfl rfl rfl (ones_cons rfl (ones_cons rfl (ones_cons rfl (ones_cons rfl (ones_cons rfl (ones_cons rfl (ones_cons rfl (ones_cons (hs3.up hl9).one' (ones_cons hs11.one' (ones_cons rfl (ones_cons rfl ones_nil))))))))))) rfl rfl rfl ?_
  refine Z 3 rfl ?_
  obtain rfl := Eq.symm h
  exact st_retC (gs' := []) [.agg (lM a0 v1 v10).toArray, .I s9.1, .I 0] Tryz.func101 ⟨⟨_, _, _, _, rfl, mem_flat 1 rfl, fun w hw => cellOfN (vs := (lM a0 v1 v10)) z_agg36 rfl w hw⟩, rfl, rfl, trivial⟩ (by simp) hl9 ⟨_, _, rfl, rfl, (hs3.up hl9), hs11⟩
 refine Z 4 rfl ?_
 obtain ⟨e12, hL12, hA12⟩ := h
 refine st_ord [1, 0] _ rfl ?_
 refine st_loop hL12 (fun (s12 : Int × Int × Int × List Int) ρ τ12 gs => σ.Le τ12 ∧ ∃ (v13 : Value), ESub ρ [(1, .I a1), (2, v5), (3, .I s12.1), (4, .Pb b7), (8, .Pb b8), (9, .I 0), (10, .I 0), (11, .I s12.2.1), (12, .I s12.2.2.1)] ∧ gs = [[(b7, .cells (lM a0 v1 v13).toArray 36 (0, 0))], [(b8, .cells lY.toArray 36 (0, 0))]] ∧ Sl (kI .i64) τ12 v13 s12.2.2.2) ⟨Sto.Le.refl _, _, rfl, rfl, hs4⟩ ?_
 rintro s12 o12 h he12 ρ12 τ12 gs12 ⟨hl12, v13, hρ, rfl, hs14⟩ hn12
 refine st_es hρ ?_
 refine Z 7 rfl ?_
 refine st_if rfl h (fun h => ?_) (fun h => ?_)
 ·refine Z 7 rfl ?_
  obtain ⟨r15, hr16, h⟩ := h
  refine st_call (foot := []) rfl rfl rfl rfl rfl rfl (callV_fn z_en35 (ref01_Get_ok hr16 τ12 (hs6.up hl12))) ?_
  rintro vτ17 τ17 gsτ17 hl18 ⟨rfl, rfl⟩
  refine Z 14 rfl ?_
  refine st_if rfl h (fun h => ?_) (fun h => ?_)
  ·refine ZZ 5 [0] rfl rfl ?_
   refine o_store (j := 1) (vs := (lM a0 v1 v13)) (cs' := (lM a0 v1 v13)) rfl rfl rfl z_size36 rfl rfl rfl (ones_cons rfl (ones_cons rfl (ones_cons rfl (ones_cons rfl (ones_cons rfl (ones_cons rfl (ones_cons rfl (ones_cons (hs3.up (hl12.trans hl18)).one' (ones_cons (hs14.up hl18).one' (ones_cons rfl (ones_cons rfl ones_nil))))))))))) rfl rfl rfl ?_
   refine Z 3 rfl ?_
   obtain rfl := he12 _ h
   replace h := hA12
   obtain rfl := Eq.symm h
   exact st_retC (gs' := []) [.agg (lM a0 v1 v13).toArray, .I s12.1, .I r15.2.2] Tryz.func101 ⟨⟨_, _, _, _, rfl, mem_flat 1 rfl, fun w hw => cellOfN (vs := (lM a0 v1 v13)) z_agg36 rfl w hw⟩, rfl, rfl, trivial⟩ (by simp) (hl12.trans hl18) ⟨_, _, rfl, rfl, (hs3.up (hl12.trans hl18)), (hs14.up hl18)⟩
  ·refine Z 3 rfl ?_
   refine st_cut (fun ρ τ19 gs => ∃ (s19 : Bool), ref18_cells_j3 a0 s12 r15 s19 o12 ∧ τ17.Le τ19 ∧ ESub ρ [(1, .I a1), (2, v5), (3, .I s12.1), (4, .Pb b7), (8, .Pb b8), (9, .I 0), (10, .I 0), (11, .I s12.2.1), (12, .I s12.2.2.1), (13, .int .u64 r15.1), (14, .I r15.2.1), (42, .bool s19)] ∧ gs = [[(b7, .cells (lM a0 v1 v13).toArray 36 (0, 0))], [(b8, .cells lY.toArray 36 (0, 0))]]) ?_ (fun hk19 => ?_)
   ·rintro ρ19 τ19 gs19 ⟨s19, h, hl19, hρ, rfl⟩
    refine st_es hρ ?_
    refine st_if rfl h (fun h => ?_) (fun h => ?_)
    ·refine ZZ 4 [0] rfl rfl ?_
     refine o_store (j := 1) (vs := (lM a0 v1 v13)) (cs' := (lM a0 v1 v13)) rfl rfl rfl z_size36 rfl rfl rfl (ones_cons rfl (ones_cons rfl (ones_cons rfl (ones_cons rfl (ones_cons rfl (ones_cons rfl (ones_cons rfl (ones_cons (hs3.up ((hl12.trans hl18).trans hl19)).one' (ones_cons (hs14.up (hl18.trans hl19)).one' (ones_cons rfl (ones_cons rfl ones_nil))))))))))) rfl rfl rfl ?_
     refine Z 3 rfl ?_
     obtain rfl := he12 _ h
     replace h := hA12
     obtain rfl := Eq.symm h
     exact st_retC (gs' := []) [.agg (lM a0 v1 v13).toArray, .I s12.1, .I 5] Tryz.func101 ⟨⟨_, _, _, _, rfl, mem_flat 1 rfl, fun w hw => cellOfN (vs := (lM a0 v1 v13)) z_agg36 rfl w hw⟩, rfl, rfl, trivial⟩ (by simp) ((hl12.trans hl18).trans hl19) ⟨_, _, rfl, rfl, (hs3.up ((hl12.trans hl18).trans hl19)), (hs14.up (hl18.trans hl19))⟩
    ·refine Z 16 rfl ?_
     refine o_lit (dk := (kI .i64)) (xs := ([] : List Int)) (ps := []) (cs := []) rfl rfl rfl z_slT28 z_zero3 trivial rfl rfl rfl rfl Kd.Many.nil (fun v20 g21 ho22 => ?_)
     refine ZZ 2 [1] rfl rfl ?_
     obtain ⟨hf26, hf27, h⟩ := h
     refine o_append (dk := (kI .i64)) (xs := ([] : List Int)) (ys := s12.2.2.2) rfl rfl rfl rfl z_slT28 rfl ho22 rfl (Sl.src (hs14.up (hl18.trans hl19))) hf26 hf27 (fun v23 g24 ho25 => ?_)
     refine o_move rfl rfl rfl rfl ?_
     refine o_litE (eI .i64) [(IntKind.i64.wrap ((IntKind.i64.wrap (s12.2.1 + 1)) + (IntKind.i64.wrap r15.1)))] rfl rfl rfl z_slT28 z_zero3 ⟨rfl, ⟨_, rfl, rfl⟩, trivial⟩ rfl rfl rfl rfl (fun v28 g29 ho30 => ?_)
     obtain ⟨hf34, hf35, h⟩ := h
     refine st_ord [1, 0, 0, 0] _ rfl ?_
     refine o_append (dk := (kI .i64)) (xs := (([] : List Int) ++ s12.2.2.2)) (ys := [(IntKind.i64.wrap ((IntKind.i64.wrap (s12.2.1 + 1)) + (IntKind.i64.wrap r15.1)))]) rfl rfl rfl rfl z_slT28 rfl ho25 rfl (Ow.src (j := 1) ho30 rfl) hf34 hf35 (fun v31 g32 ho33 => ?_)
     refine o_fieldAddr rfl rfl rfl z_field36_3 rfl ?_
     refine o_store (j := 2) (vs := [v31]) (cs' := (lM a0 v1 v31)) rfl rfl rfl z_size28 rfl rfl (oneL_ow ho33) (ones_cons ho33.one' ones_nil) rfl rfl rfl ?_
     refine Z 7 rfl ?_
     refine st_freeze (fun τ36 hl37 hg38 => ?_)
     have hs39 := ho33.freeze hl37 hg38
     refine st_ord [1, 1] _ rfl ?_
     exact hn12 _ _ _ _ h ⟨(((hl12.trans hl18).trans hl19).trans hl37), _, rfl, rfl, hs39⟩
   refine Z 3 rfl ?_
   refine o_mif rfl rfl rfl rfl h (fun h => ?_) (fun h => ?_)
   ·refine Z 8 rfl ?_
    exact hk19 _ _ _ ⟨true, h, (Sto.Le.refl _), rfl, rfl⟩
   ·refine Z 8 rfl ?_
    exact hk19 _ _ _ ⟨(decide (65535 < (IntKind.i64.wrap ((IntKind.i64.wrap (s12.2.1 + 1)) + (IntKind.i64.wrap r15.1))))), h, (Sto.Le.refl _), rfl, rfl⟩
 ·refine st_exit rfl ?_
  obtain rfl := he12 _ h
  replace h := hA12
  exact hk9 _ _ _ ⟨(s12.1, s12.2.2.2), _, h, hl12, rfl, rfl, hs14⟩
theorem ref18_field_ok {a0 : TyR} {a1 : TyA} {a2 : List Int} {a3 : Int} {v1 : Value} {v2 : Value} {v5 : Value} {r : (TyR) × Int × Int} (h : ref18_field a0 a1 a2 a3 r) (σ : Sto) (hs3 : Sl (kA .i64 2) σ v1 a0.2.2.1) (hs4 : Sl (kI .i64) σ v2 a0.2.2.2.1) (hs6 : Sl (kI .u8) σ v5 a2) :
    Does Tryz.prog 85 [.agg (lM a0 v1 v2).toArray, .agg (lA a1).toArray, v5, .I a3] σ [] (fun v τ gs => ∃ (v64 : Value) (v65 : Value), gs = [] ∧ .tuple [.agg (lM r.1 v64 v65).toArray, .I r.2.1, .I r.2.2].toArray = v ∧ Sl (kA .i64 2) τ v64 r.1.2.2.1 ∧ Sl (kI .i64) τ v65 r.1.2.2.2.1) := by
 refine call_of Tryz.func85 Tryz.ntmps85 rfl rfl (fun cs fs => ?_)
 refine Z 2 rfl ?_
 refine o_box (cs := (lM a0 v1 v2)) rfl rfl rfl rfl rfl (fun b7 => ?_)
 refine o_boxC rfl rfl rfl rfl rfl rfl (fun b8 => ?_)
 refine o_alloc rfl rfl rfl z_zero36 (fun b9 => ?_)
 refine Z 7 rfl ?_
 obtain ⟨r10, hr11, h⟩ := h
 refine st_call (foot := []) rfl rfl rfl rfl rfl rfl (callV_fn z_en35 (ref01_Get_ok hr11 σ hs6)) ?_
 rintro vτ12 τ12 gsτ12 hl13 ⟨rfl, rfl⟩
 refine Z 14 rfl ?_
 refine st_if rfl h (fun h => ?_) (fun h => ?_)
 ·refine ZZ 5 [2] rfl rfl ?_
  refine o_store (j := 0) (vs := (lM a0 v1 v2)) (cs' := (lM a0 v1 v2)) rfl rfl rfl z_size36 rfl rfl rfl (ones_cons rfl (ones_cons rfl (ones_cons rfl (ones_cons rfl (ones_cons rfl (ones_cons rfl (ones_cons rfl (ones_cons (hs3.up hl13).one' (ones_cons (hs4.up hl13).one' (ones_cons rfl (ones_cons rfl ones_nil))))))))))) rfl rfl rfl ?_
  refine Z 3 rfl ?_
  obtain rfl := Eq.symm h
  exact st_retC (gs' := []) [.agg (lM a0 v1 v2).toArray, .I a3, .I r10.2.2] Tryz.func85 ⟨⟨_, _, _, _, rfl, mem_flat 0 rfl, fun w hw => cellOfN (vs := (lM a0 v1 v2)) z_agg36 rfl w hw⟩, rfl, rfl, trivial⟩ (by simp) hl13 ⟨_, _, rfl, rfl, (hs3.up hl13), (hs4.up hl13)⟩
 ·refine ZZ 13 [1] rfl rfl ?_
  refine st_if rfl h (fun h => ?_) (fun h => ?_)
  ·refine Z 2 rfl ?_
   refine st_cut (fun ρ τ14 gs => ∃ (s14 : Bool), ref18_field_j1 a0 a1 a3 r10 s14 r ∧ τ12.Le τ14 ∧ ESub ρ [(2, v5), (3, .I a3), (4, .Pb b7), (5, .Pb b8), (8, .Pb b9), (9, .I 0), (10, .I 0), (11, .int .u64 r10.1), (12, .I r10.2.1), (43, .bool s14)] ∧ gs = [[(b7, .cells (lM a0 v1 v2).toArray 36 (0, 0))], [(b8, .cells (lA a1).toArray 98 (0, 0))], [(b9, .cells lY.toArray 36 (0, 0))]]) ?_ (fun hk14 => ?_)
   ·rintro ρ14 τ14 gs14 ⟨s14, h, hl14, hρ, rfl⟩
    refine st_es hρ ?_
    refine st_if rfl h (fun h => ?_) (fun h => ?_)
    ·refine ZZ 4 [0] rfl rfl ?_
     refine o_store (j := 2) (vs := (lM a0 v1 v2)) (cs' := (lM a0 v1 v2)) rfl rfl rfl z_size36 rfl rfl rfl (ones_cons rfl (ones_cons rfl (ones_cons rfl (ones_cons rfl (ones_cons rfl (ones_cons rfl (ones_cons rfl (ones_cons (hs3.up (hl13.trans hl14)).one' (ones_cons (hs4.up (hl13.trans hl14)).one' (ones_cons rfl (ones_cons rfl ones_nil))))))))))) rfl rfl rfl ?_
     refine Z 3 rfl ?_
     obtain rfl := Eq.symm h
     exact st_retC (gs' := []) [.agg (lM a0 v1 v2).toArray, .I a3, .I 5] Tryz.func85 ⟨⟨_, _, _, _, rfl, mem_flat 2 rfl, fun w hw => cellOfN (vs := (lM a0 v1 v2)) z_agg36 rfl w hw⟩, rfl, rfl, trivial⟩ (by simp) (hl13.trans hl14) ⟨_, _, rfl, rfl, (hs3.up (hl13.trans hl14)), (hs4.up (hl13.trans hl14))⟩
    ·refine ZZ 8 [1] rfl rfl ?_
     obtain ⟨hf15, hf16, h⟩ := h
     refine o_indexA rfl rfl rfl z_arr26 rfl rfl hf15 hf16 ?_
     refine o_storeV (j := 0) (a1.2.2.1.toNat) (f := (Value.int .i64)) (zz := 0) (a := (IntKind.i64.wrap r10.1)) (l := 6) (xs := a0.2.1) [.I a0.1] [v1, v2, .string a0.t4.1, .string a0.t4.2] rfl rfl rfl z_size3 rfl rfl rfl rfl rfl (by simp only [List.length_cons, List.length_nil] <;> omega) (by omega) ?_
     refine ZZ 5 [0] rfl rfl ?_
     refine o_store (j := 2) (vs := [.I a0.1, .I ((putN 6 0 a0.2.1 a1.2.2.1.toNat (IntKind.i64.wrap r10.1)).getD 0 0), .I ((putN 6 0 a0.2.1 a1.2.2.1.toNat (IntKind.i64.wrap r10.1)).getD 1 0), .I ((putN 6 0 a0.2.1 a1.2.2.1.toNat (IntKind.i64.wrap r10.1)).getD 2 0), .I ((putN 6 0 a0.2.1 a1.2.2.1.toNat (IntKind.i64.wrap r10.1)).getD 3 0), .I ((putN 6 0 a0.2.1 a1.2.2.1.toNat (IntKind.i64.wrap r10.1)).getD 4 0), .I ((putN 6 0 a0.2.1 a1.2.2.1.toNat (IntKind.i64.wrap r10.1)).getD 5 0), v1, v2, .string a0.t4.1, .string a0.t4.2]) (cs' := [.I a0.1, .I ((putN 6 0 a0.2.1 a1.2.2.1.toNat (IntKind.i64.wrap r10.1)).getD 0 0), .I ((putN 6 0 a0.2.1 a1.2.2.1.toNat (IntKind.i64.wrap r10.1)).getD 1 0), .I ((putN 6 0 a0.2.1 a1.2.2.1.toNat (IntKind.i64.wrap r10.1)).getD 2 0), .I ((putN 6 0 a0.2.1 a1.2.2.1.toNat (IntKind.i64.wrap r10.1)).getD 3 0), .I ((putN 6 0 a0.2.1 a1.2.2.1.toNat (IntKind.i64.wrap r10.1)).getD 4 0), .I ((putN 6 0 a0.2.1 a1.2.2.1.toNat (IntKind.i64.wrap r10.1)).getD 5 0), v1, v2, .string a0.t4.1, .string a0.t4.2]) rfl rfl rfl z_size36 rfl rfl rfl (ones_cons rfl (ones_cons rfl (ones_cons rfl (ones_cons rfl (ones_cons rfl (ones_cons rfl (ones_cons rfl (ones_cons (hs3.up (hl13.trans hl14)).one' (ones_cons (hs4.up (hl13.trans hl14)).one' (ones_cons rfl (ones_cons rfl ones_nil))))))))))) rfl rfl rfl ?_
     refine Z 3 rfl ?_
     obtain rfl := Eq.symm h
     exact st_retC (gs' := []) [.agg #[.I a0.1, .I ((putN 6 0 a0.2.1 a1.2.2.1.toNat (IntKind.i64.wrap r10.1)).getD 0 0), .I ((putN 6 0 a0.2.1 a1.2.2.1.toNat (IntKind.i64.wrap r10.1)).getD 1 0), .I ((putN 6 0 a0.2.1 a1.2.2.1.toNat (IntKind.i64.wrap r10.1)).getD 2 0), .I ((putN 6 0 a0.2.1 a1.2.2.1.toNat (IntKind.i64.wrap r10.1)).getD 3 0), .I ((putN 6 0 a0.2.1 a1.2.2.1.toNat (IntKind.i64.wrap r10.1)).getD 4 0), .I ((putN 6 0 a0.2.1 a1.2.2.1.toNat (IntKind.i64.wrap r10.1)).getD 5 0), v1, v2, .string a0.t4.1, .string a0.t4.2], .I r10.2.1, .I 0] Tryz.func85 ⟨⟨_, _, _, _, rfl, mem_flat 2 rfl, fun w hw => cellOfN (vs := [.I a0.1, .I ((putN 6 0 a0.2.1 a1.2.2.1.toNat (IntKind.i64.wrap r10.1)).getD 0 0), .I ((putN 6 0 a0.2.1 a1.2.2.1.toNat (IntKind.i64.wrap r10.1)).getD 1 0), .I ((putN 6 0 a0.2.1 a1.2.2.1.toNat (IntKind.i64.wrap r10.1)).getD 2 0), .I ((putN 6 0 a0.2.1 a1.2.2.1.toNat (IntKind.i64.wrap r10.1)).getD 3 0), .I ((putN 6 0 a0.2.1 a1.2.2.1.toNat (IntKind.i64.wrap r10.1)).getD 4 0), .I ((putN 6 0 a0.2.1 a1.2.2.1.toNat (IntKind.i64.wrap r10.1)).getD 5 0), v1, v2, .string a0.t4.1, .string a0.t4.2]) z_agg36 rfl w hw⟩, rfl, rfl, trivial⟩ (by simp) (hl13.trans hl14) ⟨_, _, rfl, rfl, (hs3.up (hl13.trans hl14)), (hs4.up (hl13.trans hl14))⟩
   refine ZZ 6 [1] rfl rfl ?_
   refine o_mif rfl rfl rfl rfl h (fun h => ?_) (fun h => ?_)
   ·refine Z 7 rfl ?_
    refine st_ord [2, 1, 0] _ rfl ?_
    exact hk14 _ _ _ ⟨true, h, (Sto.Le.refl _), rfl, rfl⟩
   ·refine ZZ 7 [1] rfl rfl ?_
    refine st_ord [2, 1, 0] _ rfl ?_
    exact hk14 _ _ _ ⟨(decide ((IntKind.i64.wrap r10.1) < a1.2.2.2.1)), h, (Sto.Le.refl _), rfl, rfl⟩
  ·refine Z 5 rfl ?_
   refine st_if rfl h (fun h => ?_) (fun h => ?_)
   ·refine Z 4 rfl ?_
    obtain ⟨r17, hr18, h⟩ := h
    refine st_call (foot := []) rfl rfl rfl rfl rfl rfl (callV_fn z_en99 (ref01_Zag_ok hr18 τ12)) ?_
    rintro vτ19 τ19 gsτ19 hl20 ⟨rfl, rfl⟩
    obtain ⟨r21, hr22, h⟩ := h
    refine st_call (foot := []) rfl rfl rfl rfl rfl rfl (callV_fn z_en98 (ref18_far_ok hr22 τ19)) ?_
    rintro vτ23 τ23 gsτ23 hl24 ⟨rfl, rfl⟩
    refine st_end ?_
    refine st_if rfl h (fun h => ?_) (fun h => ?_)
    ·refine ZZ 4 [2] rfl rfl ?_
     refine o_store (j := 0) (vs := (lM a0 v1 v2)) (cs' := (lM a0 v1 v2)) rfl rfl rfl z_size36 rfl rfl rfl (ones_cons rfl (ones_cons rfl (ones_cons rfl (ones_cons rfl (ones_cons rfl (ones_cons rfl (ones_cons rfl (ones_cons (hs3.up ((hl13.trans hl20).trans hl24)).one' (ones_cons (hs4.up ((hl13.trans hl20).trans hl24)).one' (ones_cons rfl (ones_cons rfl ones_nil))))))))))) rfl rfl rfl ?_
     refine Z 3 rfl ?_
     obtain rfl := Eq.symm h
     exact st_retC (gs' := []) [.agg (lM a0 v1 v2).toArray, .I a3, .I 5] Tryz.func85 ⟨⟨_, _, _, _, rfl, mem_flat 0 rfl, fun w hw => cellOfN (vs := (lM a0 v1 v2)) z_agg36 rfl w hw⟩, rfl, rfl, trivial⟩ (by simp) ((hl13.trans hl20).trans hl24) ⟨_, _, rfl, rfl, (hs3.up ((hl13.trans hl20).trans hl24)), (hs4.up ((hl13.trans hl20).trans hl24))⟩
    ·refine Z 2 rfl ?_
     obtain ⟨r25, hr26, hf29, hf30, h⟩ := h
     refine st_d41 [[(b9, .cells lY.toArray 36 (0, 0))], [(b8, .cells (lA a1).toArray 98 (0, 0))]] [[(b7, .cells (lM a0 v1 v2).toArray 36 (0, 0))]] 7 1 [none, none, none, none, none, none, some (0, 0)] [none, none, none, none, none, none, none] [[none, none]] [.v (.pointer (some ⟨b8, 2, none⟩)), .v (.I a1.2.2.1), .v (.int .u64 r10.1), .v (.I r25), .v (.pointer (some ⟨b7, 1, none⟩)), .v (.pointer (some ⟨b7, 1 + a1.2.2.1.toNat * 1, none⟩)), .t fun _ _ => True] [[fun τ u F => F = [[(b7, .cells (lM a0 v1 v2).toArray 36 (0, 0))]], fun τ u F => F = [[(b7, .cells #[.I a0.1, .I ((putN 6 0 a0.2.1 a1.2.2.1.toNat r25).getD 0 0), .I ((putN 6 0 a0.2.1 a1.2.2.1.toNat r25).getD 1 0), .I ((putN 6 0 a0.2.1 a1.2.2.1.toNat r25).getD 2 0), .I ((putN 6 0 a0.2.1 a1.2.2.1.toNat r25).getD 3 0), .I ((putN 6 0 a0.2.1 a1.2.2.1.toNat r25).getD 4 0), .I ((putN 6 0 a0.2.1 a1.2.2.1.toNat r25).getD 5 0), v1, v2, .string a0.t4.1, .string a0.t4.2] 36 (0, 0))]]]] rfl z_mix rfl ⟨fun _ _ _ _ _ => trivial, trivial⟩ ⟨⟨fun _ _ _ _ hl h => h, ⟨fun _ _ _ _ hl h => h, trivial⟩⟩, trivial⟩ rfl rfl ?_ (allB_cons (allB_cons (allB_cons (allB_cons (allB_cons (allB_cons (allB_cons allB_nil (p4 dA)) ?_) (p4 dA)) ?_) (p4 dA)) ?_) ?_) ?_
     ·exact rfl
     ·intro ρ' τ pool rs hl hd hout hw hk
      obtain ⟨_, e0, rfl⟩ := hd 0 rfl _ rfl
      refine o_load (j := 1) (v := .I a1.2.2.1) rfl rfl rfl z_sc3 e0 rfl rfl ?_
      exact hk _ _ (Sto.Le.refl _) rfl
     ·intro ρ' τ pool rs hl hd hout hw hk
      obtain ⟨_, e2, rfl⟩ := hd 2 rfl _ rfl
      refine st_call (foot := []) rfl rfl rfl rfl (evs_cons e2 rfl) rfl (callV_fn z_en99 (ref01_Zag_ok hr26 τ)) ?_
      rintro vτ27 τ27 gsτ27 hl28 ⟨rfl, rfl⟩
      exact hk _ _ hl28 rfl
     ·intro ρ' τ pool rs hl hd hout hw hk
      obtain ⟨_, e1, rfl⟩ := hd 1 rfl _ rfl
      obtain ⟨_, e4, rfl⟩ := hd 4 rfl _ rfl
      refine o_indexA rfl rfl rfl z_arr26 e4 e1 hf29 hf30 ?_
      exact hk _ _ (Sto.Le.refl _) rfl
     ·intro ρ' τ u Fv pool rs hl hI hu hd hout hw hk
      obtain ⟨_, e3, rfl⟩ := hd 3 rfl _ rfl
      obtain ⟨_, e5, rfl⟩ := hd 5 rfl _ rfl
      have hI0 := hI
      obtain rfl := hI
      refine o_storeV (j := 2) (a1.2.2.1.toNat) (f := (Value.int .i64)) (zz := 0) (a := r25) (l := 6) (xs := a0.2.1) [.I a0.1] [v1, v2, .string a0.t4.1, .string a0.t4.2] rfl rfl rfl z_size3 e5 e3 rfl rfl rfl (by simp only [List.length_cons, List.length_nil] <;> omega) (by omega) ?_
      exact hk _ _ [[(b7, .cells #[.I a0.1, .I ((putN 6 0 a0.2.1 a1.2.2.1.toNat r25).getD 0 0), .I ((putN 6 0 a0.2.1 a1.2.2.1.toNat r25).getD 1 0), .I ((putN 6 0 a0.2.1 a1.2.2.1.toNat r25).getD 2 0), .I ((putN 6 0 a0.2.1 a1.2.2.1.toNat r25).getD 3 0), .I ((putN 6 0 a0.2.1 a1.2.2.1.toNat r25).getD 4 0), .I ((putN 6 0 a0.2.1 a1.2.2.1.toNat r25).getD 5 0), v1, v2, .string a0.t4.1, .string a0.t4.2] 36 (0, 0))]] (Sto.Le.refl _) trivial (by exact rfl)
     intro ρ' τ31 vals u Fv hl31 hI hu hv hout
     obtain rfl := hI
     refine st_env (ρ' := [(2, v5), (3, .I a3), (4, .Pb b7), (5, .Pb b8), (8, .Pb b9), (9, .I 0), (10, .I 0), (11, .int .u64 r10.1), (12, .I r10.2.1)]) ⟨(hout 2 rfl).trans rfl, (hout 3 rfl).trans rfl, (hout 4 rfl).trans rfl, (hout 5 rfl).trans rfl, (hout 8 rfl).trans rfl, (hout 9 rfl).trans rfl, (hout 10 rfl).trans rfl, (hout 11 rfl).trans rfl, (hout 12 rfl).trans rfl, trivial⟩ ?_
     refine ZZ 5 [2] rfl rfl ?_
     refine o_store (j := 0) (vs := [.I a0.1, .I ((putN 6 0 a0.2.1 a1.2.2.1.toNat r25).getD 0 0), .I ((putN 6 0 a0.2.1 a1.2.2.1.toNat r25).getD 1 0), .I ((putN 6 0 a0.2.1 a1.2.2.1.toNat r25).getD 2 0), .I ((putN 6 0 a0.2.1 a1.2.2.1.toNat r25).getD 3 0), .I ((putN 6 0 a0.2.1 a1.2.2.1.toNat r25).getD 4 0), .I ((putN 6 0 a0.2.1 a1.2.2.1.toNat r25).getD 5 0), v1, v2, .string a0.t4.1, .string a0.t4.2]) (cs' := [.I a0.1, .I ((putN 6 0 a0.2.1 a1.2.2.1.toNat r25).getD 0 0), .I ((putN 6 0 a0.2.1 a1.2.2.1.toNat r25).getD 1 0), .I ((putN 6 0 a0.2.1 a1.2.2.1.toNat r25).getD 2 0), .I ((putN 6 0 a0.2.1 a1.2.2.1.toNat r25).getD 3 0), .I ((putN 6 0 a0.2.1 a1.2.2.1.toNat r25).getD 4 0), .I ((putN 6 0 a0.2.1 a1.2.2.1.toNat r25).getD 5 0), v1, v2, .string a0.t4.1, .string a0.t4.2]) rfl rfl rfl z_size36 rfl rfl rfl (ones_cons rfl (ones_cons rfl (ones_cons rfl (ones_cons rfl (ones_cons rfl (ones_cons rfl (ones_cons rfl (ones_cons (hs3.up (((hl13.trans hl20).trans hl24).trans hl31)).one' (ones_cons (hs4.up (((hl13.trans hl20).trans hl24).trans hl31)).one' (ones_cons rfl (ones_cons rfl ones_nil))))))))))) rfl rfl rfl ?_
     refine Z 3 rfl ?_
     obtain rfl := Eq.symm h
     exact st_retC (gs' := []) [.agg #[.I a0.1, .I ((putN 6 0 a0.2.1 a1.2.2.1.toNat r25).getD 0 0), .I ((putN 6 0 a0.2.1 a1.2.2.1.toNat r25).getD 1 0), .I ((putN 6 0 a0.2.1 a1.2.2.1.toNat r25).getD 2 0), .I ((putN 6 0 a0.2.1 a1.2.2.1.toNat r25).getD 3 0), .I ((putN 6 0 a0.2.1 a1.2.2.1.toNat r25).getD 4 0), .I ((putN 6 0 a0.2.1 a1.2.2.1.toNat r25).getD 5 0), v1, v2, .string a0.t4.1, .string a0.t4.2], .I r10.2.1, .I 0] Tryz.func85 ⟨⟨_, _, _, _, rfl, mem_flat 0 rfl, fun w hw => cellOfN (vs := [.I a0.1, .I ((putN 6 0 a0.2.1 a1.2.2.1.toNat r25).getD 0 0), .I ((putN 6 0 a0.2.1 a1.2.2.1.toNat r25).getD 1 0), .I ((putN 6 0 a0.2.1 a1.2.2.1.toNat r25).getD 2 0), .I ((putN 6 0 a0.2.1 a1.2.2.1.toNat r25).getD 3 0), .I ((putN 6 0 a0.2.1 a1.2.2.1.toNat r25).getD 4 0), .I ((putN 6 0 a0.2.1 a1.2.2.1.toNat r25).getD 5 0), v1, v2, .string a0.t4.1, .string a0.t4.2]) z_agg36 rfl w hw⟩, rfl, rfl, trivial⟩ (by simp) (((hl13.trans hl20).trans hl24).trans hl31) ⟨_, _, rfl, rfl, (hs3.up (((hl13.trans hl20).trans hl24).trans hl31)), (hs4.up (((hl13.trans hl20).trans hl24).trans hl31))⟩
   ·refine Z 4 rfl ?_
    refine st_cut (fun ρ τ32 gs => ∃ (s32 : Bool), ref18_field_j2 a0 a1 a2 a3 r10 s32 r ∧ τ12.Le τ32 ∧ ESub ρ [(2, v5), (3, .I a3), (4, .Pb b7), (5, .Pb b8), (8, .Pb b9), (9, .I 0), (10, .I 0), (11, .int .u64 r10.1), (12, .I r10.2.1), (75, .bool s32)] ∧ gs = [[(b7, .cells (lM a0 v1 v2).toArray 36 (0, 0))], [(b8, .cells (lA a1).toArray 98 (0, 0))], [(b9, .cells lY.toArray 36 (0, 0))]]) ?_ (fun hk32 => ?_)
    ·rintro ρ32 τ32 gs32 ⟨s32, h, hl32, hρ, rfl⟩
     refine st_es hρ ?_
     refine st_if rfl h (fun h => ?_) (fun h => ?_)
     ·refine ZZ 4 [0] rfl rfl ?_
      refine o_store (j := 2) (vs := (lM a0 v1 v2)) (cs' := (lM a0 v1 v2)) rfl rfl rfl z_size36 rfl rfl rfl (ones_cons rfl (ones_cons rfl (ones_cons rfl (ones_cons rfl (ones_cons rfl (ones_cons rfl (ones_cons rfl (ones_cons (hs3.up (hl13.trans hl32)).one' (ones_cons (hs4.up (hl13.trans hl32)).one' (ones_cons rfl (ones_cons rfl ones_nil))))))))))) rfl rfl rfl ?_
      refine Z 3 rfl ?_
      obtain rfl := Eq.symm h
      exact st_retC (gs' := []) [.agg (lM a0 v1 v2).toArray, .I a3, .I 13] Tryz.func85 ⟨⟨_, _, _, _, rfl, mem_flat 2 rfl, fun w hw => cellOfN (vs := (lM a0 v1 v2)) z_agg36 rfl w hw⟩, rfl, rfl, trivial⟩ (by simp) (hl13.trans hl32) ⟨_, _, rfl, rfl, (hs3.up (hl13.trans hl32)), (hs4.up (hl13.trans hl32))⟩
     ·refine ZZ 10 [1] rfl rfl ?_
      refine st_if rfl h (fun h => ?_) (fun h => ?_)
      ·refine ZZ 4 [0] rfl rfl ?_
       refine o_store (j := 2) (vs := (lM a0 v1 v2)) (cs' := (lM a0 v1 v2)) rfl rfl rfl z_size36 rfl rfl rfl (ones_cons rfl (ones_cons rfl (ones_cons rfl (ones_cons rfl (ones_cons rfl (ones_cons rfl (ones_cons rfl (ones_cons (hs3.up (hl13.trans hl32)).one' (ones_cons (hs4.up (hl13.trans hl32)).one' (ones_cons rfl (ones_cons rfl ones_nil))))))))))) rfl rfl rfl ?_
       refine Z 3 rfl ?_
       obtain rfl := Eq.symm h
       exact st_retC (gs' := []) [.agg (lM a0 v1 v2).toArray, .I a3, .I 6] Tryz.func85 ⟨⟨_, _, _, _, rfl, mem_flat 2 rfl, fun w hw => cellOfN (vs := (lM a0 v1 v2)) z_agg36 rfl w hw⟩, rfl, rfl, trivial⟩ (by simp) (hl13.trans hl32) ⟨_, _, rfl, rfl, (hs3.up (hl13.trans hl32)), (hs4.up (hl13.trans hl32))⟩
      ·refine ZZ 13 [1] rfl rfl ?_
       refine st_if rfl h (fun h => ?_) (fun h => ?_)
       ·refine ZZ 7 [0] rfl rfl ?_
        obtain ⟨r33, hr34, h⟩ := h
        refine st_call (foot := []) rfl rfl rfl rfl rfl rfl (callV_fn z_en100 (ref18_path_ok hr34 τ32 (hs3.up (hl13.trans hl32)) (hs4.up (hl13.trans hl32)) (hs6.up (hl13.trans hl32)))) ?_
        rintro vτ35 τ35 gsτ35 hl36 ⟨v37, v38, rfl, rfl, hs39, hs40⟩
        refine Z 3 rfl ?_
        refine o_store (j := 2) (vs := (lM r33.1 v37 v38)) (cs' := (lM r33.1 v37 v38)) rfl rfl rfl z_size36 rfl rfl rfl (ones_cons rfl (ones_cons rfl (ones_cons rfl (ones_cons rfl (ones_cons rfl (ones_cons rfl (ones_cons rfl (ones_cons hs39.one' (ones_cons hs40.one' (ones_cons rfl (ones_cons rfl ones_nil))))))))))) rfl rfl rfl ?_
        refine Z 3 rfl ?_
        obtain rfl := Eq.symm h
        exact st_retC (gs' := []) [.agg (lM r33.1 v37 v38).toArray, .I r33.2.1, .I r33.2.2] Tryz.func85 ⟨⟨_, _, _, _, rfl, mem_flat 2 rfl, fun w hw => cellOfN (vs := (lM r33.1 v37 v38)) z_agg36 rfl w hw⟩, rfl, rfl, trivial⟩ (by simp) ((hl13.trans hl32).trans hl36) ⟨_, _, rfl, rfl, hs39, hs40⟩
       ·refine Z 5 rfl ?_
        refine st_if rfl h (fun h => ?_) (fun h => ?_)
        ·refine ZZ 7 [0] rfl rfl ?_
         obtain ⟨r41, hr42, h⟩ := h
         refine st_call (foot := []) rfl rfl rfl rfl rfl rfl (callV_fn z_en101 (ref18_cells_ok hr42 τ32 (hs3.up (hl13.trans hl32)) (hs4.up (hl13.trans hl32)) (hs6.up (hl13.trans hl32)))) ?_
         rintro vτ43 τ43 gsτ43 hl44 ⟨v45, v46, rfl, rfl, hs47, hs48⟩
         refine Z 3 rfl ?_
         refine o_store (j := 2) (vs := (lM r41.1 v45 v46)) (cs' := (lM r41.1 v45 v46)) rfl rfl rfl z_size36 rfl rfl rfl (ones_cons rfl (ones_cons rfl (ones_cons rfl (ones_cons rfl (ones_cons rfl (ones_cons rfl (ones_cons rfl (ones_cons hs47.one' (ones_cons hs48.one' (ones_cons rfl (ones_cons rfl ones_nil))))))))))) rfl rfl rfl ?_
         refine Z 3 rfl ?_
         obtain rfl := Eq.symm h
         exact st_retC (gs' := []) [.agg (lM r41.1 v45 v46).toArray, .I r41.2.1, .I r41.2.2] Tryz.func85 ⟨⟨_, _, _, _, rfl, mem_flat 2 rfl, fun w hw => cellOfN (vs := (lM r41.1 v45 v46)) z_agg36 rfl w hw⟩, rfl, rfl, trivial⟩ (by simp) ((hl13.trans hl32).trans hl44) ⟨_, _, rfl, rfl, hs47, hs48⟩
        ·refine Z 8 rfl ?_
         refine o_lenI rfl rfl rfl z_slT42 rfl (hs6.up (hl13.trans hl32)) ?_
         refine Z 4 rfl ?_
         refine st_if rfl h (fun h => ?_) (fun h => ?_)
         ·refine ZZ 4 [0] rfl rfl ?_
          refine o_store (j := 2) (vs := (lM a0 v1 v2)) (cs' := (lM a0 v1 v2)) rfl rfl rfl z_size36 rfl rfl rfl (ones_cons rfl (ones_cons rfl (ones_cons rfl (ones_cons rfl (ones_cons rfl (ones_cons rfl (ones_cons rfl (ones_cons (hs3.up (hl13.trans hl32)).one' (ones_cons (hs4.up (hl13.trans hl32)).one' (ones_cons rfl (ones_cons rfl ones_nil))))))))))) rfl rfl rfl ?_
          refine Z 3 rfl ?_
          obtain rfl := Eq.symm h
          exact st_retC (gs' := []) [.agg (lM a0 v1 v2).toArray, .I a3, .I 4] Tryz.func85 ⟨⟨_, _, _, _, rfl, mem_flat 2 rfl, fun w hw => cellOfN (vs := (lM a0 v1 v2)) z_agg36 rfl w hw⟩, rfl, rfl, trivial⟩ (by simp) (hl13.trans hl32) ⟨_, _, rfl, rfl, (hs3.up (hl13.trans hl32)), (hs4.up (hl13.trans hl32))⟩
         ·refine Z 9 rfl ?_
          obtain ⟨hf49, hf50, hf51, h⟩ := h
          refine o_slice (L := r10.2.1) (H := (IntKind.i64.wrap (r10.2.1 + (IntKind.i64.wrap r10.1)))) rfl rfl rfl z_slT42 rfl rfl (hs6.up (hl13.trans hl32)) ⟨_, rfl⟩ ⟨_, rfl⟩ hf49 hf50 hf51 trivial (by simp) (fun v52 hs53 => ?_)
          refine o_bstr (xs := ((a2.drop r10.2.1.toNat).take (((IntKind.i64.wrap (r10.2.1 + (IntKind.i64.wrap r10.1))) : Int) - r10.2.1).toNat)) rfl rfl rfl Tryz.underlying42 Tryz.underlying5 Tryz.underlying9 rfl hs53 ?_
          refine Z 3 rfl ?_
          refine st_cut (fun ρ τ54 gs => ∃ (s54 : Unit), ref18_field_j3 a0 a1 a2 r10 s54 r ∧ τ32.Le τ54 ∧ ESub ρ [(4, .Pb b7), (5, .Pb b8), (8, .Pb b9), (9, .I 0), (10, .I 0), (11, .int .u64 r10.1), (12, .I r10.2.1), (14, .string (bstr ((a2.drop r10.2.1.toNat).take (((IntKind.i64.wrap (r10.2.1 + (IntKind.i64.wrap r10.1))) : Int) - r10.2.1).toNat)))] ∧ gs = [[(b7, .cells (lM a0 v1 v2).toArray 36 (0, 0))], [(b8, .cells (lA a1).toArray 98 (0, 0))], [(b9, .cells lY.toArray 36 (0, 0))]]) ?_ (fun hk54 => ?_)
          ·rintro ρ54 τ54 gs54 ⟨s54, h, hl54, hρ, rfl⟩
           refine st_es hρ ?_
           refine st_seq ?_
           refine st_cut (fun ρ τ55 gs => ∃ (s55 : ByteArray × ByteArray), ref18_field_j4 a0 r10 s55 r ∧ τ54.Le τ55 ∧ ESub ρ [(4, .Pb b7), (8, .Pb b9), (9, .I 0), (10, .I 0), (11, .int .u64 r10.1), (12, .I r10.2.1)] ∧ gs = [[(b7, .cells #[.I a0.1, .I (a0.2.1.getD 0 0), .I (a0.2.1.getD 1 0), .I (a0.2.1.getD 2 0), .I (a0.2.1.getD 3 0), .I (a0.2.1.getD 4 0), .I (a0.2.1.getD 5 0), v1, v2, .string s55.1, .string s55.2] 36 (0, 0))], [(b9, .cells lY.toArray 36 (0, 0))]]) ?_ (fun hk55 => ?_)
           ·rintro ρ55 τ55 gs55 ⟨s55, h, hl55, hρ, rfl⟩
            refine st_es hρ ?_
            refine ZZ 7 [0] rfl rfl ?_
            refine o_store (j := 1) (vs := [.I a0.1, .I (a0.2.1.getD 0 0), .I (a0.2.1.getD 1 0), .I (a0.2.1.getD 2 0), .I (a0.2.1.getD 3 0), .I (a0.2.1.getD 4 0), .I (a0.2.1.getD 5 0), v1, v2, .string s55.1, .string s55.2]) (cs' := [.I a0.1, .I (a0.2.1.getD 0 0), .I (a0.2.1.getD 1 0), .I (a0.2.1.getD 2 0), .I (a0.2.1.getD 3 0), .I (a0.2.1.getD 4 0), .I (a0.2.1.getD 5 0), v1, v2, .string s55.1, .string s55.2]) rfl rfl rfl z_size36 rfl rfl rfl (ones_cons rfl (ones_cons rfl (ones_cons rfl (ones_cons rfl (ones_cons rfl (ones_cons rfl (ones_cons rfl (ones_cons (hs3.up (((hl13.trans hl32).trans hl54).trans hl55)).one' (ones_cons (hs4.up (((hl13.trans hl32).trans hl54).trans hl55)).one' (ones_cons rfl (ones_cons rfl ones_nil))))))))))) rfl rfl rfl ?_
            refine Z 3 rfl ?_
            obtain rfl := Eq.symm h
            exact st_retC (gs' := []) [.agg #[.I a0.1, .I (a0.2.1.getD 0 0), .I (a0.2.1.getD 1 0), .I (a0.2.1.getD 2 0), .I (a0.2.1.getD 3 0), .I (a0.2.1.getD 4 0), .I (a0.2.1.getD 5 0), v1, v2, .string s55.1, .string s55.2], .I (IntKind.i64.wrap (r10.2.1 + (IntKind.i64.wrap r10.1))), .I 0] Tryz.func85 ⟨⟨_, _, _, _, rfl, mem_flat 1 rfl, fun w hw => cellOfN (vs := [.I a0.1, .I (a0.2.1.getD 0 0), .I (a0.2.1.getD 1 0), .I (a0.2.1.getD 2 0), .I (a0.2.1.getD 3 0), .I (a0.2.1.getD 4 0), .I (a0.2.1.getD 5 0), v1, v2, .string s55.1, .string s55.2]) z_agg36 rfl w hw⟩, rfl, rfl, trivial⟩ (by simp) (((hl13.trans hl32).trans hl54).trans hl55) ⟨_, _, rfl, rfl, (hs3.up (((hl13.trans hl32).trans hl54).trans hl55)), (hs4.up (((hl13.trans hl32).trans hl54).trans hl55))⟩
           refine ZZ 6 [1] rfl rfl ?_
           refine st_if rfl h (fun h => ?_) (fun h => ?_)
           ·refine ZZ 5 [0] rfl rfl ?_
            refine st_ord [0, 1] _ rfl ?_
            exact hk55 _ _ _ ⟨((bstr ((a2.drop r10.2.1.toNat).take (((IntKind.i64.wrap (r10.2.1 + (IntKind.i64.wrap r10.1))) : Int) - r10.2.1).toNat)), a0.t4.2), h, (Sto.Le.refl _), rfl, rfl⟩
           ·refine ZZ 5 [0] rfl rfl ?_
            refine st_ord [0, 1] _ rfl ?_
            exact hk55 _ _ _ ⟨(a0.t4.1, (bstr ((a2.drop r10.2.1.toNat).take (((IntKind.i64.wrap (r10.2.1 + (IntKind.i64.wrap r10.1))) : Int) - r10.2.1).toNat))), h, (Sto.Le.refl _), rfl, rfl⟩
          refine Z 4 rfl ?_
          obtain ⟨e56, hL56, hA56⟩ := h
          refine st_loop hL56 (fun (s56 : Int) ρ τ56 gs => τ32.Le τ56 ∧ ESub ρ [(3, .I a3), (4, .Pb b7), (5, .Pb b8), (8, .Pb b9), (9, .I 0), (10, .I 0), (11, .int .u64 r10.1), (12, .I r10.2.1), (14, .string (bstr ((a2.drop r10.2.1.toNat).take (((IntKind.i64.wrap (r10.2.1 + (IntKind.i64.wrap r10.1))) : Int) - r10.2.1).toNat))), (15, .I s56)] ∧ gs = [[(b7, .cells (lM a0 v1 v2).toArray 36 (0, 0))], [(b8, .cells (lA a1).toArray 98 (0, 0))], [(b9, .cells lY.toArray 36 (0, 0))]]) ⟨Sto.Le.refl _, rfl, rfl⟩ ?_
          rintro s56 o56 h he56 ρ56 τ56 gs56 ⟨hl56, hρ, rfl⟩ hn56
          refine st_es hρ ?_
          refine Z 8 rfl ?_
          refine st_if rfl h (fun h => ?_) (fun h => ?_)
          ·refine Z 4 rfl ?_
           refine st_cut (fun ρ τ57 gs => ∃ (s57 : Bool), ref18_field_j6 a0 a3 s56 s57 o56 ∧ τ56.Le τ57 ∧ ESub ρ [(3, .I a3), (4, .Pb b7), (5, .Pb b8), (8, .Pb b9), (9, .I 0), (10, .I 0), (11, .int .u64 r10.1), (12, .I r10.2.1), (14, .string (bstr ((a2.drop r10.2.1.toNat).take (((IntKind.i64.wrap (r10.2.1 + (IntKind.i64.wrap r10.1))) : Int) - r10.2.1).toNat))), (15, .I s56), (141, .bool s57)] ∧ gs = [[(b7, .cells (lM a0 v1 v2).toArray 36 (0, 0))], [(b8, .cells (lA a1).toArray 98 (0, 0))], [(b9, .cells lY.toArray 36 (0, 0))]]) ?_ (fun hk57 => ?_)
           ·rintro ρ57 τ57 gs57 ⟨s57, h, hl57, hρ, rfl⟩
            refine st_es hρ ?_
            refine st_if rfl h (fun h => ?_) (fun h => ?_)
            ·refine ZZ 4 [0] rfl rfl ?_
             refine o_store (j := 2) (vs := (lM a0 v1 v2)) (cs' := (lM a0 v1 v2)) rfl rfl rfl z_size36 rfl rfl rfl (ones_cons rfl (ones_cons rfl (ones_cons rfl (ones_cons rfl (ones_cons rfl (ones_cons rfl (ones_cons rfl (ones_cons (hs3.up (((hl13.trans hl32).trans hl56).trans hl57)).one' (ones_cons (hs4.up (((hl13.trans hl32).trans hl56).trans hl57)).one' (ones_cons rfl (ones_cons rfl ones_nil))))))))))) rfl rfl rfl ?_
             refine Z 3 rfl ?_
             obtain rfl := he56 _ h
             replace h := hA56
             obtain rfl := Eq.symm h
             exact st_retC (gs' := []) [.agg (lM a0 v1 v2).toArray, .I a3, .I 19] Tryz.func85 ⟨⟨_, _, _, _, rfl, mem_flat 2 rfl, fun w hw => cellOfN (vs := (lM a0 v1 v2)) z_agg36 rfl w hw⟩, rfl, rfl, trivial⟩ (by simp) (((hl13.trans hl32).trans hl56).trans hl57) ⟨_, _, rfl, rfl, (hs3.up (((hl13.trans hl32).trans hl56).trans hl57)), (hs4.up (((hl13.trans hl32).trans hl56).trans hl57))⟩
            ·refine Z 7 rfl ?_
             exact hn56 _ _ _ _ h ⟨(hl56.trans hl57), rfl, rfl⟩
           refine Z 3 rfl ?_
           obtain ⟨q58, hf59, h⟩ := h
           refine o_indexS rfl rfl rfl Tryz.underlying9 rfl rfl hf59 ?_
           refine o_ibin (v := .bool (decide (q58 < 32))) rfl rfl rfl rfl rfl rfl ?_
           refine o_mif rfl rfl rfl rfl h (fun h => ?_) (fun h => ?_)
           ·refine Z 6 rfl ?_
            exact hk57 _ _ _ ⟨true, h, (Sto.Le.refl _), rfl, rfl⟩
           ·refine Z 2 rfl ?_
            obtain ⟨q60, hf61, h⟩ := h
            refine o_indexS rfl rfl rfl Tryz.underlying9 rfl rfl hf61 ?_
            refine Z 3 rfl ?_
            exact hk57 _ _ _ ⟨(decide (126 < q60)), h, (Sto.Le.refl _), rfl, rfl⟩
          ·refine st_exit rfl ?_
           obtain rfl := he56 _ h
           replace h := hA56
           exact hk54 _ _ _ ⟨(), h, hl56, rfl, rfl⟩
    refine Z 3 rfl ?_
    refine o_mif rfl rfl rfl rfl h (fun h => ?_) (fun h => ?_)
    ·refine ZZ 5 [1] rfl rfl ?_
     refine st_ord [2, 1, 0] _ rfl ?_
     exact hk32 _ _ _ ⟨(decide (0 < a1.2.2.2.1)), h, (Sto.Le.refl _), rfl, rfl⟩
    ·refine Z 5 rfl ?_
     refine st_ord [2, 1, 0] _ rfl ?_
     exact hk32 _ _ _ ⟨false, h, (Sto.Le.refl _), rfl, rfl⟩
theorem ref17_Project_ok {a0 : TyR} {a1 : Int} {v1 : Value} {v2 : Value} {r : (TyR)} (h : ref17_Project a0 a1 r) (σ : Sto) (hs3 : Sl (kA .i64 2) σ v1 a0.2.2.1) (hs4 : Sl (kI .i64) σ v2 a0.2.2.2.1) :
    Does Tryz.prog 86 [.agg (lM a0 v1 v2).toArray, .I a1] σ [] (fun v τ gs => ∃ (v53 : Value) (v54 : Value), gs = [] ∧ .agg (lM r v53 v54).toArray = v ∧ Sl (kA .i64 2) τ v53 r.2.2.1 ∧ Sl (kI .i64) τ v54 r.2.2.2.1) := by
 refine call_of Tryz.func86 Tryz.ntmps86 rfl rfl (fun cs fs => ?_)
 refine Z 2 rfl ?_
 refine o_box (cs := (lM a0 v1 v2)) rfl rfl rfl rfl rfl (fun b5 => ?_)
 refine o_alloc rfl rfl rfl z_zero36 (fun b6 => ?_)
 refine Z 7 rfl ?_
 refine st_if rfl h (fun h => ?_) (fun h => ?_)
 ·refine ZZ 3 [1] rfl rfl ?_
  refine o_store (j := 0) (vs := (lM a0 v1 v2)) (cs' := (lM a0 v1 v2)) rfl rfl rfl z_size36 rfl rfl rfl (ones_cons rfl (ones_cons rfl (ones_cons rfl (ones_cons rfl (ones_cons rfl (ones_cons rfl (ones_cons rfl (ones_cons hs3.one' (ones_cons hs4.one' (ones_cons rfl (ones_cons rfl ones_nil))))))))))) rfl rfl rfl ?_
  refine st_end ?_
  obtain rfl := Eq.symm h
  exact st_retC (gs' := []) [.agg (lM a0 v1 v2).toArray] Tryz.func86 ⟨⟨_, _, _, _, rfl, mem_flat 0 rfl, fun w hw => cellOfN (vs := (lM a0 v1 v2)) z_agg36 rfl w hw⟩, trivial⟩ (by simp) (Sto.Le.refl _) ⟨_, _, rfl, rfl, hs3, hs4⟩
 ·refine ZZ 5 [1] rfl rfl ?_
  obtain ⟨r7, hr8, h⟩ := h
  refine st_call (foot := []) rfl rfl rfl rfl rfl rfl (callV_fn z_en45 (ref16_All_ok hr8 σ)) ?_
  rintro vτ9 τ9 gsτ9 hl10 ⟨v11, rfl, rfl, hs12⟩
  refine Z 3 rfl ?_
  refine st_cut (fun ρ τ13 gs => ∃ (s13 : Int × Int × Int × Int × Int × Int × ByteArray), ref17_Project_j1 a0 s13 r ∧ τ9.Le τ13 ∧ ESub ρ [(2, .Pb b5), (4, .Pb b6)] ∧ gs = [[(b5, .cells #[.I a0.1, .I s13.1, .I s13.2.1, .I s13.2.2.1, .I s13.2.2.2.1, .I s13.t4.1, .I s13.t4.2.1, v1, v2, .string a0.t4.1, .string s13.t4.2.2] 36 (0, 0))], [(b6, .cells lY.toArray 36 (0, 0))]]) ?_ (fun hk13 => ?_)
  ·rintro ρ13 τ13 gs13 ⟨s13, h, hl13, hρ, rfl⟩
   refine st_es hρ ?_
   refine ZZ 3 [0] rfl rfl ?_
   refine o_store (j := 1) (vs := [.I a0.1, .I s13.1, .I s13.2.1, .I s13.2.2.1, .I s13.2.2.2.1, .I s13.t4.1, .I s13.t4.2.1, v1, v2, .string a0.t4.1, .string s13.t4.2.2]) (cs' := [.I a0.1, .I s13.1, .I s13.2.1, .I s13.2.2.1, .I s13.2.2.2.1, .I s13.t4.1, .I s13.t4.2.1, v1, v2, .string a0.t4.1, .string s13.t4.2.2]) rfl rfl rfl z_size36 rfl rfl rfl (ones_cons rfl (ones_cons rfl (ones_cons rfl (ones_cons rfl (ones_cons rfl (ones_cons rfl (ones_cons rfl (ones_cons (hs3.up (hl10.trans hl13)).one' (ones_cons (hs4.up (hl10.trans hl13)).one' (ones_cons rfl (ones_cons rfl ones_nil))))))))))) rfl rfl rfl ?_
   refine st_end ?_
   obtain rfl := Eq.symm h
   exact st_retC (gs' := []) [.agg #[.I a0.1, .I s13.1, .I s13.2.1, .I s13.2.2.1, .I s13.2.2.2.1, .I s13.t4.1, .I s13.t4.2.1, v1, v2, .string a0.t4.1, .string s13.t4.2.2]] Tryz.func86 ⟨⟨_, _, _, _, rfl, mem_flat 1 rfl, fun w hw => cellOfN (vs := [.I a0.1, .I s13.1, .I s13.2.1, .I s13.2.2.1, .I s13.2.2.2.1, .I s13.t4.1, .I s13.t4.2.1, v1, v2, .string a0.t4.1, .string s13.t4.2.2]) z_agg36 rfl w hw⟩, trivial⟩ (by simp) (hl10.trans hl13) ⟨_, _, rfl, rfl, (hs3.up (hl10.trans hl13)), (hs4.up (hl10.trans hl13))⟩
  refine Z 4 rfl ?_
  obtain ⟨e14, hL14, hA14⟩ := h
  refine st_ord [1, 0] _ rfl ?_
  refine st_loop hL14 (fun (s14 : Int × Int × Int × Int × Int × Int × Int × ByteArray) ρ τ14 gs => τ9.Le τ14 ∧ ESub ρ [(2, .Pb b5), (4, .Pb b6), (5, v11), (6, .I s14.1)] ∧ gs = [[(b5, .cells #[.I a0.1, .I s14.2.1, .I s14.2.2.1, .I s14.2.2.2.1, .I s14.t4.1, .I s14.t4.2.1, .I s14.t4.2.2.1, v1, v2, .string a0.t4.1, .string s14.t4.2.2.2] 36 (0, 0))], [(b6, .cells lY.toArray 36 (0, 0))]]) ⟨Sto.Le.refl _, rfl, rfl⟩ ?_
  rintro s14 o14 h he14 ρ14 τ14 gs14 ⟨hl14, hρ, rfl⟩ hn14
  refine st_es hρ ?_
  refine Z 5 rfl ?_
  refine o_lenI rfl rfl rfl z_slT94 rfl (hs12.up hl14) ?_
  refine Z 2 rfl ?_
  refine st_if rfl h (fun h => ?_) (fun h => ?_)
  ·refine Z 2 rfl ?_
   refine st_cut (fun ρ τ15 gs => ∃ (s15 : Int × Int × Int × Int × Int × Int × ByteArray), ref17_Project_j3 s14 s15 o14 ∧ τ14.Le τ15 ∧ ESub ρ [(2, .Pb b5), (4, .Pb b6), (5, v11), (6, .I s14.1)] ∧ gs = [[(b5, .cells #[.I a0.1, .I s15.1, .I s15.2.1, .I s15.2.2.1, .I s15.2.2.2.1, .I s15.t4.1, .I s15.t4.2.1, v1, v2, .string a0.t4.1, .string s15.t4.2.2] 36 (0, 0))], [(b6, .cells lY.toArray 36 (0, 0))]]) ?_ (fun hk15 => ?_)
   ·rintro ρ15 τ15 gs15 ⟨s15, h, hl15, hρ, rfl⟩
    refine st_es hρ ?_
    refine Z 5 rfl ?_
    exact hn14 _ _ _ _ h ⟨(hl14.trans hl15), rfl, rfl⟩
   refine Z 2 rfl ?_
   refine st_cut (fun ρ τ16 gs => ∃ (s16 : ByteArray), ref17_Project_j4 r7 s14 s16 o14 ∧ τ14.Le τ16 ∧ ESub ρ [(2, .Pb b5), (4, .Pb b6), (5, v11), (6, .I s14.1)] ∧ gs = [[(b5, .cells #[.I a0.1, .I s14.2.1, .I s14.2.2.1, .I s14.2.2.2.1, .I s14.t4.1, .I s14.t4.2.1, .I s14.t4.2.2.1, v1, v2, .string a0.t4.1, .string s16] 36 (0, 0))], [(b6, .cells lY.toArray 36 (0, 0))]]) ?_ (fun hk16 => ?_)
   ·rintro ρ16 τ16 gs16 ⟨s16, h, hl16, hρ, rfl⟩
    refine st_es hρ ?_
    refine st_seq ?_
    refine st_cut (fun ρ τ17 gs => ∃ (s17 : Bool), ref17_Project_j5 r7 s14 s16 s17 o14 ∧ τ16.Le τ17 ∧ ESub ρ [(2, .Pb b5), (4, .Pb b6), (5, v11), (6, .I s14.1), (47, .bool s17)] ∧ gs = [[(b5, .cells #[.I a0.1, .I s14.2.1, .I s14.2.2.1, .I s14.2.2.2.1, .I s14.t4.1, .I s14.t4.2.1, .I s14.t4.2.2.1, v1, v2, .string a0.t4.1, .string s16] 36 (0, 0))], [(b6, .cells lY.toArray 36 (0, 0))]]) ?_ (fun hk17 => ?_)
    ·rintro ρ17 τ17 gs17 ⟨s17, h, hl17, hρ, rfl⟩
     refine st_es hρ ?_
     refine st_if rfl h (fun h => ?_) (fun h => ?_)
     ·obtain ⟨q18, hf19, q23, hf24, hf28, hf29, h⟩ := h
      refine st_ord [1, 0] _ rfl ?_
      refine st_d41 [[(b6, .cells lY.toArray 36 (0, 0))]] [[(b5, .cells #[.I a0.1, .I s14.2.1, .I s14.2.2.1, .I s14.2.2.2.1, .I s14.t4.1, .I s14.t4.2.1, .I s14.t4.2.2.1, v1, v2, .string a0.t4.1, .string s16] 36 (0, 0))]] 13 1 [none, none, none, none, none, none, none, none, none, none, none, none, some (0, 0)] [none, none, none, none, none, none, none, none, none, none, none, none, none] [[none, none]] [.v (v11), .v (.I s14.1), .t fun τ v => ∃ (b20 : Nat) (of21 : Nat) (vsb20 : List Value), (.pointer (some ⟨b20, of21, none⟩) : Value) = v ∧ CelN τ ⟨b20, of21, none⟩ vsb20 ∧ (kP kS (kP (kI .i64) (kP (kI .i64) (kP (kI .i64) (kP (kI .i64) (kP (kI .i64) (kI .i64))))))).rep τ vsb20 q18, .t fun τ v => ∃ (b20 : Nat) (of21 : Nat) (vsb20 : List Value), (.pointer (some ⟨b20, of21 + 2, none⟩) : Value) = v ∧ CelN τ ⟨b20, of21, none⟩ vsb20 ∧ (kP kS (kP (kI .i64) (kP (kI .i64) (kP (kI .i64) (kP (kI .i64) (kP (kI .i64) (kI .i64))))))).rep τ vsb20 q18, .v (.I q18.2.2.1), .v (v11), .v (.I s14.1), .t fun τ v => ∃ (b25 : Nat) (of26 : Nat) (vsb25 : List Value), (.pointer (some ⟨b25, of26, none⟩) : Value) = v ∧ CelN τ ⟨b25, of26, none⟩ vsb25 ∧ (kP kS (kP (kI .i64) (kP (kI .i64) (kP (kI .i64) (kP (kI .i64) (kP (kI .i64) (kI .i64))))))).rep τ vsb25 q23, .t fun τ v => ∃ (b25 : Nat) (of26 : Nat) (vsb25 : List Value), (.pointer (some ⟨b25, of26 + 6, none⟩) : Value) = v ∧ CelN τ ⟨b25, of26, none⟩ vsb25 ∧ (kP kS (kP (kI .i64) (kP (kI .i64) (kP (kI .i64) (kP (kI .i64) (kP (kI .i64) (kI .i64))))))).rep τ vsb25 q23, .v (.I q23.t4.2.2), .v (.pointer (some ⟨b5, 1, none⟩)), .v (.pointer (some ⟨b5, 1 + q18.2.2.1.toNat * 1, none⟩)), .t fun _ _ => True] [[fun τ u F => F = [[(b5, .cells #[.I a0.1, .I s14.2.1, .I s14.2.2.1, .I s14.2.2.2.1, .I s14.t4.1, .I s14.t4.2.1, .I s14.t4.2.2.1, v1, v2, .string a0.t4.1, .string s16] 36 (0, 0))]], fun τ u F => F = [[(b5, .cells #[.I a0.1, .I ((putN 6 0 [s14.2.1, s14.2.2.1, s14.2.2.2.1, s14.t4.1, s14.t4.2.1, s14.t4.2.2.1] q18.2.2.1.toNat q23.t4.2.2).getD 0 0), .I ((putN 6 0 [s14.2.1, s14.2.2.1, s14.2.2.2.1, s14.t4.1, s14.t4.2.1, s14.t4.2.2.1] q18.2.2.1.toNat q23.t4.2.2).getD 1 0), .I ((putN 6 0 [s14.2.1, s14.2.2.1, s14.2.2.2.1, s14.t4.1, s14.t4.2.1, s14.t4.2.2.1] q18.2.2.1.toNat q23.t4.2.2).getD 2 0), .I ((putN 6 0 [s14.2.1, s14.2.2.1, s14.2.2.2.1, s14.t4.1, s14.t4.2.1, s14.t4.2.2.1] q18.2.2.1.toNat q23.t4.2.2).getD 3 0), .I ((putN 6 0 [s14.2.1, s14.2.2.1, s14.2.2.2.1, s14.t4.1, s14.t4.2.1, s14.t4.2.2.1] q18.2.2.1.toNat q23.t4.2.2).getD 4 0), .I ((putN 6 0 [s14.2.1, s14.2.2.1, s14.2.2.2.1, s14.t4.1, s14.t4.2.1, s14.t4.2.2.1] q18.2.2.1.toNat q23.t4.2.2).getD 5 0), v1, v2, .string a0.t4.1, .string s16] 36 (0, 0))]]]] rfl z_mix rfl ⟨fun _ _ _ hl ⟨b20, of21, vsb20, hv, hc22, hrepb20⟩ => ⟨b20, of21, vsb20, hv, hc22.up hl, Kd.mono _ hl hrepb20⟩, ⟨fun _ _ _ hl ⟨b20, of21, vsb20, hv, hc22, hrepb20⟩ => ⟨b20, of21, vsb20, hv, hc22.up hl, Kd.mono _ hl hrepb20⟩, ⟨fun _ _ _ hl ⟨b25, of26, vsb25, hv, hc27, hrepb25⟩ => ⟨b25, of26, vsb25, hv, hc27.up hl, Kd.mono _ hl hrepb25⟩, ⟨fun _ _ _ hl ⟨b25, of26, vsb25, hv, hc27, hrepb25⟩ => ⟨b25, of26, vsb25, hv, hc27.up hl, Kd.mono _ hl hrepb25⟩, ⟨fun _ _ _ _ _ => trivial, trivial⟩⟩⟩⟩⟩ ⟨⟨fun _ _ _ _ hl h => h, ⟨fun _ _ _ _ hl h => h, trivial⟩⟩, trivial⟩ rfl rfl ?_ (allB_cons (allB_cons (allB_cons (allB_cons (allB_cons (allB_cons (allB_cons (allB_cons (allB_cons (allB_cons (allB_cons (allB_cons (allB_cons allB_nil (p4 dA)) (p4 dA)) ?_) ?_) ?_) (p4 dA)) (p4 dA)) ?_) ?_) ?_) (p4 dA)) ?_) ?_) ?_
      ·exact rfl
      ·intro ρ' τ pool rs hl hd hout hw hk
       obtain ⟨_, e0, rfl⟩ := hd 0 rfl _ rfl
       obtain ⟨_, e1, rfl⟩ := hd 1 rfl _ rfl
       refine o_index rfl rfl rfl z_slT94 rfl e0 (hs12.up (((hl14.trans hl16).trans hl17).trans hl)) e1 hf19 (fun b20 of21 vsb20 hc22 hrepb20 => ?_)
       exact hk _ _ (Sto.Le.refl _) ⟨b20, of21, _, rfl, hc22, hrepb20⟩
      ·intro ρ' τ pool rs hl hd hout hw hk
       obtain ⟨_, e2, b20, of21, vsb20, rfl, hc22, hrepb20⟩ := hd 2 rfl _ rfl
       have hrepb20 := hrepb20
       obtain ⟨_, _, rfl, rfl, ⟨_, _, rfl, rfl, ⟨_, _, rfl, rfl, ⟨_, _, rfl, rfl, ⟨_, _, rfl, rfl, ⟨_, _, rfl, rfl, rfl⟩⟩⟩⟩⟩⟩ := hrepb20
       refine o_fieldAddr rfl rfl rfl z_field98_2 e2 ?_
       exact hk _ _ (Sto.Le.refl _) ⟨b20, of21, _, rfl, hc22, hrepb20⟩
      ·intro ρ' τ pool rs hl hd hout hw hk
       obtain ⟨_, e3, b20, of21, vsb20, rfl, hc22, hrepb20⟩ := hd 3 rfl _ rfl
       have hrepb20 := hrepb20
       obtain ⟨_, _, rfl, rfl, ⟨_, _, rfl, rfl, ⟨_, _, rfl, rfl, ⟨_, _, rfl, rfl, ⟨_, _, rfl, rfl, ⟨_, _, rfl, rfl, rfl⟩⟩⟩⟩⟩⟩ := hrepb20
       refine o_loadI (v := .I q18.2.2.1) rfl rfl rfl z_sc3 e3 (hc22 2 _ rfl) ?_
       exact hk _ _ (Sto.Le.refl _) rfl
      ·intro ρ' τ pool rs hl hd hout hw hk
       obtain ⟨_, e5, rfl⟩ := hd 5 rfl _ rfl
       obtain ⟨_, e6, rfl⟩ := hd 6 rfl _ rfl
       refine o_index rfl rfl rfl z_slT94 rfl e5 (hs12.up (((hl14.trans hl16).trans hl17).trans hl)) e6 hf24 (fun b25 of26 vsb25 hc27 hrepb25 => ?_)
       exact hk _ _ (Sto.Le.refl _) ⟨b25, of26, _, rfl, hc27, hrepb25⟩
      ·intro ρ' τ pool rs hl hd hout hw hk
       obtain ⟨_, e7, b25, of26, vsb25, rfl, hc27, hrepb25⟩ := hd 7 rfl _ rfl
       have hrepb25 := hrepb25
       obtain ⟨_, _, rfl, rfl, ⟨_, _, rfl, rfl, ⟨_, _, rfl, rfl, ⟨_, _, rfl, rfl, ⟨_, _, rfl, rfl, ⟨_, _, rfl, rfl, rfl⟩⟩⟩⟩⟩⟩ := hrepb25
       refine o_fieldAddr rfl rfl rfl z_field98_6 e7 ?_
       exact hk _ _ (Sto.Le.refl _) ⟨b25, of26, _, rfl, hc27, hrepb25⟩
      ·intro ρ' τ pool rs hl hd hout hw hk
       obtain ⟨_, e8, b25, of26, vsb25, rfl, hc27, hrepb25⟩ := hd 8 rfl _ rfl
       have hrepb25 := hrepb25
       obtain ⟨_, _, rfl, rfl, ⟨_, _, rfl, rfl, ⟨_, _, rfl, rfl, ⟨_, _, rfl, rfl, ⟨_, _, rfl, rfl, ⟨_, _, rfl, rfl, rfl⟩⟩⟩⟩⟩⟩ := hrepb25
       refine o_loadI (v := .I q23.t4.2.2) rfl rfl rfl z_sc3 e8 (hc27 6 _ rfl) ?_
       exact hk _ _ (Sto.Le.refl _) rfl
      ·intro ρ' τ pool rs hl hd hout hw hk
       obtain ⟨_, e4, rfl⟩ := hd 4 rfl _ rfl
       obtain ⟨_, e10, rfl⟩ := hd 10 rfl _ rfl
       refine o_indexA rfl rfl rfl z_arr26 e10 e4 hf28 hf29 ?_
       exact hk _ _ (Sto.Le.refl _) rfl
      ·intro ρ' τ u Fv pool rs hl hI hu hd hout hw hk
       obtain ⟨_, e9, rfl⟩ := hd 9 rfl _ rfl
       obtain ⟨_, e11, rfl⟩ := hd 11 rfl _ rfl
       have hI0 := hI
       obtain rfl := hI
       refine o_storeV (j := 1) (q18.2.2.1.toNat) (f := (Value.int .i64)) (zz := 0) (a := q23.t4.2.2) (l := 6) (xs := [s14.2.1, s14.2.2.1, s14.2.2.2.1, s14.t4.1, s14.t4.2.1, s14.t4.2.2.1]) [.I a0.1] [v1, v2, .string a0.t4.1, .string s16] rfl rfl rfl z_size3 e11 e9 rfl rfl rfl (by simp only [List.length_cons, List.length_nil] <;> omega) (by omega) ?_
       exact hk _ _ [[(b5, .cells #[.I a0.1, .I ((putN 6 0 [s14.2.1, s14.2.2.1, s14.2.2.2.1, s14.t4.1, s14.t4.2.1, s14.t4.2.2.1] q18.2.2.1.toNat q23.t4.2.2).getD 0 0), .I ((putN 6 0 [s14.2.1, s14.2.2.1, s14.2.2.2.1, s14.t4.1, s14.t4.2.1, s14.t4.2.2.1] q18.2.2.1.toNat q23.t4.2.2).getD 1 0), .I ((putN 6 0 [s14.2.1, s14.2.2.1, s14.2.2.2.1, s14.t4.1, s14.t4.2.1, s14.t4.2.2.1] q18.2.2.1.toNat q23.t4.2.2).getD 2 0), .I ((putN 6 0 [s14.2.1, s14.2.2.1, s14.2.2.2.1, s14.t4.1, s14.t4.2.1, s14.t4.2.2.1] q18.2.2.1.toNat q23.t4.2.2).getD 3 0), .I ((putN 6 0 [s14.2.1, s14.2.2.1, s14.2.2.2.1, s14.t4.1, s14.t4.2.1, s14.t4.2.2.1] q18.2.2.1.toNat q23.t4.2.2).getD 4 0), .I ((putN 6 0 [s14.2.1, s14.2.2.1, s14.2.2.2.1, s14.t4.1, s14.t4.2.1, s14.t4.2.2.1] q18.2.2.1.toNat q23.t4.2.2).getD 5 0), v1, v2, .string a0.t4.1, .string s16] 36 (0, 0))]] (Sto.Le.refl _) trivial (by exact rfl)
      intro ρ' τ30 vals u Fv hl30 hI hu hv hout
      obtain rfl := hI
      refine st_env (ρ' := [(2, .Pb b5), (4, .Pb b6), (5, v11), (6, .I s14.1)]) ⟨(hout 2 rfl).trans rfl, (hout 4 rfl).trans rfl, (hout 5 rfl).trans rfl, (hout 6 rfl).trans rfl, trivial⟩ ?_
      refine Z 2 rfl ?_
      refine st_ord [1, 0] _ rfl ?_
      exact hk15 _ _ _ ⟨(((putN 6 0 [s14.2.1, s14.2.2.1, s14.2.2.2.1, s14.t4.1, s14.t4.2.1, s14.t4.2.2.1] q18.2.2.1.toNat q23.t4.2.2).getD 0 0), ((putN 6 0 [s14.2.1, s14.2.2.1, s14.2.2.2.1, s14.t4.1, s14.t4.2.1, s14.t4.2.2.1] q18.2.2.1.toNat q23.t4.2.2).getD 1 0), ((putN 6 0 [s14.2.1, s14.2.2.1, s14.2.2.2.1, s14.t4.1, s14.t4.2.1, s14.t4.2.2.1] q18.2.2.1.toNat q23.t4.2.2).getD 2 0), ((putN 6 0 [s14.2.1, s14.2.2.1, s14.2.2.2.1, s14.t4.1, s14.t4.2.1, s14.t4.2.2.1] q18.2.2.1.toNat q23.t4.2.2).getD 3 0), ((putN 6 0 [s14.2.1, s14.2.2.1, s14.2.2.2.1, s14.t4.1, s14.t4.2.1, s14.t4.2.2.1] q18.2.2.1.toNat q23.t4.2.2).getD 4 0), ((putN 6 0 [s14.2.1, s14.2.2.1, s14.2.2.2.1, s14.t4.1, s14.t4.2.1, s14.t4.2.2.1] q18.2.2.1.toNat q23.t4.2.2).getD 5 0), s16), h, ((hl16.trans hl17).trans hl30), rfl, rfl⟩
     ·refine Z 2 rfl ?_
      exact hk15 _ _ _ ⟨(s14.2.1, s14.2.2.1, s14.2.2.2.1, s14.t4.1, s14.t4.2.1, s14.t4.2.2.1, s16), h, (hl16.trans hl17), rfl, rfl⟩
    refine Z 3 rfl ?_
    obtain ⟨q31, hf32, h⟩ := h
    refine o_index rfl rfl rfl z_slT94 rfl rfl (hs12.up (hl14.trans hl16)) rfl hf32 (fun b33 of34 vs hc35 hrep => ?_)
    obtain ⟨_, _, rfl, rfl, ⟨_, _, rfl, rfl, ⟨_, _, rfl, rfl, ⟨_, _, rfl, rfl, ⟨_, _, rfl, rfl, ⟨_, _, rfl, rfl, rfl⟩⟩⟩⟩⟩⟩ := hrep
    refine o_fieldAddr rfl rfl rfl z_field98_5 rfl ?_
    refine o_loadI (v := .I q31.t4.2.1) rfl rfl rfl z_sc3 rfl (hc35 5 _ rfl) ?_
    refine o_ibin (v := .bool (decide (q31.t4.2.1 = 2))) rfl rfl rfl rfl rfl rfl ?_
    refine o_mif rfl rfl rfl rfl h (fun h => ?_) (fun h => ?_)
    ·refine Z 2 rfl ?_
     obtain ⟨q36, hf37, h⟩ := h
     refine o_index rfl rfl rfl z_slT94 rfl rfl (hs12.up (hl14.trans hl16)) rfl hf37 (fun b38 of39 vs hc40 hrep => ?_)
     obtain ⟨_, _, rfl, rfl, ⟨_, _, rfl, rfl, ⟨_, _, rfl, rfl, ⟨_, _, rfl, rfl, ⟨_, _, rfl, rfl, ⟨_, _, rfl, rfl, rfl⟩⟩⟩⟩⟩⟩ := hrep
     refine o_fieldAddr rfl rfl rfl z_field98_2 rfl ?_
     refine o_loadI (v := .I q36.2.2.1) rfl rfl rfl z_sc3 rfl (hc40 2 _ rfl) ?_
     refine Z 3 rfl ?_
     exact hk17 _ _ _ ⟨(decide (0 ≤ q36.2.2.1)), h, (Sto.Le.refl _), rfl, rfl⟩
    ·refine Z 8 rfl ?_
     exact hk17 _ _ _ ⟨false, h, (Sto.Le.refl _), rfl, rfl⟩
   refine st_seq ?_
   refine st_cut (fun ρ τ41 gs => ∃ (s41 : Bool), ref17_Project_j6 r7 s14 s41 o14 ∧ τ14.Le τ41 ∧ ESub ρ [(2, .Pb b5), (4, .Pb b6), (5, v11), (6, .I s14.1), (32, .bool s41)] ∧ gs = [[(b5, .cells #[.I a0.1, .I s14.2.1, .I s14.2.2.1, .I s14.2.2.2.1, .I s14.t4.1, .I s14.t4.2.1, .I s14.t4.2.2.1, v1, v2, .string a0.t4.1, .string s14.t4.2.2.2] 36 (0, 0))], [(b6, .cells lY.toArray 36 (0, 0))]]) ?_ (fun hk41 => ?_)
   ·rintro ρ41 τ41 gs41 ⟨s41, h, hl41, hρ, rfl⟩
    refine st_es hρ ?_
    refine st_if rfl h (fun h => ?_) (fun h => ?_)
    ·refine Z 2 rfl ?_
     refine o_store (j := 0) (vs := [.E0]) (cs' := [.I a0.1, .I s14.2.1, .I s14.2.2.1, .I s14.2.2.2.1, .I s14.t4.1, .I s14.t4.2.1, .I s14.t4.2.2.1, v1, v2, .string a0.t4.1, .E0]) rfl rfl rfl z_size9 rfl (ev_str z_str19) rfl (ones_cons rfl ones_nil) rfl rfl rfl ?_
     refine st_end ?_
     exact hk16 _ _ _ ⟨(bstr []), h, hl41, rfl, rfl⟩
    ·refine st_skip ?_
     exact hk16 _ _ _ ⟨s14.t4.2.2.2, h, hl41, rfl, rfl⟩
   refine Z 3 rfl ?_
   obtain ⟨q42, hf43, h⟩ := h
   refine o_index rfl rfl rfl z_slT94 rfl rfl (hs12.up hl14) rfl hf43 (fun b44 of45 vs hc46 hrep => ?_)
   obtain ⟨_, _, rfl, rfl, ⟨_, _, rfl, rfl, ⟨_, _, rfl, rfl, ⟨_, _, rfl, rfl, ⟨_, _, rfl, rfl, ⟨_, _, rfl, rfl, rfl⟩⟩⟩⟩⟩⟩ := hrep
   refine o_fieldAddr rfl rfl rfl z_field98_5 rfl ?_
   refine o_loadI (v := .I q42.t4.2.1) rfl rfl rfl z_sc3 rfl (hc46 5 _ rfl) ?_
   refine o_ibin (v := .bool (decide (q42.t4.2.1 = 2))) rfl rfl rfl rfl rfl rfl ?_
   refine o_mif rfl rfl rfl rfl h (fun h => ?_) (fun h => ?_)
   ·refine Z 2 rfl ?_
    obtain ⟨q47, hf48, h⟩ := h
    refine o_index rfl rfl rfl z_slT94 rfl rfl (hs12.up hl14) rfl hf48 (fun b49 of50 vs hc51 hrep => ?_)
    obtain ⟨_, _, rfl, rfl, ⟨_, _, rfl, rfl, ⟨_, _, rfl, rfl, ⟨_, _, rfl, rfl, ⟨_, _, rfl, rfl, ⟨_, _, rfl, rfl, rfl⟩⟩⟩⟩⟩⟩ := hrep
    refine o_fieldAddr rfl rfl rfl z_field98_1 rfl ?_
    refine o_loadI (v := .I q47.2.1) rfl rfl rfl z_sc3 rfl (hc51 1 _ rfl) ?_
    refine Z 3 rfl ?_
    exact hk41 _ _ _ ⟨(decide (q47.2.1 = 6)), h, (Sto.Le.refl _), rfl, rfl⟩
   ·refine Z 8 rfl ?_
    exact hk41 _ _ _ ⟨false, h, (Sto.Le.refl _), rfl, rfl⟩
  ·refine st_exit rfl ?_
   obtain rfl := he14 _ h
   replace h := hA14
   exact hk13 _ _ _ ⟨(s14.2.1, s14.2.2.1, s14.2.2.2.1, s14.t4.1, s14.t4.2.1, s14.t4.2.2.1, s14.t4.2.2.2), h, hl14, rfl, rfl⟩
theorem ref18_Decode_ok {a0 : Int} {a1 : Int} {a2 : List Int} {v1 : Value} {r : (TyR) × Int} (h : ref18_Decode a0 a1 a2 r) (σ : Sto) (hs2 : Sl (kI .u8) σ v1 a2) :
    Does Tryz.prog 65 [.I a0, .I a1, v1] σ [] (fun v τ gs => ∃ (v63 : Value) (v64 : Value), gs = [] ∧ .tuple [.agg (lM r.1 v63 v64).toArray, .I r.2].toArray = v ∧ Sl (kA .i64 2) τ v63 r.1.2.2.1 ∧ Sl (kI .i64) τ v64 r.1.2.2.2.1) := by
 refine call_of Tryz.func65 Tryz.ntmps65 rfl rfl (fun cs fs => ?_)
 refine Z 2 rfl ?_
 refine o_alloc rfl rfl rfl z_zero36 (fun b3 => ?_)
 refine Z 4 rfl ?_
 refine st_cut (fun ρ τ4 gs => ∃ (s4 : Bool), ref18_Decode_j1 a0 a1 a2 s4 r ∧ σ.Le τ4 ∧ ESub ρ [(0, .I a0), (1, .I a1), (2, v1), (6, .Pb b3), (7, .I 0), (20, .bool s4)] ∧ gs = [[(b3, .cells lY.toArray 36 (0, 0))]]) ?_ (fun hk4 => ?_)
 ·rintro ρ4 τ4 gs4 ⟨s4, h, hl4, hρ, rfl⟩
  refine st_es hρ ?_
  refine st_if rfl h (fun h => ?_) (fun h => ?_)
  ·refine ZZ 6 [0] rfl rfl ?_
   obtain rfl := Eq.symm h
   exact st_retC (gs' := []) [.agg lY.toArray, .I 10] Tryz.func65 ⟨⟨_, _, _, _, rfl, mem_flat 0 rfl, fun w hw => cellOfN (vs := lY) z_agg36 rfl w hw⟩, rfl, trivial⟩ (by simp) hl4 ⟨_, _, rfl, rfl, Sl.nil, Sl.nil⟩
  ·refine Z 4 rfl ?_
   obtain ⟨r5, hr6, h⟩ := h
   refine st_call (foot := []) rfl rfl rfl rfl rfl rfl (callV_fn z_en45 (ref16_All_ok hr6 τ4)) ?_
   rintro vτ7 τ7 gsτ7 hl8 ⟨v9, rfl, rfl, hs10⟩
   refine Z 6 rfl ?_
   refine o_lenI rfl rfl rfl z_slT94 rfl hs10 ?_
   refine Z 2 rfl ?_
   refine st_if rfl h (fun h => ?_) (fun h => ?_)
   ·refine ZZ 6 [0] rfl rfl ?_
    obtain rfl := Eq.symm h
    exact st_retC (gs' := []) [.agg lY.toArray, .I 9] Tryz.func65 ⟨⟨_, _, _, _, rfl, mem_flat 0 rfl, fun w hw => cellOfN (vs := lY) z_agg36 rfl w hw⟩, rfl, trivial⟩ (by simp) (hl4.trans hl8) ⟨_, _, rfl, rfl, Sl.nil, Sl.nil⟩
   ·refine ZZ 5 [] rfl rfl ?_
    refine o_alloc rfl rfl rfl z_zero36 (fun b11 => ?_)
    refine ZZ 7 [0] rfl rfl ?_
    refine st_cut (fun ρ τ12 gs => ∃ (s12 : Int × Int × Int × Int × Int × Int × Int × Int × List (List Int) × List Int × ByteArray × ByteArray) (v13 : Value) (v15 : Value), ref18_Decode_j2 a1 a2 s12 r ∧ τ7.Le τ12 ∧ ESub ρ [(1, .I a1), (2, v1), (6, .Pb b3), (7, .I 0), (9, .Pb b11), (10, .I s12.1)] ∧ gs = [[(b3, .cells lY.toArray 36 (0, 0))], [(b11, .cells #[.I s12.2.1, .I s12.2.2.1, .I s12.2.2.2.1, .I s12.t4.1, .I s12.t4.2.1, .I s12.t4.2.2.1, .I s12.t4.2.2.2.1, v13, v15, .string s12.t4.t4.2.2.1, .string s12.t4.t4.2.2.2] 36 (0, 0))]] ∧ Sl (kA .i64 2) τ12 v13 s12.t4.t4.1 ∧ Sl (kI .i64) τ12 v15 s12.t4.t4.2.1) ?_ (fun hk12 => ?_)
    ·rintro ρ12 τ12 gs12 ⟨s12, v13, v15, h, hl12, hρ, rfl, hs14, hs16⟩
     refine st_es hρ ?_
     refine Z 5 rfl ?_
     refine o_lenI rfl rfl rfl z_slT42 rfl (hs2.up ((hl4.trans hl8).trans hl12)) ?_
     refine Z 2 rfl ?_
     refine st_if rfl h (fun h => ?_) (fun h => ?_)
     ·refine ZZ 6 [0] rfl rfl ?_
      obtain rfl := Eq.symm h
      exact st_retC (gs' := []) [.agg lY.toArray, .I 3] Tryz.func65 ⟨⟨_, _, _, _, rfl, mem_flat 0 rfl, fun w hw => cellOfN (vs := lY) z_agg36 rfl w hw⟩, rfl, trivial⟩ (by simp) ((hl4.trans hl8).trans hl12) ⟨_, _, rfl, rfl, Sl.nil, Sl.nil⟩
     ·refine ZZ 5 [1] rfl rfl ?_
      obtain ⟨r17, hr18, h⟩ := h
      refine st_call (foot := []) rfl rfl rfl rfl rfl rfl (callV_fn z_en86 (ref17_Project_ok hr18 τ12 hs14 hs16)) ?_
      rintro vτ19 τ19 gsτ19 hl20 ⟨v21, v22, rfl, rfl, hs23, hs24⟩
      refine o_store (j := 0) (vs := (lM r17 v21 v22)) (cs' := (lM r17 v21 v22)) rfl rfl rfl z_size36 rfl rfl rfl (ones_cons rfl (ones_cons rfl (ones_cons rfl (ones_cons rfl (ones_cons rfl (ones_cons rfl (ones_cons rfl (ones_cons hs23.one' (ones_cons hs24.one' (ones_cons rfl (ones_cons rfl ones_nil))))))))))) rfl rfl rfl ?_
      refine Z 2 rfl ?_
      obtain rfl := Eq.symm h
      exact st_retC (gs' := []) [.agg (lM r17 v21 v22).toArray, .I 0] Tryz.func65 ⟨⟨_, _, _, _, rfl, mem_flat 0 rfl, fun w hw => cellOfN (vs := (lM r17 v21 v22)) z_agg36 rfl w hw⟩, rfl, trivial⟩ (by simp) (((hl4.trans hl8).trans hl12).trans hl20) ⟨_, _, rfl, rfl, hs23, hs24⟩
    refine Z 4 rfl ?_
    obtain ⟨e25, hL25, hA25⟩ := h
    refine st_ord [1, 0] _ rfl ?_
    refine st_loop hL25 (fun (s25 : Int × Int × Int × Int × Int × Int × Int × Int × Int × List (List Int) × List Int × ByteArray × ByteArray) ρ τ25 gs => τ7.Le τ25 ∧ ∃ (v26 : Value) (v28 : Value), ESub ρ [(1, .I a1), (2, v1), (6, .Pb b3), (7, .I 0), (8, v9), (9, .Pb b11), (10, .I s25.1), (11, .I s25.2.1)] ∧ gs = [[(b3, .cells lY.toArray 36 (0, 0))], [(b11, .cells #[.I s25.2.2.1, .I s25.2.2.2.1, .I s25.t4.1, .I s25.t4.2.1, .I s25.t4.2.2.1, .I s25.t4.2.2.2.1, .I s25.t4.t4.1, v26, v28, .string s25.t4.t4.2.2.2.1, .string s25.t4.t4.t4] 36 (0, 0))]] ∧ Sl (kA .i64 2) τ25 v26 s25.t4.t4.2.1 ∧ Sl (kI .i64) τ25 v28 s25.t4.t4.2.2.1) ⟨Sto.Le.refl _, _, _, rfl, rfl, Sl.nil, Sl.nil⟩ ?_
    rintro s25 o25 h he25 ρ25 τ25 gs25 ⟨hl25, v26, v28, hρ, rfl, hs27, hs29⟩ hn25
    refine st_es hρ ?_
    refine Z 5 rfl ?_
    refine o_lenI rfl rfl rfl z_slT94 rfl (hs10.up hl25) ?_
    refine Z 2 rfl ?_
    refine st_if rfl h (fun h => ?_) (fun h => ?_)
    ·refine Z 2 rfl ?_
     refine st_cut (fun ρ τ30 gs => ∃ (s30 : Int × Int × Int × Int × Int × Int × Int × Int × List (List Int) × List Int × ByteArray × ByteArray) (v31 : Value) (v33 : Value), ref18_Decode_j4 s25 s30 o25 ∧ τ25.Le τ30 ∧ ESub ρ [(1, .I a1), (2, v1), (6, .Pb b3), (7, .I 0), (8, v9), (9, .Pb b11), (10, .I s30.1), (11, .I s25.2.1)] ∧ gs = [[(b3, .cells lY.toArray 36 (0, 0))], [(b11, .cells #[.I s30.2.1, .I s30.2.2.1, .I s30.2.2.2.1, .I s30.t4.1, .I s30.t4.2.1, .I s30.t4.2.2.1, .I s30.t4.2.2.2.1, v31, v33, .string s30.t4.t4.2.2.1, .string s30.t4.t4.2.2.2] 36 (0, 0))]] ∧ Sl (kA .i64 2) τ30 v31 s30.t4.t4.1 ∧ Sl (kI .i64) τ30 v33 s30.t4.t4.2.1) ?_ (fun hk30 => ?_)
     ·rintro ρ30 τ30 gs30 ⟨s30, v31, v33, h, hl30, hρ, rfl, hs32, hs34⟩
      refine st_es hρ ?_
      refine Z 5 rfl ?_
      exact hn25 _ _ _ _ h ⟨(hl25.trans hl30), _, _, rfl, rfl, hs32, hs34⟩
     refine Z 6 rfl ?_
     obtain ⟨q35, hf36, h⟩ := h
     refine o_index rfl rfl rfl z_slT94 rfl rfl (hs10.up hl25) rfl hf36 (fun b37 of38 vs hc39 hrep => ?_)
     obtain ⟨_, _, rfl, rfl, ⟨_, _, rfl, rfl, ⟨_, _, rfl, rfl, ⟨_, _, rfl, rfl, ⟨_, _, rfl, rfl, ⟨_, _, rfl, rfl, rfl⟩⟩⟩⟩⟩⟩ := hrep
     refine o_fieldAddr rfl rfl rfl z_field98_5 rfl ?_
     refine o_loadI (v := .I q35.t4.2.1) rfl rfl rfl z_sc3 rfl (hc39 5 _ rfl) ?_
     refine Z 3 rfl ?_
     refine st_if rfl h (fun h => ?_) (fun h => ?_)
     ·refine st_exit rfl ?_
      exact hk30 _ _ _ ⟨(s25.1, s25.2.2.1, s25.2.2.2.1, s25.t4.1, s25.t4.2.1, s25.t4.2.2.1, s25.t4.2.2.2.1, s25.t4.t4.1, s25.t4.t4.2.1, s25.t4.t4.2.2.1, s25.t4.t4.2.2.2.1, s25.t4.t4.t4), _, _, h, (Sto.Le.refl _), rfl, rfl, hs27, hs29⟩
     ·refine Z 2 rfl ?_
      obtain ⟨q40, hf41, r45, hr46, h⟩ := h
      refine st_d41 [[(b3, .cells lY.toArray 36 (0, 0))], [(b11, .cells #[.I s25.2.2.1, .I s25.2.2.2.1, .I s25.t4.1, .I s25.t4.2.1, .I s25.t4.2.2.1, .I s25.t4.2.2.2.1, .I s25.t4.t4.1, v26, v28, .string s25.t4.t4.2.2.2.1, .string s25.t4.t4.t4] 36 (0, 0))]] [] 15 2 [none, none, none, none, none, none, none, none, none, none, none, none, some (0, 0), some (0, 1), none] [none, none, none, none, none, none, none, none, none, none, none, none, none, none, none] [[none, some 12, some 12]] [.v (.agg #[.I s25.2.2.1, .I s25.2.2.2.1, .I s25.t4.1, .I s25.t4.2.1, .I s25.t4.2.2.1, .I s25.t4.2.2.2.1, .I s25.t4.t4.1, v26, v28, .string s25.t4.t4.2.2.2.1, .string s25.t4.t4.t4]), .v (v9), .v (.I s25.2.1), .t fun τ v => ∃ (b42 : Nat) (of43 : Nat) (vsb42 : List Value), (.pointer (some ⟨b42, of43, none⟩) : Value) = v ∧ CelN τ ⟨b42, of43, none⟩ vsb42 ∧ (kP kS (kP (kI .i64) (kP (kI .i64) (kP (kI .i64) (kP (kI .i64) (kP (kI .i64) (kI .i64))))))).rep τ vsb42 q40, .v (.agg (lA q40).toArray), .v (v1), .v (.I s25.1), .t fun τ v => ∃ (v49 : Value) (v50 : Value), (.tuple #[.agg (lM r45.1 v49 v50).toArray, .I r45.2.1, .I r45.2.2] : Value) = v ∧ Sl (kA .i64 2) τ v49 r45.1.2.2.1 ∧ Sl (kI .i64) τ v50 r45.1.2.2.2.1, .t fun τ v => ∃ (v49 : Value) (v50 : Value), (.tuple #[.agg (lM r45.1 v49 v50).toArray, .I r45.2.1, .I r45.2.2] : Value) = v ∧ Sl (kA .i64 2) τ v49 r45.1.2.2.1 ∧ Sl (kI .i64) τ v50 r45.1.2.2.2.1, .t fun τ v => ∃ (v49 : Value) (v50 : Value), (.agg (lM r45.1 v49 v50).toArray : Value) = v ∧ Sl (kA .i64 2) τ v49 r45.1.2.2.1 ∧ Sl (kI .i64) τ v50 r45.1.2.2.2.1, .v (.I r45.2.1), .v (.I r45.2.2), .t fun _ _ => True, .t fun _ _ => True, .v (.I r45.2.1)] [[fun τ u F => F = [], fun τ u F => ∃ (b54 : Nat), F = [[(b54, .cells lY.toArray 36 (0, 0))]] ∧ .Pb b54 = u, fun τ u F => ∃ (b55 : Nat) (v56 : Value) (v58 : Value), F = [[(b55, .cells (lM r45.1 v56 v58).toArray 36 (0, 0))]] ∧ .Pb b55 = u ∧ Sl (kA .i64 2) τ v56 r45.1.2.2.1 ∧ Sl (kI .i64) τ v58 r45.1.2.2.2.1]] rfl z_mix rfl ⟨fun _ _ _ hl ⟨b42, of43, vsb42, hv, hc44, hrepb42⟩ => ⟨b42, of43, vsb42, hv, hc44.up hl, Kd.mono _ hl hrepb42⟩, ⟨fun _ _ _ hl ⟨v49, v50, hv, hs51, hs52⟩ => ⟨v49, v50, hv, hs51.up hl, hs52.up hl⟩, ⟨fun _ _ _ hl ⟨v49, v50, hv, hs51, hs52⟩ => ⟨v49, v50, hv, hs51.up hl, hs52.up hl⟩, ⟨fun _ _ _ hl ⟨v49, v50, hv, hs51, hs52⟩ => ⟨v49, v50, hv, hs51.up hl, hs52.up hl⟩, ⟨fun _ _ _ _ _ => trivial, ⟨fun _ _ _ _ _ => trivial, trivial⟩⟩⟩⟩⟩⟩ ⟨⟨fun _ _ _ _ hl h => h, ⟨fun _ _ _ _ hl h => (let ⟨b54, hF, hU⟩ := h; ⟨b54, hF, hU⟩), ⟨fun _ _ _ _ hl h => (let ⟨b55, v56, v58, hF, hU, hs57, hs59⟩ := h; ⟨b55, v56, v58, hF, hU, hs57.up hl, hs59.up hl⟩), trivial⟩⟩⟩, trivial⟩ rfl rfl ?_ (allB_cons (allB_cons (allB_cons (allB_cons (allB_cons (allB_cons (allB_cons (allB_cons (allB_cons (allB_cons (allB_cons (allB_cons (allB_cons (allB_cons (allB_cons allB_nil ?_) (p4 dA)) (p4 dA)) ?_) ?_) (p4 dA)) (p4 dA)) ?_) ?_) ?_) ?_) ?_) ?_) ?_) (p4 dA)) ?_
      ·exact rfl
      ·intro ρ' τ pool rs hl hd hout hw hk
       refine o_loadN (j := 1) (vs := [.I s25.2.2.1, .I s25.2.2.2.1, .I s25.t4.1, .I s25.t4.2.1, .I s25.t4.2.2.1, .I s25.t4.2.2.2.1, .I s25.t4.t4.1, v26, v28, .string s25.t4.t4.2.2.2.1, .string s25.t4.t4.t4]) rfl rfl rfl z_agg36 ((hout 9 rfl).trans rfl) rfl rfl ?_
       exact hk _ _ (Sto.Le.refl _) rfl
      ·intro ρ' τ pool rs hl hd hout hw hk
       obtain ⟨_, e1, rfl⟩ := hd 1 rfl _ rfl
       obtain ⟨_, e2, rfl⟩ := hd 2 rfl _ rfl
       refine o_index rfl rfl rfl z_slT94 rfl e1 (hs10.up (hl25.trans hl)) e2 hf41 (fun b42 of43 vsb42 hc44 hrepb42 => ?_)
       exact hk _ _ (Sto.Le.refl _) ⟨b42, of43, _, rfl, hc44, hrepb42⟩
      ·intro ρ' τ pool rs hl hd hout hw hk
       obtain ⟨_, e3, b42, of43, vsb42, rfl, hc44, hrepb42⟩ := hd 3 rfl _ rfl
       have hrepb42 := hrepb42
       obtain ⟨_, _, rfl, rfl, ⟨_, _, rfl, rfl, ⟨_, _, rfl, rfl, ⟨_, _, rfl, rfl, ⟨_, _, rfl, rfl, ⟨_, _, rfl, rfl, rfl⟩⟩⟩⟩⟩⟩ := hrepb42
       refine o_loadIN (vs := (lA q40)) rfl rfl rfl z_agg98 e3 rfl (celn_part 0 rfl hc44) ?_
       exact hk _ _ (Sto.Le.refl _) rfl
      ·intro ρ' τ pool rs hl hd hout hw hk
       obtain ⟨_, e0, rfl⟩ := hd 0 rfl _ rfl
       obtain ⟨_, e4, rfl⟩ := hd 4 rfl _ rfl
       obtain ⟨_, e5, rfl⟩ := hd 5 rfl _ rfl
       obtain ⟨_, e6, rfl⟩ := hd 6 rfl _ rfl
       refine st_call (foot := []) rfl rfl rfl rfl (evs_cons e0 (evs_cons e4 (evs_cons e5 (evs_cons e6 rfl)))) rfl (callV_fn z_en85 (ref18_field_ok hr46 τ (hs27.up hl) (hs29.up hl) (hs2.up (((hl4.trans hl8).trans hl25).trans hl)))) ?_
       rintro vτ47 τ47 gsτ47 hl48 ⟨v49, v50, rfl, rfl, hs51, hs52⟩
       exact hk _ _ hl48 ⟨v49, v50, rfl, hs51, hs52⟩
      ·intro ρ' τ pool rs hl hd hout hw hk
       obtain ⟨_, e7, v49, v50, rfl, hs51, hs52⟩ := hd 7 rfl _ rfl
       refine o_move rfl rfl rfl e7 ?_
       exact hk _ _ (Sto.Le.refl _) ⟨v49, v50, rfl, hs51, hs52⟩
      ·intro ρ' τ pool rs hl hd hout hw hk
       obtain ⟨_, e8, v49, v50, rfl, hs51, hs52⟩ := hd 8 rfl _ rfl
       refine o_extract rfl rfl rfl e8 rfl ?_
       exact hk _ _ (Sto.Le.refl _) ⟨v49, v50, rfl, hs51, hs52⟩
      ·intro ρ' τ pool rs hl hd hout hw hk
       obtain ⟨_, e8, v49, v50, rfl, hs51, hs52⟩ := hd 8 rfl _ rfl
       refine o_extract rfl rfl rfl e8 rfl ?_
       exact hk _ _ (Sto.Le.refl _) rfl
      ·intro ρ' τ pool rs hl hd hout hw hk
       obtain ⟨_, e8, v49, v50, rfl, hs51, hs52⟩ := hd 8 rfl _ rfl
       refine o_extract rfl rfl rfl e8 rfl ?_
       exact hk _ _ (Sto.Le.refl _) rfl
      ·intro ρ' τ u Fv pool rs hl hI hu hd hout hw hk
       have hI0 := hI
       obtain rfl := hI
       refine o_alloc rfl rfl rfl z_zero36 (fun b53 => ?_)
       refine st_ord [1, 1, 0, 0] _ rfl ?_
       exact hk _ _ [[(b53, .cells lY.toArray 36 (0, 0))]] (Sto.Le.refl _) trivial (by exact ⟨b53, rfl, rfl⟩)
      ·intro ρ' τ u Fv pool rs hl hI hu hd hout hw hk
       obtain ⟨_, e9, v49, v50, rfl, hs51, hs52⟩ := hd 9 rfl _ rfl
       obtain ⟨b54, rfl, rfl⟩ := hI
       refine o_store (j := 2) (vs := (lM r45.1 v49 v50)) (cs' := (lM r45.1 v49 v50)) rfl rfl rfl z_size36 (hu (by decide) _ rfl) e9 rfl (ones_cons rfl (ones_cons rfl (ones_cons rfl (ones_cons rfl (ones_cons rfl (ones_cons rfl (ones_cons rfl (ones_cons hs51.one' (ones_cons hs52.one' (ones_cons rfl (ones_cons rfl ones_nil))))))))))) rfl rfl rfl ?_
       exact hk _ _ [[(b54, .cells (lM r45.1 v49 v50).toArray 36 (0, 0))]] (Sto.Le.refl _) trivial (by exact ⟨b54, v49, v50, rfl, rfl, hs51, hs52⟩)
      intro ρ' τ60 vals u Fv hl60 hI hu hv hout
      obtain ⟨b55, v56, v58, rfl, rfl, hs57, hs59⟩ := hI
      refine st_env (ρ' := [(54, .I r45.2.2), (13, .I r45.2.1), (1, .I a1), (2, v1), (6, .Pb b3), (7, .I 0), (8, v9), (9, .Pb b11), (11, .I s25.2.1), (12, .Pb b55)]) ⟨(lv4 hv 11 rfl rfl rfl), (lv4 hv 14 rfl rfl rfl), (hout 1 rfl).trans rfl, (hout 2 rfl).trans rfl, (hout 6 rfl).trans rfl, (hout 7 rfl).trans rfl, (hout 8 rfl).trans rfl, (hout 9 rfl).trans rfl, (hout 11 rfl).trans rfl, (by exact hu _ rfl), trivial⟩ ?_
      refine Z 8 rfl ?_
      refine st_if rfl h (fun h => ?_) (fun h => ?_)
      ·refine ZZ 7 [0] rfl rfl ?_
       obtain rfl := he25 _ h
       replace h := hA25
       obtain rfl := Eq.symm h
       exact st_retC (gs' := []) [.agg lY.toArray, .I r45.2.2] Tryz.func65 ⟨⟨_, _, _, _, rfl, mem_flat 0 rfl, fun w hw => cellOfN (vs := lY) z_agg36 rfl w hw⟩, rfl, trivial⟩ (by simp) (((hl4.trans hl8).trans hl25).trans hl60) ⟨_, _, rfl, rfl, Sl.nil, Sl.nil⟩
      ·refine ZZ 4 [2] rfl rfl ?_
       refine o_store (j := 1) (vs := (lM r45.1 v56 v58)) (cs' := (lM r45.1 v56 v58)) rfl rfl rfl z_size36 rfl rfl rfl (ones_cons rfl (ones_cons rfl (ones_cons rfl (ones_cons rfl (ones_cons rfl (ones_cons rfl (ones_cons rfl (ones_cons hs57.one' (ones_cons hs59.one' (ones_cons rfl (ones_cons rfl ones_nil))))))))))) rfl rfl rfl ?_
       refine Z 3 rfl ?_
       refine st_ord [0, 0] _ rfl ?_
       exact hk30 _ _ _ ⟨(r45.2.1, r45.1.1, (r45.1.2.1.getD 0 0), (r45.1.2.1.getD 1 0), (r45.1.2.1.getD 2 0), (r45.1.2.1.getD 3 0), (r45.1.2.1.getD 4 0), (r45.1.2.1.getD 5 0), r45.1.2.2.1, r45.1.2.2.2.1, r45.1.t4.1, r45.1.t4.2), _, _, h, hl60, rfl, rfl, hs57, hs59⟩
    ·refine st_exit rfl ?_
     obtain rfl := he25 _ h
     replace h := hA25
     exact hk12 _ _ _ ⟨(s25.1, s25.2.2.1, s25.2.2.2.1, s25.t4.1, s25.t4.2.1, s25.t4.2.2.1, s25.t4.2.2.2.1, s25.t4.t4.1, s25.t4.t4.2.1, s25.t4.t4.2.2.1, s25.t4.t4.2.2.2.1, s25.t4.t4.t4), _, _, h, hl25, rfl, rfl, hs27, hs29⟩
 refine Z 3 rfl ?_
 refine o_mif rfl rfl rfl rfl h (fun h => ?_) (fun h => ?_)
 ·refine Z 4 rfl ?_
  exact hk4 _ _ _ ⟨(!(decide (a1 = 2))), h, (Sto.Le.refl _), rfl, rfl⟩
 ·refine Z 4 rfl ?_
  exact hk4 _ _ _ ⟨false, h, (Sto.Le.refl _), rfl, rfl⟩
theorem ref34_read_ok {a0 : List Int} {v1 : Value} {r : (Int × Int × Int × Int × (TyR)) × Int} (h : ref34_read a0 r) (σ : Sto) (hs2 : Sl (kI .u8) σ v1 a0) :
    Does Tryz.prog 36 [v1] σ [] (fun v τ gs => ∃ (v59 : Value) (v60 : Value), gs = [] ∧ .tuple [.agg [.I r.1.1, .int .u32 r.1.2.1, .I r.1.2.2.1, .I r.1.2.2.2.1, .I r.1.t4.1, .I (r.1.t4.2.1.getD 0 0), .I (r.1.t4.2.1.getD 1 0), .I (r.1.t4.2.1.getD 2 0), .I (r.1.t4.2.1.getD 3 0), .I (r.1.t4.2.1.getD 4 0), .I (r.1.t4.2.1.getD 5 0), v59, v60, .string r.1.t4.t4.1, .string r.1.t4.t4.2].toArray, .I r.2].toArray = v ∧ Sl (kA .i64 2) τ v59 r.1.t4.2.2.1 ∧ Sl (kI .i64) τ v60 r.1.t4.2.2.2.1) := by
 refine call_of Tryz.func36 Tryz.ntmps36 rfl rfl (fun cs fs => ?_)
 refine Z 2 rfl ?_
 refine o_alloc rfl rfl rfl z_zero38 (fun b3 => ?_)
 refine Z 6 rfl ?_
 refine o_lenI rfl rfl rfl z_slT42 rfl hs2 ?_
 refine Z 2 rfl ?_
 refine st_if rfl h (fun h => ?_) (fun h => ?_)
 ·refine ZZ 6 [0] rfl rfl ?_
  obtain rfl := Eq.symm h
  exact st_retC (gs' := []) [.agg #[.I 0, .int .u32 0, .I 0, .I 0, .I 0, .I 0, .I 0, .I 0, .I 0, .I 0, .I 0, .N0, .N0, .E0, .E0], .I 13] Tryz.func36 ⟨⟨_, _, _, _, rfl, mem_flat 0 rfl, fun w hw => cellOfN (vs := [.I 0, .int .u32 0, .I 0, .I 0, .I 0, .I 0, .I 0, .I 0, .I 0, .I 0, .I 0, .N0, .N0, .E0, .E0]) z_agg38 rfl w hw⟩, rfl, trivial⟩ (by simp) (Sto.Le.refl _) ⟨_, _, rfl, rfl, Sl.nil, Sl.nil⟩
 ·refine Z 4 rfl ?_
  obtain ⟨q4, hf5, h⟩ := h
  refine o_index rfl rfl rfl z_slT42 rfl rfl hs2 rfl hf5 (fun b6 of7 vs hc8 hrep => ?_)
  obtain rfl := hrep
  refine o_loadI (v := .int .u8 q4) rfl rfl rfl z_sc5 rfl (hc8 0 _ rfl) ?_
  refine ZZ 2 [] rfl rfl ?_
  refine o_alloc rfl rfl rfl z_zero38 (fun b9 => ?_)
  refine ZZ 3 [0] rfl rfl ?_
  refine st_cut (fun ρ τ10 gs => ∃ (s10 : Int), ref34_read_j1 a0 q4 s10 r ∧ σ.Le τ10 ∧ ESub ρ [(0, v1), (2, .Pb b3), (3, .I 0), (4, .Pb b9)] ∧ gs = [[(b3, .cells #[.I 0, .int .u32 0, .I 0, .I 0, .I 0, .I 0, .I 0, .I 0, .I 0, .I 0, .I 0, .N0, .N0, .E0, .E0] 38 (0, 0))], [(b9, .cells #[.I (IntKind.i64.wrap q4), .int .u32 s10, .I 0, .I 0, .I 0, .I 0, .I 0, .I 0, .I 0, .I 0, .I 0, .N0, .N0, .E0, .E0] 38 (0, 0))]]) ?_ (fun hk10 => ?_)
  ·rintro ρ10 τ10 gs10 ⟨s10, h, hl10, hρ, rfl⟩
   refine st_es hρ ?_
   refine ZZ 12 [1] rfl rfl ?_
   refine st_if rfl h (fun h => ?_) (fun h => ?_)
   ·refine Z 4 rfl ?_
    refine o_lenI rfl rfl rfl z_slT42 rfl (hs2.up hl10) ?_
    refine Z 2 rfl ?_
    refine st_if rfl h (fun h => ?_) (fun h => ?_)
    ·refine ZZ 6 [0] rfl rfl ?_
     obtain rfl := Eq.symm h
     exact st_retC (gs' := []) [.agg #[.I 0, .int .u32 0, .I 0, .I 0, .I 0, .I 0, .I 0, .I 0, .I 0, .I 0, .I 0, .N0, .N0, .E0, .E0], .I 13] Tryz.func36 ⟨⟨_, _, _, _, rfl, mem_flat 0 rfl, fun w hw => cellOfN (vs := [.I 0, .int .u32 0, .I 0, .I 0, .I 0, .I 0, .I 0, .I 0, .I 0, .I 0, .I 0, .N0, .N0, .E0, .E0]) z_agg38 rfl w hw⟩, rfl, trivial⟩ (by simp) hl10 ⟨_, _, rfl, rfl, Sl.nil, Sl.nil⟩
    ·refine Z 4 rfl ?_
     obtain ⟨q11, hf12, h⟩ := h
     refine o_index rfl rfl rfl z_slT42 rfl rfl (hs2.up hl10) rfl hf12 (fun b13 of14 vs hc15 hrep => ?_)
     obtain rfl := hrep
     refine o_loadI (v := .int .u8 q11) rfl rfl rfl z_sc5 rfl (hc15 0 _ rfl) ?_
     refine ZZ 6 [1] rfl rfl ?_
     refine st_cut (fun ρ τ16 gs => ∃ (s16 : Bool), ref34_read_j2 a0 q4 s10 q11 s16 r ∧ τ10.Le τ16 ∧ ESub ρ [(0, v1), (2, .Pb b3), (3, .I 0), (4, .Pb b9), (51, .bool s16)] ∧ gs = [[(b3, .cells #[.I 0, .int .u32 0, .I 0, .I 0, .I 0, .I 0, .I 0, .I 0, .I 0, .I 0, .I 0, .N0, .N0, .E0, .E0] 38 (0, 0))], [(b9, .cells #[.I (IntKind.i64.wrap q4), .int .u32 s10, .I (IntKind.i64.wrap q11), .I 0, .I 0, .I 0, .I 0, .I 0, .I 0, .I 0, .I 0, .N0, .N0, .E0, .E0] 38 (0, 0))]]) ?_ (fun hk16 => ?_)
     ·rintro ρ16 τ16 gs16 ⟨s16, h, hl16, hρ, rfl⟩
      refine st_es hρ ?_
      refine st_if rfl h (fun h => ?_) (fun h => ?_)
      ·refine ZZ 6 [0] rfl rfl ?_
       obtain rfl := Eq.symm h
       exact st_retC (gs' := []) [.agg #[.I 0, .int .u32 0, .I 0, .I 0, .I 0, .I 0, .I 0, .I 0, .I 0, .I 0, .I 0, .N0, .N0, .E0, .E0], .I 10] Tryz.func36 ⟨⟨_, _, _, _, rfl, mem_flat 0 rfl, fun w hw => cellOfN (vs := [.I 0, .int .u32 0, .I 0, .I 0, .I 0, .I 0, .I 0, .I 0, .I 0, .I 0, .I 0, .N0, .N0, .E0, .E0]) z_agg38 rfl w hw⟩, rfl, trivial⟩ (by simp) (hl10.trans hl16) ⟨_, _, rfl, rfl, Sl.nil, Sl.nil⟩
      ·refine Z 2 rfl ?_
       obtain ⟨q17, hf18, hf22, hf23, r26, hr27, h⟩ := h
       refine st_d41 [[(b3, .cells #[.I 0, .int .u32 0, .I 0, .I 0, .I 0, .I 0, .I 0, .I 0, .I 0, .I 0, .I 0, .N0, .N0, .E0, .E0] 38 (0, 0))], [(b9, .cells #[.I (IntKind.i64.wrap q4), .int .u32 s10, .I (IntKind.i64.wrap q11), .I 0, .I 0, .I 0, .I 0, .I 0, .I 0, .I 0, .I 0, .N0, .N0, .E0, .E0] 38 (0, 0))]] [] 12 2 [none, none, none, none, none, none, none, none, none, none, some (0, 0), some (0, 1)] [none, none, none, none, none, none, none, none, none, none, none, none] [[none, some 6, some 6]] [.v (v1), .t fun τ v => ∃ (b19 : Nat) (of20 : Nat) (vsb19 : List Value), (.pointer (some ⟨b19, of20, none⟩) : Value) = v ∧ CelN τ ⟨b19, of20, none⟩ vsb19 ∧ (kI .u8).rep τ vsb19 q17, .v (.int .u8 q17), .v (.I (IntKind.i64.wrap q17)), .v (v1), .t fun τ v => ∃ (v24 : Value), (v24 : Value) = v ∧ Sl (kI .u8) τ v24 ((a0.drop (7 : Int).toNat).take (((a0.length : Int) : Int) - 7).toNat), .t fun τ v => ∃ (v30 : Value) (v31 : Value), (.tuple #[.agg (lM r26.1 v30 v31).toArray, .I r26.2] : Value) = v ∧ Sl (kA .i64 2) τ v30 r26.1.2.2.1 ∧ Sl (kI .i64) τ v31 r26.1.2.2.2.1, .t fun τ v => ∃ (v30 : Value) (v31 : Value), (.tuple #[.agg (lM r26.1 v30 v31).toArray, .I r26.2] : Value) = v ∧ Sl (kA .i64 2) τ v30 r26.1.2.2.1 ∧ Sl (kI .i64) τ v31 r26.1.2.2.2.1, .t fun τ v => ∃ (v30 : Value) (v31 : Value), (.agg (lM r26.1 v30 v31).toArray : Value) = v ∧ Sl (kA .i64 2) τ v30 r26.1.2.2.1 ∧ Sl (kI .i64) τ v31 r26.1.2.2.2.1, .v (.I r26.2), .t fun _ _ => True, .t fun _ _ => True] [[fun τ u F => F = [], fun τ u F => ∃ (b35 : Nat), F = [[(b35, .cells lY.toArray 36 (0, 0))]] ∧ .Pb b35 = u, fun τ u F => ∃ (b36 : Nat) (v37 : Value) (v39 : Value), F = [[(b36, .cells (lM r26.1 v37 v39).toArray 36 (0, 0))]] ∧ .Pb b36 = u ∧ Sl (kA .i64 2) τ v37 r26.1.2.2.1 ∧ Sl (kI .i64) τ v39 r26.1.2.2.2.1]] rfl z_mix rfl ⟨fun _ _ _ hl ⟨b19, of20, vsb19, hv, hc21, hrepb19⟩ => ⟨b19, of20, vsb19, hv, hc21.up hl, Kd.mono _ hl hrepb19⟩, ⟨fun _ _ _ hl ⟨v24, hv, hs25⟩ => ⟨v24, hv, hs25.up hl⟩, ⟨fun _ _ _ hl ⟨v30, v31, hv, hs32, hs33⟩ => ⟨v30, v31, hv, hs32.up hl, hs33.up hl⟩, ⟨fun _ _ _ hl ⟨v30, v31, hv, hs32, hs33⟩ => ⟨v30, v31, hv, hs32.up hl, hs33.up hl⟩, ⟨fun _ _ _ hl ⟨v30, v31, hv, hs32, hs33⟩ => ⟨v30, v31, hv, hs32.up hl, hs33.up hl⟩, ⟨fun _ _ _ _ _ => trivial, ⟨fun _ _ _ _ _ => trivial, trivial⟩⟩⟩⟩⟩⟩⟩ ⟨⟨fun _ _ _ _ hl h => h, ⟨fun _ _ _ _ hl h => (let ⟨b35, hF, hU⟩ := h; ⟨b35, hF, hU⟩), ⟨fun _ _ _ _ hl h => (let ⟨b36, v37, v39, hF, hU, hs38, hs40⟩ := h; ⟨b36, v37, v39, hF, hU, hs38.up hl, hs40.up hl⟩), trivial⟩⟩⟩, trivial⟩ rfl rfl ?_ (allB_cons (allB_cons (allB_cons (allB_cons (allB_cons (allB_cons (allB_cons (allB_cons (allB_cons (allB_cons (allB_cons (allB_cons allB_nil (p4 dA)) ?_) ?_) (p4 dA)) (p4 dA)) ?_) ?_) ?_) ?_) ?_) ?_) ?_) ?_
       ·exact rfl
       ·intro ρ' τ pool rs hl hd hout hw hk
        obtain ⟨_, e0, rfl⟩ := hd 0 rfl _ rfl
        refine o_index rfl rfl rfl z_slT42 rfl e0 (hs2.up ((hl10.trans hl16).trans hl)) rfl hf18 (fun b19 of20 vsb19 hc21 hrepb19 => ?_)
        exact hk _ _ (Sto.Le.refl _) ⟨b19, of20, _, rfl, hc21, hrepb19⟩
       ·intro ρ' τ pool rs hl hd hout hw hk
        obtain ⟨_, e1, b19, of20, vsb19, rfl, hc21, hrepb19⟩ := hd 1 rfl _ rfl
        have hrepb19 := hrepb19
        obtain rfl := hrepb19
        refine o_loadI (v := .int .u8 q17) rfl rfl rfl z_sc5 e1 (hc21 0 _ rfl) ?_
        exact hk _ _ (Sto.Le.refl _) rfl
       ·intro ρ' τ pool rs hl hd hout hw hk
        obtain ⟨_, e4, rfl⟩ := hd 4 rfl _ rfl
        refine o_slice (L := 7) (H := (a0.length : Int)) rfl rfl rfl z_slT42 rfl e4 (hs2.up ((hl10.trans hl16).trans hl)) ⟨_, rfl⟩ rfl (by decide) hf22 hf23 trivial (by simp) (fun v24 hs25 => ?_)
        exact hk _ _ (Sto.Le.refl _) ⟨v24, rfl, hs25⟩
       ·intro ρ' τ pool rs hl hd hout hw hk
        obtain ⟨_, e3, rfl⟩ := hd 3 rfl _ rfl
        obtain ⟨_, e5, v24, rfl, hs25⟩ := hd 5 rfl _ rfl
        refine st_call (foot := []) rfl rfl rfl rfl (evs_cons e3 (evs_cons rfl (evs_cons e5 rfl))) rfl (callV_fn z_en65 (ref18_Decode_ok hr27 τ hs25)) ?_
        rintro vτ28 τ28 gsτ28 hl29 ⟨v30, v31, rfl, rfl, hs32, hs33⟩
        exact hk _ _ hl29 ⟨v30, v31, rfl, hs32, hs33⟩
       ·intro ρ' τ pool rs hl hd hout hw hk
        obtain ⟨_, e6, v30, v31, rfl, hs32, hs33⟩ := hd 6 rfl _ rfl
        refine o_move rfl rfl rfl e6 ?_
        exact hk _ _ (Sto.Le.refl _) ⟨v30, v31, rfl, hs32, hs33⟩
       ·intro ρ' τ pool rs hl hd hout hw hk
        obtain ⟨_, e7, v30, v31, rfl, hs32, hs33⟩ := hd 7 rfl _ rfl
        refine o_extract rfl rfl rfl e7 rfl ?_
        exact hk _ _ (Sto.Le.refl _) ⟨v30, v31, rfl, hs32, hs33⟩
       ·intro ρ' τ pool rs hl hd hout hw hk
        obtain ⟨_, e7, v30, v31, rfl, hs32, hs33⟩ := hd 7 rfl _ rfl
        refine o_extract rfl rfl rfl e7 rfl ?_
        exact hk _ _ (Sto.Le.refl _) rfl
       ·intro ρ' τ u Fv pool rs hl hI hu hd hout hw hk
        have hI0 := hI
        obtain rfl := hI
        refine o_alloc rfl rfl rfl z_zero36 (fun b34 => ?_)
        refine st_ord [1, 1, 0, 0] _ rfl ?_
        exact hk _ _ [[(b34, .cells lY.toArray 36 (0, 0))]] (Sto.Le.refl _) trivial (by exact ⟨b34, rfl, rfl⟩)
       ·intro ρ' τ u Fv pool rs hl hI hu hd hout hw hk
        obtain ⟨_, e8, v30, v31, rfl, hs32, hs33⟩ := hd 8 rfl _ rfl
        obtain ⟨b35, rfl, rfl⟩ := hI
        refine o_store (j := 2) (vs := (lM r26.1 v30 v31)) (cs' := (lM r26.1 v30 v31)) rfl rfl rfl z_size36 (hu (by decide) _ rfl) e8 rfl (ones_cons rfl (ones_cons rfl (ones_cons rfl (ones_cons rfl (ones_cons rfl (ones_cons rfl (ones_cons rfl (ones_cons hs32.one' (ones_cons hs33.one' (ones_cons rfl (ones_cons rfl ones_nil))))))))))) rfl rfl rfl ?_
        exact hk _ _ [[(b35, .cells (lM r26.1 v30 v31).toArray 36 (0, 0))]] (Sto.Le.refl _) trivial (by exact ⟨b35, v30, v31, rfl, rfl, hs32, hs33⟩)
       intro ρ' τ41 vals u Fv hl41 hI hu hv hout
       obtain ⟨b36, v37, v39, rfl, rfl, hs38, hs40⟩ := hI
       refine st_env (ρ' := [(62, .I r26.2), (2, .Pb b3), (3, .I 0), (4, .Pb b9), (6, .Pb b36)]) ⟨(lv4 hv 9 rfl rfl rfl), (hout 2 rfl).trans rfl, (hout 3 rfl).trans rfl, (hout 4 rfl).trans rfl, (by exact hu _ rfl), trivial⟩ ?_
       refine Z 8 rfl ?_
       refine st_if rfl h (fun h => ?_) (fun h => ?_)
       ·refine ZZ 7 [0] rfl rfl ?_
        obtain rfl := Eq.symm h
        exact st_retC (gs' := []) [.agg #[.I 0, .int .u32 0, .I 0, .I 0, .I 0, .I 0, .I 0, .I 0, .I 0, .I 0, .I 0, .N0, .N0, .E0, .E0], .I r26.2] Tryz.func36 ⟨⟨_, _, _, _, rfl, mem_flat 0 rfl, fun w hw => cellOfN (vs := [.I 0, .int .u32 0, .I 0, .I 0, .I 0, .I 0, .I 0, .I 0, .I 0, .I 0, .I 0, .N0, .N0, .E0, .E0]) z_agg38 rfl w hw⟩, rfl, trivial⟩ (by simp) ((hl10.trans hl16).trans hl41) ⟨_, _, rfl, rfl, Sl.nil, Sl.nil⟩
       ·refine ZZ 5 [2] rfl rfl ?_
        refine o_store (j := 1) (vs := (lM r26.1 v37 v39)) (cs' := [.I (IntKind.i64.wrap q4), .int .u32 s10, .I (IntKind.i64.wrap q11), .I 0, .I r26.1.1, .I (r26.1.2.1.getD 0 0), .I (r26.1.2.1.getD 1 0), .I (r26.1.2.1.getD 2 0), .I (r26.1.2.1.getD 3 0), .I (r26.1.2.1.getD 4 0), .I (r26.1.2.1.getD 5 0), v37, v39, .string r26.1.t4.1, .string r26.1.t4.2]) rfl rfl rfl z_size36 rfl rfl rfl (ones_cons rfl (ones_cons rfl (ones_cons rfl (ones_cons rfl (ones_cons rfl (ones_cons rfl (ones_cons rfl (ones_cons hs38.one' (ones_cons hs40.one' (ones_cons rfl (ones_cons rfl ones_nil))))))))))) rfl rfl rfl ?_
        refine ZZ 4 [1] rfl rfl ?_
        refine o_store (j := 0) (vs := [.I (IntKind.i64.wrap q4), .int .u32 s10, .I (IntKind.i64.wrap q11), .I 0, .I r26.1.1, .I (r26.1.2.1.getD 0 0), .I (r26.1.2.1.getD 1 0), .I (r26.1.2.1.getD 2 0), .I (r26.1.2.1.getD 3 0), .I (r26.1.2.1.getD 4 0), .I (r26.1.2.1.getD 5 0), v37, v39, .string r26.1.t4.1, .string r26.1.t4.2]) (cs' := [.I (IntKind.i64.wrap q4), .int .u32 s10, .I (IntKind.i64.wrap q11), .I 0, .I r26.1.1, .I (r26.1.2.1.getD 0 0), .I (r26.1.2.1.getD 1 0), .I (r26.1.2.1.getD 2 0), .I (r26.1.2.1.getD 3 0), .I (r26.1.2.1.getD 4 0), .I (r26.1.2.1.getD 5 0), v37, v39, .string r26.1.t4.1, .string r26.1.t4.2]) rfl rfl rfl z_size38 rfl rfl rfl (ones_cons rfl (ones_cons rfl (ones_cons rfl (ones_cons rfl (ones_cons rfl (ones_cons rfl (ones_cons rfl (ones_cons rfl (ones_cons rfl (ones_cons rfl (ones_cons rfl (ones_cons hs38.one' (ones_cons hs40.one' (ones_cons rfl (ones_cons rfl ones_nil))))))))))))))) rfl rfl rfl ?_
        refine Z 2 rfl ?_
        obtain rfl := Eq.symm h
        exact st_retC (gs' := []) [.agg #[.I (IntKind.i64.wrap q4), .int .u32 s10, .I (IntKind.i64.wrap q11), .I 0, .I r26.1.1, .I (r26.1.2.1.getD 0 0), .I (r26.1.2.1.getD 1 0), .I (r26.1.2.1.getD 2 0), .I (r26.1.2.1.getD 3 0), .I (r26.1.2.1.getD 4 0), .I (r26.1.2.1.getD 5 0), v37, v39, .string r26.1.t4.1, .string r26.1.t4.2], .I 0] Tryz.func36 ⟨⟨_, _, _, _, rfl, mem_flat 0 rfl, fun w hw => cellOfN (vs := [.I (IntKind.i64.wrap q4), .int .u32 s10, .I (IntKind.i64.wrap q11), .I 0, .I r26.1.1, .I (r26.1.2.1.getD 0 0), .I (r26.1.2.1.getD 1 0), .I (r26.1.2.1.getD 2 0), .I (r26.1.2.1.getD 3 0), .I (r26.1.2.1.getD 4 0), .I (r26.1.2.1.getD 5 0), v37, v39, .string r26.1.t4.1, .string r26.1.t4.2]) z_agg38 rfl w hw⟩, rfl, trivial⟩ (by simp) ((hl10.trans hl16).trans hl41) ⟨_, _, rfl, rfl, hs38, hs40⟩
     refine ZZ 4 [1] rfl rfl ?_
     refine o_mif rfl rfl rfl rfl h (fun h => ?_) (fun h => ?_)
     ·refine Z 5 rfl ?_
      exact hk16 _ _ _ ⟨true, h, (Sto.Le.refl _), rfl, rfl⟩
     ·refine ZZ 5 [1] rfl rfl ?_
      exact hk16 _ _ _ ⟨(decide (2 < (IntKind.i64.wrap q11))), h, (Sto.Le.refl _), rfl, rfl⟩
   ·refine Z 5 rfl ?_
    refine st_if rfl h (fun h => ?_) (fun h => ?_)
    ·refine Z 4 rfl ?_
     refine o_lenI rfl rfl rfl z_slT42 rfl (hs2.up hl10) ?_
     refine Z 2 rfl ?_
     refine st_if rfl h (fun h => ?_) (fun h => ?_)
     ·refine ZZ 6 [0] rfl rfl ?_
      obtain rfl := Eq.symm h
      exact st_retC (gs' := []) [.agg #[.I 0, .int .u32 0, .I 0, .I 0, .I 0, .I 0, .I 0, .I 0, .I 0, .I 0, .I 0, .N0, .N0, .E0, .E0], .I 13] Tryz.func36 ⟨⟨_, _, _, _, rfl, mem_flat 0 rfl, fun w hw => cellOfN (vs := [.I 0, .int .u32 0, .I 0, .I 0, .I 0, .I 0, .I 0, .I 0, .I 0, .I 0, .I 0, .N0, .N0, .E0, .E0]) z_agg38 rfl w hw⟩, rfl, trivial⟩ (by simp) hl10 ⟨_, _, rfl, rfl, Sl.nil, Sl.nil⟩
     ·refine Z 4 rfl ?_
      obtain ⟨q42, hf43, h⟩ := h
      refine o_index rfl rfl rfl z_slT42 rfl rfl (hs2.up hl10) rfl hf43 (fun b44 of45 vs hc46 hrep => ?_)
      obtain rfl := hrep
      refine o_loadI (v := .int .u8 q42) rfl rfl rfl z_sc5 rfl (hc46 0 _ rfl) ?_
      refine ZZ 9 [1, 1] rfl rfl ?_
      obtain ⟨r47, hr48, h⟩ := h
      refine st_call (foot := []) rfl rfl rfl rfl rfl rfl (callV_fn z_en26 (ref23_Word_ok hr48 τ10)) ?_
      rintro vτ49 τ49 gsτ49 hl50 ⟨rfl, rfl⟩
      refine o_sbin (v := .bool (decide (r47 = (bstr [])))) rfl rfl rfl rfl (ev_str z_str19) rfl ?_
      refine st_end ?_
      refine st_if rfl h (fun h => ?_) (fun h => ?_)
      ·refine ZZ 6 [0] rfl rfl ?_
       obtain rfl := Eq.symm h
       exact st_retC (gs' := []) [.agg #[.I 0, .int .u32 0, .I 0, .I 0, .I 0, .I 0, .I 0, .I 0, .I 0, .I 0, .I 0, .N0, .N0, .E0, .E0], .I 7] Tryz.func36 ⟨⟨_, _, _, _, rfl, mem_flat 0 rfl, fun w hw => cellOfN (vs := [.I 0, .int .u32 0, .I 0, .I 0, .I 0, .I 0, .I 0, .I 0, .I 0, .I 0, .I 0, .N0, .N0, .E0, .E0]) z_agg38 rfl w hw⟩, rfl, trivial⟩ (by simp) (hl10.trans hl50) ⟨_, _, rfl, rfl, Sl.nil, Sl.nil⟩
      ·refine Z 5 rfl ?_
       refine o_lenI rfl rfl rfl z_slT42 rfl (hs2.up (hl10.trans hl50)) ?_
       refine Z 2 rfl ?_
       refine st_if rfl h (fun h => ?_) (fun h => ?_)
       ·refine ZZ 6 [0] rfl rfl ?_
        obtain rfl := Eq.symm h
        exact st_retC (gs' := []) [.agg #[.I 0, .int .u32 0, .I 0, .I 0, .I 0, .I 0, .I 0, .I 0, .I 0, .I 0, .I 0, .N0, .N0, .E0, .E0], .I 3] Tryz.func36 ⟨⟨_, _, _, _, rfl, mem_flat 0 rfl, fun w hw => cellOfN (vs := [.I 0, .int .u32 0, .I 0, .I 0, .I 0, .I 0, .I 0, .I 0, .I 0, .I 0, .I 0, .N0, .N0, .E0, .E0]) z_agg38 rfl w hw⟩, rfl, trivial⟩ (by simp) (hl10.trans hl50) ⟨_, _, rfl, rfl, Sl.nil, Sl.nil⟩
       ·refine ZZ 7 [1, 0] rfl rfl ?_
        obtain rfl := Eq.symm h
        exact st_retC (gs' := []) [.agg #[.I (IntKind.i64.wrap q4), .int .u32 s10, .I 0, .I (IntKind.i64.wrap q42), .I 0, .I 0, .I 0, .I 0, .I 0, .I 0, .I 0, .N0, .N0, .E0, .E0], .I 0] Tryz.func36 ⟨⟨_, _, _, _, rfl, mem_flat 0 rfl, fun w hw => cellOfN (vs := [.I (IntKind.i64.wrap q4), .int .u32 s10, .I 0, .I (IntKind.i64.wrap q42), .I 0, .I 0, .I 0, .I 0, .I 0, .I 0, .I 0, .N0, .N0, .E0, .E0]) z_agg38 rfl w hw⟩, rfl, trivial⟩ (by simp) (hl10.trans hl50) ⟨_, _, rfl, rfl, Sl.nil, Sl.nil⟩
    ·refine Z 5 rfl ?_
     refine st_if rfl h (fun h => ?_) (fun h => ?_)
     ·refine Z 4 rfl ?_
      refine o_lenI rfl rfl rfl z_slT42 rfl (hs2.up hl10) ?_
      refine Z 2 rfl ?_
      refine st_if rfl h (fun h => ?_) (fun h => ?_)
      ·refine ZZ 6 [0] rfl rfl ?_
       obtain rfl := Eq.symm h
       exact st_retC (gs' := []) [.agg #[.I 0, .int .u32 0, .I 0, .I 0, .I 0, .I 0, .I 0, .I 0, .I 0, .I 0, .I 0, .N0, .N0, .E0, .E0], .I 3] Tryz.func36 ⟨⟨_, _, _, _, rfl, mem_flat 0 rfl, fun w hw => cellOfN (vs := [.I 0, .int .u32 0, .I 0, .I 0, .I 0, .I 0, .I 0, .I 0, .I 0, .I 0, .I 0, .N0, .N0, .E0, .E0]) z_agg38 rfl w hw⟩, rfl, trivial⟩ (by simp) hl10 ⟨_, _, rfl, rfl, Sl.nil, Sl.nil⟩
      ·refine ZZ 7 [1, 0] rfl rfl ?_
       obtain rfl := Eq.symm h
       exact st_retC (gs' := []) [.agg #[.I (IntKind.i64.wrap q4), .int .u32 s10, .I 0, .I 0, .I 0, .I 0, .I 0, .I 0, .I 0, .I 0, .I 0, .N0, .N0, .E0, .E0], .I 0] Tryz.func36 ⟨⟨_, _, _, _, rfl, mem_flat 0 rfl, fun w hw => cellOfN (vs := [.I (IntKind.i64.wrap q4), .int .u32 s10, .I 0, .I 0, .I 0, .I 0, .I 0, .I 0, .I 0, .I 0, .I 0, .N0, .N0, .E0, .E0]) z_agg38 rfl w hw⟩, rfl, trivial⟩ (by simp) hl10 ⟨_, _, rfl, rfl, Sl.nil, Sl.nil⟩
     ·refine ZZ 8 [0] rfl rfl ?_
      obtain rfl := Eq.symm h
      exact st_retC (gs' := []) [.agg #[.I 0, .int .u32 0, .I 0, .I 0, .I 0, .I 0, .I 0, .I 0, .I 0, .I 0, .I 0, .N0, .N0, .E0, .E0], .I 9] Tryz.func36 ⟨⟨_, _, _, _, rfl, mem_flat 0 rfl, fun w hw => cellOfN (vs := [.I 0, .int .u32 0, .I 0, .I 0, .I 0, .I 0, .I 0, .I 0, .I 0, .I 0, .I 0, .N0, .N0, .E0, .E0]) z_agg38 rfl w hw⟩, rfl, trivial⟩ (by simp) hl10 ⟨_, _, rfl, rfl, Sl.nil, Sl.nil⟩
  refine Z 4 rfl ?_
  obtain ⟨e51, hL51, hA51⟩ := h
  refine st_ord [1, 0] _ rfl ?_
  refine st_loop hL51 (fun (s51 : Int × Int) ρ τ51 gs => σ.Le τ51 ∧ ESub ρ [(0, v1), (2, .Pb b3), (3, .I 0), (4, .Pb b9), (5, .I s51.1)] ∧ gs = [[(b3, .cells #[.I 0, .int .u32 0, .I 0, .I 0, .I 0, .I 0, .I 0, .I 0, .I 0, .I 0, .I 0, .N0, .N0, .E0, .E0] 38 (0, 0))], [(b9, .cells #[.I (IntKind.i64.wrap q4), .int .u32 s51.2, .I 0, .I 0, .I 0, .I 0, .I 0, .I 0, .I 0, .I 0, .I 0, .N0, .N0, .E0, .E0] 38 (0, 0))]]) ⟨Sto.Le.refl _, rfl, rfl⟩ ?_
  rintro s51 o51 h he51 ρ51 τ51 gs51 ⟨hl51, hρ, rfl⟩ hn51
  refine st_es hρ ?_
  refine Z 6 rfl ?_
  refine st_if rfl h (fun h => ?_) (fun h => ?_)
  ·refine Z 3 rfl ?_
   obtain ⟨q52, hf53, h⟩ := h
   refine st_draw 9 (dl [.v (.pointer (some ⟨b9, 1, none⟩)), .v (.int .u32 s51.2), .v (.int .u32 (IntKind.u32.wrap (256 * s51.2))), .v (v1), .v (.I s51.1), .t fun τ v => ∃ (b54 : Nat) (of55 : Nat) (vsb54 : List Value), (.pointer (some ⟨b54, of55, none⟩) : Value) = v ∧ CelN τ ⟨b54, of55, none⟩ vsb54 ∧ (kI .u8).rep τ vsb54 q52, .v (.int .u8 q52), .v (.int .u32 (IntKind.u32.wrap q52)), .v (.int .u32 (IntKind.u32.wrap ((IntKind.u32.wrap (256 * s51.2)) + (IntKind.u32.wrap q52))))]) (fun _ _ => []) z_mix rfl (dl_mono ⟨fun _ _ _ hl ⟨b54, of55, vsb54, hv, hc56, hrepb54⟩ => ⟨b54, of55, vsb54, hv, hc56.up hl, Kd.mono _ hl hrepb54⟩, trivial⟩) (allB_cons (allB_cons (allB_cons (allB_cons (allB_cons (allB_cons (allB_cons (allB_cons (allB_cons allB_nil (p1 dA)) ?_) (p1 dA)) (p1 dA)) (p1 dA)) ?_) ?_) (p1 dA)) (p1 dA)) ?_
   ·intro ρ' τ pool rs hl hd hout hk
    obtain ⟨_, e0, rfl⟩ := hd 0 rfl
    refine o_load (j := 1) (v := .int .u32 s51.2) rfl rfl rfl z_sc24 e0 rfl rfl ?_
    exact st_addNil (hk _ _ (Sto.Le.refl _) rfl)
   ·intro ρ' τ pool rs hl hd hout hk
    obtain ⟨_, e3, rfl⟩ := hd 3 rfl
    obtain ⟨_, e4, rfl⟩ := hd 4 rfl
    refine o_index rfl rfl rfl z_slT42 rfl e3 (hs2.up (hl51.trans hl)) e4 hf53 (fun b54 of55 vsb54 hc56 hrepb54 => ?_)
    exact st_addNil (hk _ _ (Sto.Le.refl _) ⟨b54, of55, _, rfl, hc56, hrepb54⟩)
   ·intro ρ' τ pool rs hl hd hout hk
    obtain ⟨_, e5, b54, of55, vsb54, rfl, hc56, hrepb54⟩ := hd 5 rfl
    have hrepb54 := hrepb54
    obtain rfl := hrepb54
    refine o_loadI (v := .int .u8 q52) rfl rfl rfl z_sc5 e5 (hc56 0 _ rfl) ?_
    exact st_addNil (hk _ _ (Sto.Le.refl _) rfl)
   intro ρ' τ57 vals hl57 hv hout
   refine st_ord [0, 0] _ rfl ?_
   refine st_env (ρ' := [(29, .int .u32 (IntKind.u32.wrap ((IntKind.u32.wrap (256 * s51.2)) + (IntKind.u32.wrap q52)))), (0, v1), (2, .Pb b3), (3, .I 0), (4, .Pb b9), (5, .I s51.1)]) ⟨(lv1 hv 8 rfl rfl), (hout 0 rfl).trans rfl, (hout 2 rfl).trans rfl, (hout 3 rfl).trans rfl, (hout 4 rfl).trans rfl, (hout 5 rfl).trans rfl, trivial⟩ ?_
   refine ZZ 9 [1] rfl rfl ?_
   exact hn51 _ _ _ _ h ⟨(hl51.trans hl57), rfl, rfl⟩
  ·refine st_exit rfl ?_
   obtain rfl := he51 _ h
   replace h := hA51
   exact hk10 _ _ _ ⟨s51.2, h, hl51, rfl, rfl⟩
theorem ref34_Parse_ok {a0 : List Int} {v1 : Value} {r : (List (Int × Int × Int × Int × (TyR))) × List Int × Int × Int} (h : ref34_Parse a0 r) (σ : Sto) (hs2 : Sl (kI .u8) σ v1 a0) :
    Does Tryz.prog 15 [v1] σ [] (fun v τ gs => ∃ (v93 : Value) (v95 : Value), gs = [] ∧ .tuple [v93, v95, .I r.2.2.1, .I r.2.2.2].toArray = v ∧ Sl (kP (kI .i64) (kP (kI .u32) (kP (kI .i64) (kP (kI .i64) (kP (kI .i64) (kP (kA .i64 6) (kP (kSl (kA .i64 2)) (kP (kSl (kI .i64)) (kP kS kS))))))))) τ v93 r.1 ∧ Sl (kI .i64) τ v95 r.2.1) := by
 refine call_of Tryz.func15 Tryz.ntmps15 rfl rfl (fun cs fs => ?_)
 refine Z 20 rfl ?_
 refine st_cut (fun ρ τ3 gs => ∃ (s3 : (List (Int × Int × Int × Int × (TyR))) × List Int × Int) (v4 : Value) (g5 : Grp) (v7 : Value) (g8 : Grp), ref34_Parse_j1 s3 r ∧ σ.Le τ3 ∧ ESub ρ [(2, .N0), (3, .N0), (4, .I 0), (5, .I 0), (6, v4), (7, v7), (8, .I s3.2.2)] ∧ gs = [g5, g8] ∧ Ow (kP (kI .i64) (kP (kI .u32) (kP (kI .i64) (kP (kI .i64) (kP (kI .i64) (kP (kA .i64 6) (kP (kSl (kA .i64 2)) (kP (kSl (kI .i64)) (kP kS kS))))))))) 38 τ3 v4 s3.1 g5 ∧ Ow (kI .i64) 3 τ3 v7 s3.2.1 g8) ?_ (fun hk3 => ?_)
 ·rintro ρ3 τ3 gs3 ⟨s3, v4, g5, v7, g8, h, hl3, hρ, rfl, ho6, ho9⟩
  refine st_es hρ ?_
  refine Z 10 rfl ?_
  refine st_freeze (fun τ10 hl11 hg12 => ?_)
  have hs13 := ho6.freeze hl11 hg12
  refine st_freeze (fun τ16 hl17 hg18 => ?_)
  have hs19 := ho9.freeze (hl11.trans hl17) hg18
  obtain rfl := Eq.symm h
  exact st_ret (gs' := []) Tryz.func15 rfl (List.Sublist.refl _) ((hl3.trans hl11).trans hl17) ⟨_, _, rfl, rfl, (hs13.up hl17), hs19⟩
 obtain ⟨e22, hL22, hA22⟩ := h
 refine st_addNil ?_
 refine st_addNil ?_
 refine st_loop hL22 (fun (s22 : (List (Int × Int × Int × Int × (TyR))) × List Int × Int) ρ τ22 gs => σ.Le τ22 ∧ ∃ (v23 : Value) (g24 : Grp) (v26 : Value) (g27 : Grp), ESub ρ [(0, v1), (2, .N0), (3, .N0), (4, .I 0), (5, .I 0), (6, v23), (7, v26), (8, .I s22.2.2)] ∧ gs = [g24, g27] ∧ Ow (kP (kI .i64) (kP (kI .u32) (kP (kI .i64) (kP (kI .i64) (kP (kI .i64) (kP (kA .i64 6) (kP (kSl (kA .i64 2)) (kP (kSl (kI .i64)) (kP kS kS))))))))) 38 τ22 v23 s22.1 g24 ∧ Ow (kI .i64) 3 τ22 v26 s22.2.1 g27) ⟨Sto.Le.refl _, _, _, _, _, rfl, rfl, Ow.nil, Ow.nil⟩ ?_
 rintro s22 o22 h he22 ρ22 τ22 gs22 ⟨hl22, v23, g24, v26, g27, hρ, rfl, ho25, ho28⟩ hn22
 refine st_es hρ ?_
 refine Z 5 rfl ?_
 refine o_lenI rfl rfl rfl z_slT42 rfl (hs2.up hl22) ?_
 refine Z 2 rfl ?_
 refine st_if rfl h (fun h => ?_) (fun h => ?_)
 ·refine Z 6 rfl ?_
  obtain ⟨r29, hr30, h⟩ := h
  refine st_call (foot := []) rfl rfl rfl rfl rfl rfl (callV_fn z_en35 (ref01_Get_ok hr30 τ22 (hs2.up hl22))) ?_
  rintro vτ31 τ31 gsτ31 hl32 ⟨rfl, rfl⟩
  refine Z 9 rfl ?_
  refine st_cut (fun ρ τ33 gs => ∃ (s33 : Int), ref34_Parse_j3 a0 s22 r29 s33 o22 ∧ τ31.Le τ33 ∧ ESub ρ [(0, v1), (2, .N0), (3, .N0), (4, .I 0), (5, .I 0), (6, v23), (7, v26), (8, .I s22.2.2), (9, .int .u64 r29.1), (10, .I r29.2.1), (11, .I s33)] ∧ gs = [g24, g27]) ?_ (fun hk33 => ?_)
  ·rintro ρ33 τ33 gs33 ⟨s33, h, hl33, hρ, rfl⟩
   refine st_es hρ ?_
   refine st_seq ?_
   refine st_cut (fun ρ τ34 gs => ∃ (s34 : Int), ref34_Parse_j4 a0 s22 r29 s34 o22 ∧ τ33.Le τ34 ∧ ESub ρ [(0, v1), (2, .N0), (3, .N0), (4, .I 0), (5, .I 0), (6, v23), (7, v26), (8, .I s22.2.2), (9, .int .u64 r29.1), (10, .I r29.2.1), (11, .I s34)] ∧ gs = [g24, g27]) ?_ (fun hk34 => ?_)
   ·rintro ρ34 τ34 gs34 ⟨s34, h, hl34, hρ, rfl⟩
    refine st_es hρ ?_
    refine Z 6 rfl ?_
    refine st_if rfl h (fun h => ?_) (fun h => ?_)
    ·refine Z 11 rfl ?_
     refine st_freeze (fun τ35 hl36 hg37 => ?_)
     have hs38 := ho25.freeze (((hl32.trans hl33).trans hl34).trans hl36) hg37
     refine st_freeze (fun τ41 hl42 hg43 => ?_)
     have hs44 := ho28.freeze ((((hl32.trans hl33).trans hl34).trans hl36).trans hl42) hg43
     obtain rfl := he22 _ h
     replace h := hA22
     obtain rfl := Eq.symm h
     exact st_ret (gs' := []) Tryz.func15 rfl (List.Sublist.refl _) (((((hl22.trans hl32).trans hl33).trans hl34).trans hl36).trans hl42) ⟨_, _, rfl, rfl, (hs38.up hl42), hs44⟩
    ·refine Z 9 rfl ?_
     obtain ⟨hf47, hf48, hf49, h⟩ := h
     refine o_slice (L := r29.2.1) (H := (IntKind.i64.wrap (r29.2.1 + (IntKind.i64.wrap r29.1)))) rfl rfl rfl z_slT42 rfl rfl (hs2.up (((hl22.trans hl32).trans hl33).trans hl34)) ⟨_, rfl⟩ ⟨_, rfl⟩ hf47 hf48 hf49 trivial (by simp) (fun v50 hs51 => ?_)
     obtain ⟨r52, hr53, h⟩ := h
     refine st_call (foot := []) rfl rfl rfl rfl rfl rfl (callV_fn z_en36 (ref34_read_ok hr53 τ34 hs51)) ?_
     rintro vτ54 τ54 gsτ54 hl55 ⟨v56, v57, rfl, rfl, hs58, hs59⟩
     refine Z 3 rfl ?_
     refine o_alloc rfl rfl rfl z_zero38 (fun b60 => ?_)
     refine o_store (j := 0) (vs := [.I r52.1.1, .int .u32 r52.1.2.1, .I r52.1.2.2.1, .I r52.1.2.2.2.1, .I r52.1.t4.1, .I (r52.1.t4.2.1.getD 0 0), .I (r52.1.t4.2.1.getD 1 0), .I (r52.1.t4.2.1.getD 2 0), .I (r52.1.t4.2.1.getD 3 0), .I (r52.1.t4.2.1.getD 4 0), .I (r52.1.t4.2.1.getD 5 0), v56, v57, .string r52.1.t4.t4.1, .string r52.1.t4.t4.2]) (cs' := [.I r52.1.1, .int .u32 r52.1.2.1, .I r52.1.2.2.1, .I r52.1.2.2.2.1, .I r52.1.t4.1, .I (r52.1.t4.2.1.getD 0 0), .I (r52.1.t4.2.1.getD 1 0), .I (r52.1.t4.2.1.getD 2 0), .I (r52.1.t4.2.1.getD 3 0), .I (r52.1.t4.2.1.getD 4 0), .I (r52.1.t4.2.1.getD 5 0), v56, v57, .string r52.1.t4.t4.1, .string r52.1.t4.t4.2]) rfl rfl rfl z_size38 rfl rfl rfl (ones_cons rfl (ones_cons rfl (ones_cons rfl (ones_cons rfl (ones_cons rfl (ones_cons rfl (ones_cons rfl (ones_cons rfl (ones_cons rfl (ones_cons rfl (ones_cons rfl (ones_cons hs58.one' (ones_cons hs59.one' (ones_cons rfl (ones_cons rfl ones_nil))))))))))))))) rfl rfl rfl ?_
     refine Z 8 rfl ?_
     refine st_if rfl h (fun h => ?_) (fun h => ?_)
     ·refine Z 11 rfl ?_
      refine st_ord [1, 0, 0] _ rfl ?_
      refine st_freeze (fun τ61 hl62 hg63 => ?_)
      have hs64 := ho25.freeze ((((hl32.trans hl33).trans hl34).trans hl55).trans hl62) hg63
      refine st_ord [1, 0] _ rfl ?_
      refine st_freeze (fun τ67 hl68 hg69 => ?_)
      have hs70 := ho28.freeze (((((hl32.trans hl33).trans hl34).trans hl55).trans hl62).trans hl68) hg69
      refine st_ord [] _ rfl ?_
      obtain rfl := he22 _ h
      replace h := hA22
      obtain rfl := Eq.symm h
      exact st_ret (gs' := []) Tryz.func15 rfl (List.Sublist.refl _) ((((((hl22.trans hl32).trans hl33).trans hl34).trans hl55).trans hl62).trans hl68) ⟨_, _, rfl, rfl, (hs64.up hl68), hs70⟩
     ·refine ZZ 5 [0] rfl rfl ?_
      refine o_lit (dk := (kP (kI .i64) (kP (kI .u32) (kP (kI .i64) (kP (kI .i64) (kP (kI .i64) (kP (kA .i64 6) (kP (kSl (kA .i64 2)) (kP (kSl (kI .i64)) (kP kS kS)))))))))) (xs := [r52.1]) (ps := [(0, [.I r52.1.1, .int .u32 r52.1.2.1, .I r52.1.2.2.1, .I r52.1.2.2.2.1, .I r52.1.t4.1, .I (r52.1.t4.2.1.getD 0 0), .I (r52.1.t4.2.1.getD 1 0), .I (r52.1.t4.2.1.getD 2 0), .I (r52.1.t4.2.1.getD 3 0), .I (r52.1.t4.2.1.getD 4 0), .I (r52.1.t4.2.1.getD 5 0), v56, v57, .string r52.1.t4.t4.1, .string r52.1.t4.t4.2])]) (cs := [.I r52.1.1, .int .u32 r52.1.2.1, .I r52.1.2.2.1, .I r52.1.2.2.2.1, .I r52.1.t4.1, .I (r52.1.t4.2.1.getD 0 0), .I (r52.1.t4.2.1.getD 1 0), .I (r52.1.t4.2.1.getD 2 0), .I (r52.1.t4.2.1.getD 3 0), .I (r52.1.t4.2.1.getD 4 0), .I (r52.1.t4.2.1.getD 5 0), v56, v57, .string r52.1.t4.t4.1, .string r52.1.t4.t4.2]) rfl rfl rfl z_slT23 z_zero38 ⟨rfl, ⟨_, rfl, rfl⟩, trivial⟩ rfl rfl rfl rfl (Kd.Many.cons (d := (kP (kI .i64) (kP (kI .u32) (kP (kI .i64) (kP (kI .i64) (kP (kI .i64) (kP (kA .i64 6) (kP (kSl (kA .i64 2)) (kP (kSl (kI .i64)) (kP kS kS)))))))))) (x := r52.1) (a := [.I r52.1.1, .int .u32 r52.1.2.1, .I r52.1.2.2.1, .I r52.1.2.2.2.1, .I r52.1.t4.1, .I (r52.1.t4.2.1.getD 0 0), .I (r52.1.t4.2.1.getD 1 0), .I (r52.1.t4.2.1.getD 2 0), .I (r52.1.t4.2.1.getD 3 0), .I (r52.1.t4.2.1.getD 4 0), .I (r52.1.t4.2.1.getD 5 0), v56, v57, .string r52.1.t4.t4.1, .string r52.1.t4.t4.2]) ⟨[.I r52.1.1], _, rfl, rfl, ⟨[.int .u32 r52.1.2.1], _, rfl, rfl, ⟨[.I r52.1.2.2.1], _, rfl, rfl, ⟨[.I r52.1.2.2.2.1], _, rfl, rfl, ⟨[.I r52.1.t4.1], _, rfl, rfl, ⟨[.I (r52.1.t4.2.1.getD 0 0), .I (r52.1.t4.2.1.getD 1 0), .I (r52.1.t4.2.1.getD 2 0), .I (r52.1.t4.2.1.getD 3 0), .I (r52.1.t4.2.1.getD 4 0), .I (r52.1.t4.2.1.getD 5 0)], _, rfl, rfl, ⟨[v56], _, rfl, ⟨_, rfl, hs58⟩, ⟨[v57], _, rfl, ⟨_, rfl, hs59⟩, ⟨[.string r52.1.t4.t4.1], _, rfl, rfl, rfl⟩⟩⟩⟩⟩⟩⟩⟩⟩ Kd.Many.nil) (fun v73 g74 ho75 => ?_)
      obtain ⟨hf79, hf80, h⟩ := h
      refine st_ord [2, 0, 0, 0] _ rfl ?_
      refine o_append (dk := (kP (kI .i64) (kP (kI .u32) (kP (kI .i64) (kP (kI .i64) (kP (kI .i64) (kP (kA .i64 6) (kP (kSl (kA .i64 2)) (kP (kSl (kI .i64)) (kP kS kS)))))))))) (xs := s22.1) (ys := [r52.1]) rfl rfl rfl rfl z_slT23 rfl (ho25.up (((hl32.trans hl33).trans hl34).trans hl55)) rfl (Ow.src (j := 1) ho75 rfl) hf79 hf80 (fun v76 g77 ho78 => ?_)
      refine Z 2 rfl ?_
      refine o_litE (eI .i64) [s22.2.2] rfl rfl rfl z_slT28 z_zero3 ⟨rfl, ⟨_, rfl, rfl⟩, trivial⟩ rfl rfl rfl rfl (fun v81 g82 ho83 => ?_)
      obtain ⟨hf87, hf88, h⟩ := h
      refine st_ord [4, 0, 0, 0, 0] _ rfl ?_
      refine o_append (dk := (kI .i64)) (xs := s22.2.1) (ys := [s22.2.2]) rfl rfl rfl rfl z_slT28 rfl (ho28.up (((hl32.trans hl33).trans hl34).trans hl55)) rfl (Ow.src (j := 1) ho83 rfl) hf87 hf88 (fun v84 g85 ho86 => ?_)
      refine Z 11 rfl ?_
      refine st_ord [2, 0] _ rfl ?_
      exact hn22 _ _ _ _ h ⟨((((hl22.trans hl32).trans hl33).trans hl34).trans hl55), _, _, _, _, rfl, rfl, ho78, ho86⟩
   refine st_seq ?_
   refine st_cut (fun ρ τ89 gs => ∃ (s89 : Bool), ref34_Parse_j5 a0 s22 r29 s33 s89 o22 ∧ τ33.Le τ89 ∧ ESub ρ [(0, v1), (2, .N0), (3, .N0), (4, .I 0), (5, .I 0), (6, v23), (7, v26), (8, .I s22.2.2), (9, .int .u64 r29.1), (10, .I r29.2.1), (11, .I s33), (40, .bool s89)] ∧ gs = [g24, g27]) ?_ (fun hk89 => ?_)
   ·rintro ρ89 τ89 gs89 ⟨s89, h, hl89, hρ, rfl⟩
    refine st_es hρ ?_
    refine st_if rfl h (fun h => ?_) (fun h => ?_)
    ·refine Z 3 rfl ?_
     exact hk34 _ _ _ ⟨4, h, hl89, rfl, rfl⟩
    ·refine st_skip ?_
     exact hk34 _ _ _ ⟨s33, h, hl89, rfl, rfl⟩
   refine Z 3 rfl ?_
   refine o_mif rfl rfl rfl rfl h (fun h => ?_) (fun h => ?_)
   ·refine Z 3 rfl ?_
    refine o_lenI rfl rfl rfl z_slT42 rfl (hs2.up ((hl22.trans hl32).trans hl33)) ?_
    refine Z 5 rfl ?_
    exact hk89 _ _ _ ⟨(decide ((IntKind.i64.wrap ((a0.length : Int) - r29.2.1)) < (IntKind.i64.wrap r29.1))), h, (Sto.Le.refl _), rfl, rfl⟩
   ·refine Z 9 rfl ?_
    exact hk89 _ _ _ ⟨false, h, (Sto.Le.refl _), rfl, rfl⟩
  refine st_seq ?_
  refine st_cut (fun ρ τ90 gs => ∃ (s90 : Bool), ref34_Parse_j6 a0 s22 r29 s90 o22 ∧ τ31.Le τ90 ∧ ESub ρ [(0, v1), (2, .N0), (3, .N0), (4, .I 0), (5, .I 0), (6, v23), (7, v26), (8, .I s22.2.2), (9, .int .u64 r29.1), (10, .I r29.2.1), (11, .I r29.2.2), (29, .bool s90)] ∧ gs = [g24, g27]) ?_ (fun hk90 => ?_)
  ·rintro ρ90 τ90 gs90 ⟨s90, h, hl90, hρ, rfl⟩
   refine st_es hρ ?_
   refine st_if rfl h (fun h => ?_) (fun h => ?_)
   ·refine Z 3 rfl ?_
    exact hk33 _ _ _ ⟨6, h, hl90, rfl, rfl⟩
   ·refine st_skip ?_
    exact hk33 _ _ _ ⟨r29.2.2, h, hl90, rfl, rfl⟩
  refine Z 3 rfl ?_
  refine o_mif rfl rfl rfl rfl h (fun h => ?_) (fun h => ?_)
  ·refine Z 4 rfl ?_
   exact hk90 _ _ _ ⟨(decide (200 < r29.1)), h, (Sto.Le.refl _), rfl, rfl⟩
  ·refine Z 4 rfl ?_
   exact hk90 _ _ _ ⟨false, h, (Sto.Le.refl _), rfl, rfl⟩
 ·refine st_exit rfl ?_
  obtain rfl := he22 _ h
  replace h := hA22
  exact hk3 _ _ _ ⟨(s22.1, s22.2.1, s22.2.2), _, _, _, _, h, hl22, rfl, rfl, ho25, ho28⟩
theorem log_Each_1_1_ok {S : Type} {Y : (Int × (Int × Int × Int × Int × (TyM))) → S → Bool × S → Prop} {I : S → Sto → Grp → Prop} {y : Value} {σ0 : Sto} {g0 : Grp} {s : S} {v1 : Value} {v2 : Value} {bc0 : Nat} {a0 : Int} {a1 : Int} {a2 : Int × Int × Int × Int × (TyM)} {r : Bool × S} (h : log_Each_1_1 S Y a0 a1 a2 s r) (σ : Sto) (hyc : y.cells.toList = [y]) (hyo : y.oneCell' = true) (hIm : ∀ s σ σ' g, σ.Le σ' → I s σ g → I s σ' g) (hY : ∀ x s b s' σ g vx, σ0.Le σ → Y x s (b, s') → (fun τ x vx => ∃ (v23 : Value) (v24 : Value), vx = [.I x.1, .agg [.I x.2.1, .int .u32 x.2.2.1, .I x.2.2.2.1, .I x.t4.1, .I x.t4.2.1, .I (x.t4.2.2.1.getD 0 0), .I (x.t4.2.2.1.getD 1 0), .I (x.t4.2.2.1.getD 2 0), .I (x.t4.2.2.1.getD 3 0), .I (x.t4.2.2.1.getD 4 0), .I (x.t4.2.2.1.getD 5 0), v23, v24, .string x.t4.t4.2.1, .string x.t4.t4.2.2].toArray] ∧ Sl (kP (kI .i64) (kI .i64)) τ v23 x.t4.2.2.2.1 ∧ Sl (kI .i64) τ v24 x.t4.t4.1) σ x vx → I s σ g → DoesV Tryz.prog y vx σ [g] (fun v σ' gs' => v = .bool b ∧ ∃ g', gs' = [g'] ∧ I s' σ' g')) (hle : σ0.Le σ) (hIg : I s σ g0) (hs3 : Sl (kP (kI .i64) (kI .i64)) σ v1 a2.t4.2.2.1) (hs4 : Sl (kI .i64) σ v2 a2.t4.2.2.2.1) :
    Does Tryz.prog 38 [.I a0, .I a1, .agg [.I a2.1, .int .u32 a2.2.1, .I a2.2.2.1, .I a2.2.2.2.1, .I a2.t4.1, .I (a2.t4.2.1.getD 0 0), .I (a2.t4.2.1.getD 1 0), .I (a2.t4.2.1.getD 2 0), .I (a2.t4.2.1.getD 3 0), .I (a2.t4.2.1.getD 4 0), .I (a2.t4.2.1.getD 5 0), v1, v2, .string a2.t4.t4.1, .string a2.t4.t4.2].toArray, .Pb bc0] σ [[(bc0, .cells [y].toArray 82 (0, 0))], g0] (fun v τ gs => ∃ (g13 : Grp), gs = [[(bc0, .cells [y].toArray 82 (0, 0))], g13] ∧ .bool r.1 = v ∧ I r.2 τ g13) := by
 refine call_of Tryz.func38 Tryz.ntmps38 rfl rfl (fun cs fs => ?_)
 refine Z 2 rfl ?_
 refine o_box (cs := [.I a2.1, .int .u32 a2.2.1, .I a2.2.2.1, .I a2.2.2.2.1, .I a2.t4.1, .I (a2.t4.2.1.getD 0 0), .I (a2.t4.2.1.getD 1 0), .I (a2.t4.2.1.getD 2 0), .I (a2.t4.2.1.getD 3 0), .I (a2.t4.2.1.getD 4 0), .I (a2.t4.2.1.getD 5 0), v1, v2, .string a2.t4.t4.1, .string a2.t4.t4.2]) rfl rfl rfl rfl rfl (fun b5 => ?_)
 refine ZZ 7 [1, 0] rfl rfl ?_
 obtain ⟨y6, u7, hy8, h⟩ := h
 refine st_ord [2, 0, 0] _ rfl ?_
 refine st_call (foot := [g0]) rfl rfl rfl rfl rfl rfl (hY (a0, a2) s _ _ _ _ _ (hle.trans (Sto.Le.refl _)) hy8 ⟨_, _, rfl, hs3, hs4⟩ hIg) ?_
 rintro vτ9 τ9 gsτ9 hl10 ⟨rfl, g11, rfl, hI12⟩
 refine Z 2 rfl ?_
 refine st_ord [2, 0] _ rfl ?_
 obtain rfl := Eq.symm h
 exact st_ret (gs' := [[(bc0, .cells #[y] 82 (0, 0))], g11]) Tryz.func38 rfl (List.Sublist.refl _) hl10 ⟨_, rfl, rfl, hI12⟩
theorem log_each__log_Each_1_1_ok {S : Type} {Y : (Int × (Int × Int × Int × Int × (TyM))) → S → Bool × S → Prop} {I : S → Sto → Grp → Prop} {y : Value} {σ0 : Sto} {g0 : Grp} {s : S} {v1 : Value} {ba1_0 : Nat} {a0 : List Int} {r : Int × S} (h : log_each__log_Each_1_1 S Y a0 s r) (σ : Sto) (hyc : y.cells.toList = [y]) (hyo : y.oneCell' = true) (hIm : ∀ s σ σ' g, σ.Le σ' → I s σ g → I s σ' g) (hY : ∀ x s b s' σ g vx, σ0.Le σ → Y x s (b, s') → (fun τ x vx => ∃ (v21 : Value) (v22 : Value), vx = [.I x.1, .agg [.I x.2.1, .int .u32 x.2.2.1, .I x.2.2.2.1, .I x.t4.1, .I x.t4.2.1, .I (x.t4.2.2.1.getD 0 0), .I (x.t4.2.2.1.getD 1 0), .I (x.t4.2.2.1.getD 2 0), .I (x.t4.2.2.1.getD 3 0), .I (x.t4.2.2.1.getD 4 0), .I (x.t4.2.2.1.getD 5 0), v21, v22, .string x.t4.t4.2.1, .string x.t4.t4.2.2].toArray] ∧ Sl (kP (kI .i64) (kI .i64)) τ v21 x.t4.2.2.2.1 ∧ Sl (kI .i64) τ v22 x.t4.t4.1) σ x vx → I s σ g → DoesV Tryz.prog y vx σ [g] (fun v σ' gs' => v = .bool b ∧ ∃ g', gs' = [g'] ∧ I s' σ' g')) (hle : σ0.Le σ) (hIg : I s σ g0) (hs2 : Sl (kI .u8) σ v1 a0) :
    Does Tryz.prog 33 [v1, .func (.func 38) #[] [.Pb ba1_0].toArray] σ [[(ba1_0, .cells [y].toArray 82 (0, 0))], g0] (fun v τ gs => ∃ (g66 : Grp), gs = [[(ba1_0, .cells [y].toArray 82 (0, 0))], g66] ∧ .I r.1 = v ∧ I r.2 τ g66) := by
 refine call_of Tryz.func33 Tryz.ntmps33 rfl rfl (fun cs fs => ?_)
 refine Z 8 rfl ?_
 obtain ⟨r3, hr4, h⟩ := h
 refine st_call (foot := []) rfl rfl rfl rfl rfl rfl (callV_fn z_en59 (lens_New_ok hr4 σ hs2)) ?_
 rintro vτ5 τ5 gsτ5 hl6 ⟨b7, v8, rfl, rfl, hs9⟩
 refine Z 5 rfl ?_
 refine st_cut (fun ρ τ10 gs => ∃ (s10 : S) (g11 : Grp), log_each__log_Each_1_1_j1 S Y s10 r ∧ τ5.Le τ10 ∧ ESub ρ [(4, .I 0)] ∧ gs = [[(ba1_0, .cells #[y] 82 (0, 0))], g11] ∧ I s10 τ10 g11) ?_ (fun hk10 => ?_)
 ·rintro ρ10 τ10 gs10 ⟨s10, g11, h, hl10, hρ, rfl, hI12⟩
  refine st_es hρ ?_
  refine Z 4 rfl ?_
  obtain rfl := Eq.symm h
  exact st_ret (gs' := [[(ba1_0, .cells #[y] 82 (0, 0))], g11]) Tryz.func33 rfl (List.Sublist.refl _) (hl6.trans hl10) ⟨_, rfl, rfl, hI12⟩
 obtain ⟨e13, hL13, hA13⟩ := h
 refine st_ord [1, 0, 0] _ rfl ?_
 refine st_loop hL13 (fun (s13 : S × List Int × Int × Int) ρ τ13 gs => τ5.Le τ13 ∧ ∃ (g14 : Grp) (v16 : Value), ESub ρ [(1, .func (.func 38) #[] #[.Pb ba1_0]), (4, .I 0), (5, .Pb b7)] ∧ gs = [[(ba1_0, .cells #[y] 82 (0, 0))], [(b7, .cells #[v16, .I s13.2.2.1, .I s13.2.2.2] 137 (0, 0))], g14] ∧ I s13.1 τ13 g14 ∧ Sl (kI .u8) τ13 v16 s13.2.1) ⟨Sto.Le.refl _, g0, _, rfl, rfl, (hIm _ _ _ _ hl6 hIg), hs9⟩ ?_
 rintro s13 o13 h he13 ρ13 τ13 gs13 ⟨hl13, g14, v16, hρ, rfl, hI15, hs17⟩ hn13
 refine st_es hρ ?_
 refine Z 4 rfl ?_
 obtain ⟨r18, hr19, h⟩ := h
 refine st_ord [1, 0, 0] _ rfl ?_
 refine st_call (foot := [[(b7, .cells #[v16, .I s13.2.2.1, .I s13.2.2.2] 137 (0, 0))]]) rfl rfl rfl rfl rfl rfl (callV_fn z_en60 (lens_Lens_Left_ok hr19 τ13 hs17)) ?_
 rintro vτ20 τ20 gsτ20 hl21 ⟨rfl, rfl⟩
 refine Z 2 rfl ?_
 refine st_if rfl h (fun h => ?_) (fun h => ?_)
 ·refine Z 5 rfl ?_
  obtain ⟨r22, hr23, h⟩ := h
  refine st_call (foot := [[(b7, .cells #[v16, .I s13.2.2.1, .I s13.2.2.2] 137 (0, 0))]]) rfl rfl rfl rfl rfl rfl (callV_fn z_en61 (lens_Lens_Place_ok hr23 τ20 (hs17.up hl21))) ?_
  rintro vτ24 τ24 gsτ24 hl25 ⟨rfl, rfl⟩
  refine Z 5 rfl ?_
  obtain ⟨r26, hr27, h⟩ := h
  refine st_call (foot := [[(b7, .cells #[v16, .I s13.2.2.1, .I s13.2.2.2] 137 (0, 0))]]) rfl rfl rfl rfl rfl rfl (callV_fn z_en62 (lens_Lens_Field_ok hr27 τ24 (hs17.up (hl21.trans hl25)))) ?_
  rintro vτ28 τ28 gsτ28 hl29 ⟨v30, v32, rfl, rfl, hs31, hs33⟩
  refine Z 6 rfl ?_
  obtain ⟨r34, hr35, h⟩ := h
  refine st_call (foot := [[(b7, .cells #[v32, .I r26.2.2.1, .I r26.2.2.2] 137 (0, 0))]]) rfl rfl rfl rfl rfl rfl (callV_fn z_en63 (lens_Lens_Err_ok hr35 τ28 hs33)) ?_
  rintro vτ36 τ36 gsτ36 hl37 ⟨rfl, rfl⟩
  refine Z 2 rfl ?_
  refine st_if rfl h (fun h => ?_) (fun h => ?_)
  ·refine Z 3 rfl ?_
   obtain ⟨r38, hr39, h⟩ := h
   refine st_call (foot := [[(b7, .cells #[v32, .I r26.2.2.1, .I r26.2.2.2] 137 (0, 0))]]) rfl rfl rfl rfl rfl rfl (callV_fn z_en63 (lens_Lens_Err_ok hr39 τ36 (hs33.up hl37))) ?_
   rintro vτ40 τ40 gsτ40 hl41 ⟨rfl, rfl⟩
   refine Z 2 rfl ?_
   refine st_ord [1, 1] _ rfl ?_
   obtain rfl := he13 _ h
   replace h := hA13
   obtain rfl := Eq.symm h
   exact st_ret (gs' := [[(ba1_0, .cells #[y] 82 (0, 0))], g14]) Tryz.func33 rfl (List.Sublist.refl _) ((((((hl6.trans hl13).trans hl21).trans hl25).trans hl29).trans hl37).trans hl41) ⟨_, rfl, rfl, (hIm _ _ _ _ ((((hl21.trans hl25).trans hl29).trans hl37).trans hl41) hI15)⟩
  ·refine Z 4 rfl ?_
   obtain ⟨r42, hr43, h⟩ := h
   refine st_call (foot := []) rfl rfl rfl rfl rfl rfl (callV_fn z_en64 (log_read_ok hr43 τ36 (hs31.up hl37))) ?_
   rintro vτ44 τ44 gsτ44 hl45 ⟨v46, v47, rfl, rfl, hs48, hs49⟩
   refine Z 3 rfl ?_
   refine o_alloc rfl rfl rfl z_zero32 (fun b50 => ?_)
   refine o_store (j := 0) (vs := [.I r42.1.1, .int .u32 r42.1.2.1, .I r42.1.2.2.1, .I r42.1.2.2.2.1, .I r42.1.t4.1, .I (r42.1.t4.2.1.getD 0 0), .I (r42.1.t4.2.1.getD 1 0), .I (r42.1.t4.2.1.getD 2 0), .I (r42.1.t4.2.1.getD 3 0), .I (r42.1.t4.2.1.getD 4 0), .I (r42.1.t4.2.1.getD 5 0), v46, v47, .string r42.1.t4.t4.1, .string r42.1.t4.t4.2]) (cs' := [.I r42.1.1, .int .u32 r42.1.2.1, .I r42.1.2.2.1, .I r42.1.2.2.2.1, .I r42.1.t4.1, .I (r42.1.t4.2.1.getD 0 0), .I (r42.1.t4.2.1.getD 1 0), .I (r42.1.t4.2.1.getD 2 0), .I (r42.1.t4.2.1.getD 3 0), .I (r42.1.t4.2.1.getD 4 0), .I (r42.1.t4.2.1.getD 5 0), v46, v47, .string r42.1.t4.t4.1, .string r42.1.t4.t4.2]) rfl rfl rfl z_size32 rfl rfl rfl (ones_cons rfl (ones_cons rfl (ones_cons rfl (ones_cons rfl (ones_cons rfl (ones_cons rfl (ones_cons rfl (ones_cons rfl (ones_cons rfl (ones_cons rfl (ones_cons rfl (ones_cons hs48.one' (ones_cons hs49.one' (ones_cons rfl (ones_cons rfl ones_nil))))))))))))))) rfl rfl rfl ?_
   refine Z 8 rfl ?_
   refine st_if rfl h (fun h => ?_) (fun h => ?_)
   ·refine Z 5 rfl ?_
    refine st_ord [2, 2] _ rfl ?_
    obtain rfl := he13 _ h
    replace h := hA13
    obtain rfl := Eq.symm h
    exact st_ret (gs' := [[(ba1_0, .cells #[y] 82 (0, 0))], g14]) Tryz.func33 rfl (List.Sublist.refl _) ((((((hl6.trans hl13).trans hl21).trans hl25).trans hl29).trans hl37).trans hl45) ⟨_, rfl, rfl, (hIm _ _ _ _ ((((hl21.trans hl25).trans hl29).trans hl37).trans hl45) hI15)⟩
   ·refine Z 2 rfl ?_
    obtain ⟨r51, hr52, r55, hr56, h⟩ := h
    refine st_d41 [[(b50, .cells #[.I r42.1.1, .int .u32 r42.1.2.1, .I r42.1.2.2.1, .I r42.1.2.2.2.1, .I r42.1.t4.1, .I (r42.1.t4.2.1.getD 0 0), .I (r42.1.t4.2.1.getD 1 0), .I (r42.1.t4.2.1.getD 2 0), .I (r42.1.t4.2.1.getD 3 0), .I (r42.1.t4.2.1.getD 4 0), .I (r42.1.t4.2.1.getD 5 0), v46, v47, .string r42.1.t4.t4.1, .string r42.1.t4.t4.2] 32 (0, 0))], [(b7, .cells #[v32, .I r26.2.2.1, .I r26.2.2.2] 137 (0, 0))], [(ba1_0, .cells #[y] 82 (0, 0))]] [g14] 7 1 [none, none, none, none, none, some (0, 0), none] [none, none, none, none, none, none, none] [[none, some 37]] [.v (.func (.func 38) #[] #[.Pb ba1_0]), .v (.I r22), .v (.Pb b7), .v (.I r51), .v (.agg #[.I r42.1.1, .int .u32 r42.1.2.1, .I r42.1.2.2.1, .I r42.1.2.2.2.1, .I r42.1.t4.1, .I (r42.1.t4.2.1.getD 0 0), .I (r42.1.t4.2.1.getD 1 0), .I (r42.1.t4.2.1.getD 2 0), .I (r42.1.t4.2.1.getD 3 0), .I (r42.1.t4.2.1.getD 4 0), .I (r42.1.t4.2.1.getD 5 0), v46, v47, .string r42.1.t4.t4.1, .string r42.1.t4.t4.2]), .v (.bool r55.1), .v (.bool (!r55.1))] [[fun τ u F => F = [g14], fun τ u F => ∃ (g61 : Grp), F = [g61] ∧ I r55.2 τ g61]] rfl z_mix rfl trivial ⟨⟨fun _ _ _ _ hl h => h, ⟨fun _ _ _ _ hl h => (let ⟨g61, hF, hI62⟩ := h; ⟨g61, hF, hIm _ _ _ _ hl hI62⟩), trivial⟩⟩, trivial⟩ rfl rfl ?_ (allB_cons (allB_cons (allB_cons (allB_cons (allB_cons (allB_cons (allB_cons allB_nil (p4 dA)) (p4 dA)) (p4 dA)) ?_) ?_) ?_) (p4 dA)) ?_
    ·exact rfl
    ·intro ρ' τ pool rs hl hd hout hw hk
     obtain ⟨_, e2, rfl⟩ := hd 2 rfl _ rfl
     refine st_ord [1, 0, 0, 0] _ rfl ?_
     refine st_call (foot := [[(b7, .cells #[v32, .I r26.2.2.1, .I r26.2.2.2] 137 (0, 0))]]) rfl rfl rfl rfl (evs_cons e2 rfl) rfl (callV_fn z_en61 (lens_Lens_Place_ok hr52 τ (hs33.up ((hl37.trans hl45).trans hl)))) ?_
     rintro vτ53 τ53 gsτ53 hl54 ⟨rfl, rfl⟩
     refine st_ord [1, 0, 0, 0] _ rfl ?_
     exact hk _ _ hl54 rfl
    ·intro ρ' τ pool rs hl hd hout hw hk
     refine o_loadN (j := 0) (vs := [.I r42.1.1, .int .u32 r42.1.2.1, .I r42.1.2.2.1, .I r42.1.2.2.2.1, .I r42.1.t4.1, .I (r42.1.t4.2.1.getD 0 0), .I (r42.1.t4.2.1.getD 1 0), .I (r42.1.t4.2.1.getD 2 0), .I (r42.1.t4.2.1.getD 3 0), .I (r42.1.t4.2.1.getD 4 0), .I (r42.1.t4.2.1.getD 5 0), v46, v47, .string r42.1.t4.t4.1, .string r42.1.t4.t4.2]) rfl rfl rfl z_agg32 ((hout 8 rfl).trans rfl) rfl rfl ?_
     exact hk _ _ (Sto.Le.refl _) rfl
    ·intro ρ' τ u Fv pool rs hl hI hu hd hout hw hk
     obtain ⟨_, e0, rfl⟩ := hd 0 rfl _ rfl
     obtain ⟨_, e1, rfl⟩ := hd 1 rfl _ rfl
     obtain ⟨_, e3, rfl⟩ := hd 3 rfl _ rfl
     obtain ⟨_, e4, rfl⟩ := hd 4 rfl _ rfl
     have hI0 := hI
     obtain rfl := hI
     refine st_ord [2, 2, 0, 0, 0] _ rfl ?_
     refine st_call (foot := [[(ba1_0, .cells #[y] 82 (0, 0))], g14]) rfl rfl rfl e0 (evs_cons e1 (evs_cons e3 (evs_cons e4 rfl))) rfl (callV_of2 (caps := [.Pb ba1_0]) z_en38 (log_Each_1_1_ok hr56 τ hyc hyo hIm hY (hle.trans (((((((hl6.trans hl13).trans hl21).trans hl25).trans hl29).trans hl37).trans hl45).trans hl)) (hIm _ _ _ _ (((((hl21.trans hl25).trans hl29).trans hl37).trans hl45).trans hl) hI15) (hs48.up hl) (hs49.up hl)) rfl) ?_
     rintro vτ57 τ57 gsτ57 hl58 ⟨g59, rfl, rfl, hI60⟩
     refine st_ord [2, 2, 0, 0, 0] _ rfl ?_
     exact hk _ _ [g59] hl58 rfl (by exact ⟨g59, rfl, hI60⟩)
    intro ρ' τ63 vals u Fv hl63 hI hu hv hout
    obtain ⟨g61, rfl, hI62⟩ := hI
    refine st_env (ρ' := [(38, .bool (!r55.1)), (1, .func (.func 38) #[] #[.Pb ba1_0]), (4, .I 0), (5, .Pb b7)]) ⟨(lv4 hv 6 rfl rfl rfl), (hout 1 rfl).trans rfl, (hout 4 rfl).trans rfl, (hout 5 rfl).trans rfl, trivial⟩ ?_
    refine st_end ?_
    refine st_if rfl h (fun h => ?_) (fun h => ?_)
    ·refine st_exit rfl ?_
     obtain rfl := he13 _ h
     replace h := hA13
     refine st_ord [2, 2] _ rfl ?_
     exact hk10 _ _ _ ⟨r55.2, g61, h, ((((((hl13.trans hl21).trans hl25).trans hl29).trans hl37).trans hl45).trans hl63), rfl, rfl, hI62⟩
    ·refine Z 2 rfl ?_
     refine st_ord [2, 1, 1] _ rfl ?_
     exact hn13 _ _ _ _ h ⟨((((((hl13.trans hl21).trans hl25).trans hl29).trans hl37).trans hl45).trans hl63), g61, _, rfl, rfl, hI62, (hs33.up ((hl37.trans hl45).trans hl63))⟩
 ·refine st_exit rfl ?_
  obtain rfl := he13 _ h
  replace h := hA13
  refine st_ord [1, 1] _ rfl ?_
  exact hk10 _ _ _ ⟨s13.1, g14, h, (hl13.trans hl21), rfl, rfl, (hIm _ _ _ _ hl21 hI15)⟩
theorem log_Each_1_ok {c0 : List Int} {bc0 : Nat} {v1 : Value} {σ0 : Sto} (hc0_0 : Cel σ0 ⟨bc0, 0, none⟩ (v1)) (hs2 : Sl (kI .u8) σ0 v1 c0) :
    IterV Tryz.prog (fun τ x vx => ∃ (v19 : Value) (v20 : Value), vx = [.I x.1, .agg [.I x.2.1, .int .u32 x.2.2.1, .I x.2.2.2.1, .I x.t4.1, .I x.t4.2.1, .I (x.t4.2.2.1.getD 0 0), .I (x.t4.2.2.1.getD 1 0), .I (x.t4.2.2.1.getD 2 0), .I (x.t4.2.2.1.getD 3 0), .I (x.t4.2.2.1.getD 4 0), .I (x.t4.2.2.1.getD 5 0), v19, v20, .string x.t4.t4.2.1, .string x.t4.t4.2.2].toArray] ∧ Sl (kP (kI .i64) (kI .i64)) τ v19 x.t4.2.2.2.1 ∧ Sl (kI .i64) τ v20 x.t4.t4.1) (.func (.func 37) #[] [.Pb bc0].toArray) σ0 [] (fun (_ : Unit) _ f => f = []) (log_Each_1 c0) := by
 intro S Y I y hyc hyo hIm hY s s' o hR σ g hle hIg
 obtain ⟨r, hr0⟩ : ∃ r, r = (s', o) := ⟨_, rfl⟩
 rw [← hr0] at hR
 have h := hR
 refine callV_of (caps := [.Pb bc0]) z_en37 ?_
 refine call_of Tryz.func37 Tryz.ntmps37 rfl rfl (fun cs fs => ?_)
 refine st_ord [0] _ rfl ?_
 refine Z 2 rfl ?_
 refine o_box (cs := [y]) rfl rfl rfl rfl hyc (fun b3 => ?_)
 refine Z 2 rfl ?_
 refine o_loadI (v := v1) rfl rfl rfl z_sc42 rfl (Cel.up hc0_0 hle) ?_
 refine o_func rfl rfl rfl rfl rfl ?_
 obtain ⟨r4, hr5, h⟩ := h
 refine st_call (foot := [[(b3, .cells #[y] 82 (0, 0))], g]) rfl rfl rfl rfl rfl rfl (callV_fn z_en33 (log_each__log_Each_1_1_ok hr5 σ hyc hyo hIm hY (hle.trans (Sto.Le.refl _)) hIg (hs2.up hle))) ?_
 rintro vτ6 τ6 gsτ6 hl7 ⟨g8, rfl, rfl, hI9⟩
 refine st_end ?_
 refine st_ord [1] _ rfl ?_
 obtain rfl := Eq.symm h
 cases hr0
 exact st_fin (gs' := [g8, []]) Tryz.func37 rfl (by simp) hl7 ⟨g8, _, rfl, hI9, rfl⟩
theorem log_Each_ok {a0 : List Int} {v1 : Value} {r : (((S : Type) → ((Int × (Int × Int × Int × Int × (TyM))) → S → Bool × S → Prop) → S → S × Unit → Prop))} (h : log_Each a0 r) (σ : Sto) (hs2 : Sl (kI .u8) σ v1 a0) :
    Does Tryz.prog 16 [v1] σ [] (fun v τ gs => ∃ (f7 : Nat) (q8 : Array Value), gs = [] ∧ .func (.func f7) #[] q8 = v ∧ IterV Tryz.prog (fun τ x vx => ∃ (v27 : Value) (v28 : Value), vx = [.I x.1, .agg [.I x.2.1, .int .u32 x.2.2.1, .I x.2.2.2.1, .I x.t4.1, .I x.t4.2.1, .I (x.t4.2.2.1.getD 0 0), .I (x.t4.2.2.1.getD 1 0), .I (x.t4.2.2.1.getD 2 0), .I (x.t4.2.2.1.getD 3 0), .I (x.t4.2.2.1.getD 4 0), .I (x.t4.2.2.1.getD 5 0), v27, v28, .string x.t4.t4.2.1, .string x.t4.t4.2.2].toArray] ∧ Sl (kP (kI .i64) (kI .i64)) τ v27 x.t4.2.2.2.1 ∧ Sl (kI .i64) τ v28 x.t4.t4.1) (.func (.func f7) #[] q8) τ [] (fun (_ : Unit) _ f => f = []) r) := by
 refine call_of Tryz.func16 Tryz.ntmps16 rfl rfl (fun cs fs => ?_)
 refine Z 2 rfl ?_
 refine o_box (cs := [v1]) rfl rfl rfl rfl (oneL_sl hs2) (fun b3 => ?_)
 refine Z 4 rfl ?_
 refine st_freeze (fun τ4 hl5 hg6 => ?_)
 refine Z 3 rfl ?_
 obtain rfl := Eq.symm h
 exact st_ret (gs' := []) Tryz.func16 rfl (List.Sublist.refl _) hl5 ⟨_, _, rfl, rfl, (log_Each_1_ok (cel_of hg6 rfl) (hs2.up hl5))⟩
theorem log_Repair_1_ok {a0 : Int} {a1 : Int} {a2 : Int × Int × Int × Int × (TyM)} {c0 : Int} {c1 : Int} {v1 : Value} {v2 : Value} {bc0 : Nat} {bc1 : Nat} {r : Bool × Int × Int} (h : log_Repair_1 a0 a1 a2 c0 c1 r) (σ : Sto) (hs3 : Sl (kP (kI .i64) (kI .i64)) σ v1 a2.t4.2.2.1) (hs4 : Sl (kI .i64) σ v2 a2.t4.2.2.2.1) :
    Does Tryz.prog 39 [.I a0, .I a1, .agg [.I a2.1, .int .u32 a2.2.1, .I a2.2.2.1, .I a2.2.2.2.1, .I a2.t4.1, .I (a2.t4.2.1.getD 0 0), .I (a2.t4.2.1.getD 1 0), .I (a2.t4.2.1.getD 2 0), .I (a2.t4.2.1.getD 3 0), .I (a2.t4.2.1.getD 4 0), .I (a2.t4.2.1.getD 5 0), v1, v2, .string a2.t4.t4.1, .string a2.t4.t4.2].toArray, .Pb bc0, .Pb bc1] σ [[(bc0, .cells [.I c0].toArray 3 (0, 0))], [(bc1, .cells [.I c1].toArray 3 (0, 0))]] (fun v τ gs => gs = [[(bc0, .cells [.I r.2.1].toArray 3 (0, 0))], [(bc1, .cells [.I r.2.2].toArray 3 (0, 0))]] ∧ .bool r.1 = v) := by
 refine call_of Tryz.func39 Tryz.ntmps39 rfl rfl (fun cs fs => ?_)
 refine Z 2 rfl ?_
 refine o_box (cs := [.I a2.1, .int .u32 a2.2.1, .I a2.2.2.1, .I a2.2.2.2.1, .I a2.t4.1, .I (a2.t4.2.1.getD 0 0), .I (a2.t4.2.1.getD 1 0), .I (a2.t4.2.1.getD 2 0), .I (a2.t4.2.1.getD 3 0), .I (a2.t4.2.1.getD 4 0), .I (a2.t4.2.1.getD 5 0), v1, v2, .string a2.t4.t4.1, .string a2.t4.t4.2]) rfl rfl rfl rfl rfl (fun b5 => ?_)
 refine ZZ 14 [1, 1, 2] rfl rfl ?_
 refine st_ord [1, 1] _ rfl ?_
 obtain rfl := Eq.symm h
 exact st_ret (gs' := [[(bc0, .cells #[.I (IntKind.i64.wrap (c0 + 1))] 3 (0, 0))], [(bc1, .cells #[.I a1] 3 (0, 0))]]) Tryz.func39 rfl (List.Sublist.refl _) (Sto.Le.refl _) ⟨rfl, rfl⟩
theorem log_each__log_Repair_1_ok {a0 : List Int} {a1_0 : Int} {a1_1 : Int} {v1 : Value} {ba1_0 : Nat} {ba1_1 : Nat} {r : Int × Int × Int} (h : log_each__log_Repair_1 a0 a1_0 a1_1 r) (σ : Sto) (hs2 : Sl (kI .u8) σ v1 a0) :
    Does Tryz.prog 33 [v1, .func (.func 39) #[] [.Pb ba1_0, .Pb ba1_1].toArray] σ [[(ba1_0, .cells [.I a1_0].toArray 3 (0, 0))], [(ba1_1, .cells [.I a1_1].toArray 3 (0, 0))]] (fun v τ gs => gs = [[(ba1_0, .cells [.I r.2.1].toArray 3 (0, 0))], [(ba1_1, .cells [.I r.2.2].toArray 3 (0, 0))]] ∧ .I r.1 = v) := by
 refine call_of Tryz.func33 Tryz.ntmps33 rfl rfl (fun cs fs => ?_)
 refine Z 8 rfl ?_
 obtain ⟨r3, hr4, h⟩ := h
 refine st_call (foot := []) rfl rfl rfl rfl rfl rfl (callV_fn z_en59 (lens_New_ok hr4 σ hs2)) ?_
 rintro vτ5 τ5 gsτ5 hl6 ⟨b7, v8, rfl, rfl, hs9⟩
 refine Z 5 rfl ?_
 refine st_cut (fun ρ τ10 gs => ∃ (s10 : Int × Int), log_each__log_Repair_1_j1 s10 r ∧ τ5.Le τ10 ∧ ESub ρ [(4, .I 0)] ∧ gs = [[(ba1_0, .cells #[.I s10.1] 3 (0, 0))], [(ba1_1, .cells #[.I s10.2] 3 (0, 0))]]) ?_ (fun hk10 => ?_)
 ·rintro ρ10 τ10 gs10 ⟨s10, h, hl10, hρ, rfl⟩
  refine st_es hρ ?_
  refine Z 4 rfl ?_
  obtain rfl := Eq.symm h
  exact st_ret (gs' := [[(ba1_0, .cells #[.I s10.1] 3 (0, 0))], [(ba1_1, .cells #[.I s10.2] 3 (0, 0))]]) Tryz.func33 rfl (List.Sublist.refl _) (hl6.trans hl10) ⟨rfl, rfl⟩
 obtain ⟨e11, hL11, hA11⟩ := h
 refine st_ord [1, 1, 0] _ rfl ?_
 refine st_loop hL11 (fun (s11 : Int × Int × List Int × Int × Int) ρ τ11 gs => τ5.Le τ11 ∧ ∃ (v12 : Value), ESub ρ [(1, .func (.func 39) #[] #[.Pb ba1_0, .Pb ba1_1]), (4, .I 0), (5, .Pb b7)] ∧ gs = [[(ba1_0, .cells #[.I s11.1] 3 (0, 0))], [(ba1_1, .cells #[.I s11.2.1] 3 (0, 0))], [(b7, .cells #[v12, .I s11.2.2.2.1, .I s11.t4] 137 (0, 0))]] ∧ Sl (kI .u8) τ11 v12 s11.2.2.1) ⟨Sto.Le.refl _, _, rfl, rfl, hs9⟩ ?_
 rintro s11 o11 h he11 ρ11 τ11 gs11 ⟨hl11, v12, hρ, rfl, hs13⟩ hn11
 refine st_es hρ ?_
 refine Z 4 rfl ?_
 obtain ⟨r14, hr15, h⟩ := h
 refine st_ord [2, 0, 0] _ rfl ?_
 refine st_call (foot := [[(b7, .cells #[v12, .I s11.2.2.2.1, .I s11.t4] 137 (0, 0))]]) rfl rfl rfl rfl rfl rfl (callV_fn z_en60 (lens_Lens_Left_ok hr15 τ11 hs13)) ?_
 rintro vτ16 τ16 gsτ16 hl17 ⟨rfl, rfl⟩
 refine Z 2 rfl ?_
 refine st_if rfl h (fun h => ?_) (fun h => ?_)
 ·refine Z 5 rfl ?_
  obtain ⟨r18, hr19, h⟩ := h
  refine st_call (foot := [[(b7, .cells #[v12, .I s11.2.2.2.1, .I s11.t4] 137 (0, 0))]]) rfl rfl rfl rfl rfl rfl (callV_fn z_en61 (lens_Lens_Place_ok hr19 τ16 (hs13.up hl17))) ?_
  rintro vτ20 τ20 gsτ20 hl21 ⟨rfl, rfl⟩
  refine Z 5 rfl ?_
  obtain ⟨r22, hr23, h⟩ := h
  refine st_call (foot := [[(b7, .cells #[v12, .I s11.2.2.2.1, .I s11.t4] 137 (0, 0))]]) rfl rfl rfl rfl rfl rfl (callV_fn z_en62 (lens_Lens_Field_ok hr23 τ20 (hs13.up (hl17.trans hl21)))) ?_
  rintro vτ24 τ24 gsτ24 hl25 ⟨v26, v28, rfl, rfl, hs27, hs29⟩
  refine Z 6 rfl ?_
  obtain ⟨r30, hr31, h⟩ := h
  refine st_call (foot := [[(b7, .cells #[v28, .I r22.2.2.1, .I r22.2.2.2] 137 (0, 0))]]) rfl rfl rfl rfl rfl rfl (callV_fn z_en63 (lens_Lens_Err_ok hr31 τ24 hs29)) ?_
  rintro vτ32 τ32 gsτ32 hl33 ⟨rfl, rfl⟩
  refine Z 2 rfl ?_
  refine st_if rfl h (fun h => ?_) (fun h => ?_)
  ·refine Z 3 rfl ?_
   obtain ⟨r34, hr35, h⟩ := h
   refine st_call (foot := [[(b7, .cells #[v28, .I r22.2.2.1, .I r22.2.2.2] 137 (0, 0))]]) rfl rfl rfl rfl rfl rfl (callV_fn z_en63 (lens_Lens_Err_ok hr35 τ32 (hs29.up hl33))) ?_
   rintro vτ36 τ36 gsτ36 hl37 ⟨rfl, rfl⟩
   refine Z 2 rfl ?_
   refine st_ord [1, 1] _ rfl ?_
   obtain rfl := he11 _ h
   replace h := hA11
   obtain rfl := Eq.symm h
   exact st_ret (gs' := [[(ba1_0, .cells #[.I s11.1] 3 (0, 0))], [(ba1_1, .cells #[.I s11.2.1] 3 (0, 0))]]) Tryz.func33 rfl (List.Sublist.refl _) ((((((hl6.trans hl11).trans hl17).trans hl21).trans hl25).trans hl33).trans hl37) ⟨rfl, rfl⟩
  ·refine Z 4 rfl ?_
   obtain ⟨r38, hr39, h⟩ := h
   refine st_call (foot := []) rfl rfl rfl rfl rfl rfl (callV_fn z_en64 (log_read_ok hr39 τ32 (hs27.up hl33))) ?_
   rintro vτ40 τ40 gsτ40 hl41 ⟨v42, v43, rfl, rfl, hs44, hs45⟩
   refine Z 3 rfl ?_
   refine o_alloc rfl rfl rfl z_zero32 (fun b46 => ?_)
   refine o_store (j := 0) (vs := [.I r38.1.1, .int .u32 r38.1.2.1, .I r38.1.2.2.1, .I r38.1.2.2.2.1, .I r38.1.t4.1, .I (r38.1.t4.2.1.getD 0 0), .I (r38.1.t4.2.1.getD 1 0), .I (r38.1.t4.2.1.getD 2 0), .I (r38.1.t4.2.1.getD 3 0), .I (r38.1.t4.2.1.getD 4 0), .I (r38.1.t4.2.1.getD 5 0), v42, v43, .string r38.1.t4.t4.1, .string r38.1.t4.t4.2]) (cs' := [.I r38.1.1, .int .u32 r38.1.2.1, .I r38.1.2.2.1, .I r38.1.2.2.2.1, .I r38.1.t4.1, .I (r38.1.t4.2.1.getD 0 0), .I (r38.1.t4.2.1.getD 1 0), .I (r38.1.t4.2.1.getD 2 0), .I (r38.1.t4.2.1.getD 3 0), .I (r38.1.t4.2.1.getD 4 0), .I (r38.1.t4.2.1.getD 5 0), v42, v43, .string r38.1.t4.t4.1, .string r38.1.t4.t4.2]) rfl rfl rfl z_size32 rfl rfl rfl (ones_cons rfl (ones_cons rfl (ones_cons rfl (ones_cons rfl (ones_cons rfl (ones_cons rfl (ones_cons rfl (ones_cons rfl (ones_cons rfl (ones_cons rfl (ones_cons rfl (ones_cons hs44.one' (ones_cons hs45.one' (ones_cons rfl (ones_cons rfl ones_nil))))))))))))))) rfl rfl rfl ?_
   refine Z 8 rfl ?_
   refine st_if rfl h (fun h => ?_) (fun h => ?_)
   ·refine Z 5 rfl ?_
    refine st_ord [2, 2] _ rfl ?_
    obtain rfl := he11 _ h
    replace h := hA11
    obtain rfl := Eq.symm h
    exact st_ret (gs' := [[(ba1_0, .cells #[.I s11.1] 3 (0, 0))], [(ba1_1, .cells #[.I s11.2.1] 3 (0, 0))]]) Tryz.func33 rfl (List.Sublist.refl _) ((((((hl6.trans hl11).trans hl17).trans hl21).trans hl25).trans hl33).trans hl41) ⟨rfl, rfl⟩
   ·refine Z 2 rfl ?_
    obtain ⟨r47, hr48, r51, hr52, h⟩ := h
    refine st_d41 [[(b46, .cells #[.I r38.1.1, .int .u32 r38.1.2.1, .I r38.1.2.2.1, .I r38.1.2.2.2.1, .I r38.1.t4.1, .I (r38.1.t4.2.1.getD 0 0), .I (r38.1.t4.2.1.getD 1 0), .I (r38.1.t4.2.1.getD 2 0), .I (r38.1.t4.2.1.getD 3 0), .I (r38.1.t4.2.1.getD 4 0), .I (r38.1.t4.2.1.getD 5 0), v42, v43, .string r38.1.t4.t4.1, .string r38.1.t4.t4.2] 32 (0, 0))], [(b7, .cells #[v28, .I r22.2.2.1, .I r22.2.2.2] 137 (0, 0))]] [[(ba1_0, .cells #[.I s11.1] 3 (0, 0))], [(ba1_1, .cells #[.I s11.2.1] 3 (0, 0))]] 7 1 [none, none, none, none, none, some (0, 0), none] [none, none, none, none, none, none, none] [[none, some 37]] [.v (.func (.func 39) #[] #[.Pb ba1_0, .Pb ba1_1]), .v (.I r18), .v (.Pb b7), .v (.I r47), .v (.agg #[.I r38.1.1, .int .u32 r38.1.2.1, .I r38.1.2.2.1, .I r38.1.2.2.2.1, .I r38.1.t4.1, .I (r38.1.t4.2.1.getD 0 0), .I (r38.1.t4.2.1.getD 1 0), .I (r38.1.t4.2.1.getD 2 0), .I (r38.1.t4.2.1.getD 3 0), .I (r38.1.t4.2.1.getD 4 0), .I (r38.1.t4.2.1.getD 5 0), v42, v43, .string r38.1.t4.t4.1, .string r38.1.t4.t4.2]), .v (.bool r51.1), .v (.bool (!r51.1))] [[fun τ u F => F = [[(ba1_0, .cells #[.I s11.1] 3 (0, 0))], [(ba1_1, .cells #[.I s11.2.1] 3 (0, 0))]], fun τ u F => F = [[(ba1_0, .cells #[.I r51.2.1] 3 (0, 0))], [(ba1_1, .cells #[.I r51.2.2] 3 (0, 0))]]]] rfl z_mix rfl trivial ⟨⟨fun _ _ _ _ hl h => h, ⟨fun _ _ _ _ hl h => h, trivial⟩⟩, trivial⟩ rfl rfl ?_ (allB_cons (allB_cons (allB_cons (allB_cons (allB_cons (allB_cons (allB_cons allB_nil (p4 dA)) (p4 dA)) (p4 dA)) ?_) ?_) ?_) (p4 dA)) ?_
    ·exact rfl
    ·intro ρ' τ pool rs hl hd hout hw hk
     obtain ⟨_, e2, rfl⟩ := hd 2 rfl _ rfl
     refine st_ord [1, 0, 0] _ rfl ?_
     refine st_call (foot := [[(b7, .cells #[v28, .I r22.2.2.1, .I r22.2.2.2] 137 (0, 0))]]) rfl rfl rfl rfl (evs_cons e2 rfl) rfl (callV_fn z_en61 (lens_Lens_Place_ok hr48 τ (hs29.up ((hl33.trans hl41).trans hl)))) ?_
     rintro vτ49 τ49 gsτ49 hl50 ⟨rfl, rfl⟩
     refine st_ord [1, 0, 0] _ rfl ?_
     exact hk _ _ hl50 rfl
    ·intro ρ' τ pool rs hl hd hout hw hk
     refine o_loadN (j := 0) (vs := [.I r38.1.1, .int .u32 r38.1.2.1, .I r38.1.2.2.1, .I r38.1.2.2.2.1, .I r38.1.t4.1, .I (r38.1.t4.2.1.getD 0 0), .I (r38.1.t4.2.1.getD 1 0), .I (r38.1.t4.2.1.getD 2 0), .I (r38.1.t4.2.1.getD 3 0), .I (r38.1.t4.2.1.getD 4 0), .I (r38.1.t4.2.1.getD 5 0), v42, v43, .string r38.1.t4.t4.1, .string r38.1.t4.t4.2]) rfl rfl rfl z_agg32 ((hout 8 rfl).trans rfl) rfl rfl ?_
     exact hk _ _ (Sto.Le.refl _) rfl
    ·intro ρ' τ u Fv pool rs hl hI hu hd hout hw hk
     obtain ⟨_, e0, rfl⟩ := hd 0 rfl _ rfl
     obtain ⟨_, e1, rfl⟩ := hd 1 rfl _ rfl
     obtain ⟨_, e3, rfl⟩ := hd 3 rfl _ rfl
     obtain ⟨_, e4, rfl⟩ := hd 4 rfl _ rfl
     have hI0 := hI
     obtain rfl := hI
     refine st_ord [2, 2, 0, 0, 0] _ rfl ?_
     refine st_call (foot := [[(ba1_0, .cells #[.I s11.1] 3 (0, 0))], [(ba1_1, .cells #[.I s11.2.1] 3 (0, 0))]]) rfl rfl rfl e0 (evs_cons e1 (evs_cons e3 (evs_cons e4 rfl))) rfl (callV_of2 (caps := [.Pb ba1_0, .Pb ba1_1]) z_en39 (log_Repair_1_ok hr52 τ (hs44.up hl) (hs45.up hl)) rfl) ?_
     rintro vτ53 τ53 gsτ53 hl54 ⟨rfl, rfl⟩
     refine st_ord [2, 2, 0, 0, 0] _ rfl ?_
     exact hk _ _ [[(ba1_0, .cells #[.I r51.2.1] 3 (0, 0))], [(ba1_1, .cells #[.I r51.2.2] 3 (0, 0))]] hl54 rfl (by exact rfl)
    intro ρ' τ55 vals u Fv hl55 hI hu hv hout
    obtain rfl := hI
    refine st_env (ρ' := [(38, .bool (!r51.1)), (1, .func (.func 39) #[] #[.Pb ba1_0, .Pb ba1_1]), (4, .I 0), (5, .Pb b7)]) ⟨(lv4 hv 6 rfl rfl rfl), (hout 1 rfl).trans rfl, (hout 4 rfl).trans rfl, (hout 5 rfl).trans rfl, trivial⟩ ?_
    refine st_end ?_
    refine st_if rfl h (fun h => ?_) (fun h => ?_)
    ·refine st_exit rfl ?_
     obtain rfl := he11 _ h
     replace h := hA11
     refine st_ord [2, 2] _ rfl ?_
     exact hk10 _ _ _ ⟨(r51.2.1, r51.2.2), h, ((((((hl11.trans hl17).trans hl21).trans hl25).trans hl33).trans hl41).trans hl55), rfl, rfl⟩
    ·refine Z 2 rfl ?_
     refine st_ord [2, 2, 1] _ rfl ?_
     exact hn11 _ _ _ _ h ⟨((((((hl11.trans hl17).trans hl21).trans hl25).trans hl33).trans hl41).trans hl55), _, rfl, rfl, (hs29.up ((hl33.trans hl41).trans hl55))⟩
 ·refine st_exit rfl ?_
  obtain rfl := he11 _ h
  replace h := hA11
  refine st_ord [1, 1] _ rfl ?_
  exact hk10 _ _ _ ⟨(s11.1, s11.2.1), h, (hl11.trans hl17), rfl, rfl⟩
theorem log_Repair_ok {a0 : List Int} {v1 : Value} {r : List Int × Int} (h : log_Repair a0 r) (σ : Sto) (hs2 : Sl (kI .u8) σ v1 a0) :
    Does Tryz.prog 18 [v1] σ [] (fun v τ gs => ∃ (v35 : Value), gs = [] ∧ .tuple [v35, .I r.2].toArray = v ∧ Sl (kI .u8) τ v35 r.1) := by
 refine call_of Tryz.func18 Tryz.ntmps18 rfl rfl (fun cs fs => ?_)
 refine Z 7 rfl ?_
 refine o_alloc rfl rfl rfl z_zero3 (fun b3 => ?_)
 refine o_alloc rfl rfl rfl z_zero3 (fun b4 => ?_)
 refine ZZ 7 [1, 0] rfl rfl ?_
 obtain ⟨r5, hr6, h⟩ := h
 refine st_ord [1, 0] _ rfl ?_
 refine st_call (foot := [[(b3, .cells #[.I 0] 3 (0, 0))], [(b4, .cells #[.I 0] 3 (0, 0))]]) rfl rfl rfl rfl rfl rfl (callV_fn z_en33 (log_each__log_Repair_1_ok hr6 σ hs2)) ?_
 rintro vτ7 τ7 gsτ7 hl8 ⟨rfl, rfl⟩
 refine Z 2 rfl ?_
 obtain ⟨hf15, hf16, hf22, hf23, h⟩ := h
 refine st_d41 [[(b3, .cells #[.I r5.2.1] 3 (0, 0))], [(b4, .cells #[.I r5.2.2] 3 (0, 0))]] [] 7 3 [some (0, 0), none, none, none, some (0, 1), none, some (0, 2)] [none, none, none, none, none, none, none] [[none, some 9, some 13, some 2]] [.t fun _ _ => True, .v (v1), .v (.I r5.2.2), .t fun τ v => ∃ (v17 : Value), (v17 : Value) = v ∧ Sl (kI .u8) τ v17 ((a0.drop (0 : Int).toNat).take ((r5.2.2 : Int) - 0).toNat), .t fun _ _ => True, .v (.I r5.2.1), .t fun _ _ => True] [[fun τ u F => F = [], fun τ u F => ∃ (v12 : Value) (g13 : Grp), F = [g13] ∧ v12 = u ∧ Ow (kI .u8) 5 τ v12 ([] : List Int) g13, fun τ u F => ∃ (v24 : Value) (g25 : Grp), F = [g25] ∧ v24 = u ∧ Ow (kI .u8) 5 τ v24 (([] : List Int) ++ ((a0.drop (0 : Int).toNat).take ((r5.2.2 : Int) - 0).toNat)) g25, fun τ u F => ∃ (v27 : Value) (g28 : Grp), F = [g28] ∧ v27 = u ∧ Ow (kI .u8) 5 τ v27 (([] : List Int) ++ ((a0.drop (0 : Int).toNat).take ((r5.2.2 : Int) - 0).toNat)) g28]] rfl z_mix rfl ⟨fun _ _ _ _ _ => trivial, ⟨fun _ _ _ hl ⟨v17, hv, hs18⟩ => ⟨v17, hv, hs18.up hl⟩, ⟨fun _ _ _ _ _ => trivial, ⟨fun _ _ _ _ _ => trivial, trivial⟩⟩⟩⟩ ⟨⟨fun _ _ _ _ hl h => h, ⟨fun _ _ _ _ hl h => (let ⟨v12, g13, hF, hU, ho14⟩ := h; ⟨v12, g13, hF, hU, ho14.up hl⟩), ⟨fun _ _ _ _ hl h => (let ⟨v24, g25, hF, hU, ho26⟩ := h; ⟨v24, g25, hF, hU, ho26.up hl⟩), ⟨fun _ _ _ _ hl h => (let ⟨v27, g28, hF, hU, ho29⟩ := h; ⟨v27, g28, hF, hU, ho29.up hl⟩), trivial⟩⟩⟩⟩, trivial⟩ rfl rfl ?_ (allB_cons (allB_cons (allB_cons (allB_cons (allB_cons (allB_cons (allB_cons allB_nil ?_) (p4 dA)) ?_) ?_) ?_) ?_) ?_) ?_
 ·exact rfl
 ·intro ρ' τ u Fv pool rs hl hI hu hd hout hw hk
  have hI0 := hI
  obtain rfl := hI
  refine o_lit (dk := (kI .u8)) (xs := ([] : List Int)) (ps := []) (cs := []) rfl rfl rfl z_slT42 z_zero5 trivial rfl rfl rfl rfl Kd.Many.nil (fun v9 g10 ho11 => ?_)
  refine st_ord [1, 1, 0, 0] _ rfl ?_
  exact hk _ _ [g10] (Sto.Le.refl _) trivial (by exact ⟨v9, g10, rfl, rfl, ho11⟩)
 ·intro ρ' τ pool rs hl hd hout hw hk
  refine o_load (j := 1) (v := .I r5.2.2) rfl rfl rfl z_sc3 ((hout 5 rfl).trans rfl) rfl rfl ?_
  exact hk _ _ (Sto.Le.refl _) rfl
 ·intro ρ' τ pool rs hl hd hout hw hk
  obtain ⟨_, e1, rfl⟩ := hd 1 rfl _ rfl
  obtain ⟨_, e2, rfl⟩ := hd 2 rfl _ rfl
  refine o_slice (L := 0) (H := r5.2.2) rfl rfl rfl z_slT42 rfl e1 (hs2.up (hl8.trans hl)) rfl ⟨_, e2⟩ (by decide) hf15 hf16 trivial (by simp) (fun v17 hs18 => ?_)
  exact hk _ _ (Sto.Le.refl _) ⟨v17, rfl, hs18⟩
 ·intro ρ' τ u Fv pool rs hl hI hu hd hout hw hk
  obtain ⟨_, e3, v17, rfl, hs18⟩ := hd 3 rfl _ rfl
  obtain ⟨v12, g13, rfl, rfl, ho14⟩ := hI
  refine st_ord [2, 0, 0, 0] _ rfl ?_
  refine o_append (dk := (kI .u8)) (xs := ([] : List Int)) (ys := ((a0.drop (0 : Int).toNat).take ((r5.2.2 : Int) - 0).toNat)) rfl rfl rfl rfl z_slT42 (hu (by decide) _ rfl) ho14 e3 (Sl.src hs18) hf22 hf23 (fun v19 g20 ho21 => ?_)
  refine st_ord [1, 1, 0, 0] _ rfl ?_
  exact hk _ _ [g20] (Sto.Le.refl _) trivial (by exact ⟨v19, g20, rfl, rfl, ho21⟩)
 ·intro ρ' τ pool rs hl hd hout hw hk
  refine o_load (j := 0) (v := .I r5.2.1) rfl rfl rfl z_sc3 ((hout 4 rfl).trans rfl) rfl rfl ?_
  exact hk _ _ (Sto.Le.refl _) rfl
 ·intro ρ' τ u Fv pool rs hl hI hu hd hout hw hk
  obtain ⟨v24, g25, rfl, rfl, ho26⟩ := hI
  refine o_assign rfl rfl rfl (hu (by decide) _ rfl) ?_
  exact hk _ _ [g25] (Sto.Le.refl _) trivial (by exact ⟨v24, g25, rfl, rfl, ho26⟩)
 intro ρ' τ30 vals u Fv hl30 hI hu hv hout
 obtain ⟨v27, g28, rfl, rfl, ho29⟩ := hI
 refine st_env (ρ' := [(14, .I r5.2.1), (3, .I 0), (2, v27)]) ⟨(lv4 hv 5 rfl rfl rfl), (hout 3 rfl).trans rfl, (by exact hu _ rfl), trivial⟩ ?_
 refine Z 2 rfl ?_
 refine st_ord [2, 0, 0] _ rfl ?_
 refine st_freeze (fun τ31 hl32 hg33 => ?_)
 have hs34 := ho29.freeze hl32 hg33
 refine st_ord [] _ rfl ?_
 obtain rfl := Eq.symm h
 exact st_ret (gs' := []) Tryz.func18 rfl (List.Sublist.refl _) ((hl8.trans hl30).trans hl32) ⟨_, rfl, rfl, hs34⟩
theorem law34_LogParses_ok {a0 : List Int} {a1 : Int} {v1 : Value} {r : Bool} (h : law34_LogParses a0 a1 r) (σ : Sto) (hs2 : Sl (kI .u8) σ v1 a0) :
    Does Tryz.prog 4 [v1, .I a1] σ [] (fun v τ gs => gs = [] ∧ .bool r = v) := by
 refine call_of Tryz.func4 Tryz.ntmps4 rfl rfl (fun cs fs => ?_)
 refine Z 2 rfl ?_
 refine o_boxC rfl rfl rfl rfl rfl rfl (fun b3 => ?_)
 refine Z 6 rfl ?_
 refine o_lenI rfl rfl rfl z_slT42 rfl hs2 ?_
 refine o_min2 rfl rfl rfl rfl rfl ?_
 obtain ⟨hf4, hf5, h⟩ := h
 refine o_slice (L := 0) (H := (min (a0.length : Int) 600)) rfl rfl rfl z_slT42 rfl rfl hs2 rfl ⟨_, rfl⟩ (by decide) hf4 hf5 trivial (by simp) (fun v6 hs7 => ?_)
 refine Z 5 rfl ?_
 obtain ⟨r8, hr9, h⟩ := h
 refine st_call (foot := []) rfl rfl rfl rfl rfl rfl (callV_fn z_en13 (log_Parse_ok hr9 σ hs7)) ?_
 rintro vτ10 τ10 gsτ10 hl11 ⟨v12, rfl, rfl, hs13⟩
 refine Z 9 rfl ?_
 obtain ⟨r14, hr15, h⟩ := h
 refine st_call (foot := []) rfl rfl rfl rfl rfl rfl (callV_fn z_en15 (ref34_Parse_ok hr15 τ10 (hs7.up hl11))) ?_
 rintro vτ16 τ16 gsτ16 hl17 ⟨v18, v20, rfl, rfl, hs19, hs21⟩
 refine Z 5 rfl ?_
 refine o_alloc rfl rfl rfl z_zero23 (fun b22 => ?_)
 refine o_alloc rfl rfl rfl z_zero28 (fun b23 => ?_)
 refine o_store (j := 1) (vs := [v18]) (cs' := [v18]) rfl rfl rfl z_size23 rfl rfl (oneL_sl hs19) (ones_cons hs19.one' ones_nil) rfl rfl rfl ?_
 refine o_store (j := 0) (vs := [v20]) (cs' := [v20]) rfl rfl rfl z_size28 rfl rfl (oneL_sl hs21) (ones_cons hs21.one' ones_nil) rfl rfl rfl ?_
 refine Z 5 rfl ?_
 refine st_cut (fun ρ τ24 gs => ∃ (s24 : Bool), law34_LogParses_j1 a0 a1 r14 s24 r ∧ τ16.Le τ24 ∧ ESub ρ [(0, v6), (3, .Pb b3), (4, .bool false), (7, .Pb b22), (8, .Pb b23), (9, .I r14.2.2.1), (61, .bool s24)] ∧ gs = [[(b3, .cells #[.I a1] 3 (0, 0))], [(b22, .cells #[v18] 23 (0, 0))], [(b23, .cells #[v20] 28 (0, 0))]]) ?_ (fun hk24 => ?_)
 ·rintro ρ24 τ24 gs24 ⟨s24, h, hl24, hρ, rfl⟩
  refine st_es hρ ?_
  refine st_cond rfl (fun hc => ?_) (fun hc => ?_)
  ·replace h := (if_pos hc).mp h
   refine Z 4 rfl ?_
   refine st_ord [] _ rfl ?_
   obtain rfl := Eq.symm h
   exact st_ret (gs' := []) Tryz.func4 rfl (List.Sublist.refl _) ((hl11.trans hl17).trans hl24) ⟨rfl, rfl⟩
  ·replace h := (if_neg (ne_t hc)).mp h
   refine Z 3 rfl ?_
   refine o_alloc rfl rfl rfl z_zero3 (fun b25 => ?_)
   refine o_alloc rfl rfl rfl z_zero4 (fun b26 => ?_)
   refine ZZ 5 [1, 0] rfl rfl ?_
   refine o_alloc rfl rfl rfl z_zero22 (fun b27 => ?_)
   refine Z 4 rfl ?_
   obtain ⟨r28, hr29, h⟩ := h
   refine st_call (foot := []) rfl rfl rfl rfl rfl rfl (callV_fn z_en16 (log_Each_ok hr29 τ24 (hs7.up ((hl11.trans hl17).trans hl24)))) ?_
   rintro vτ30 τ30 gsτ30 hl31 ⟨f32, q33, rfl, rfl, hit34⟩
   refine Z 16 rfl ?_
   obtain ⟨t35, w35, hR35, hA35⟩ := h
   refine st_env (ρ' := [(0, v6), (3, .Pb b3), (4, .bool false), (7, .Pb b22), (8, .Pb b23), (9, .I r14.2.2.1), (11, .Pb b25), (12, .Pb b26), (13, .Pb b27), (66, .func (.func f32) #[] q33)]) ⟨rfl, rfl, rfl, rfl, rfl, rfl, rfl, rfl, rfl, rfl, trivial⟩ ?_
   refine st_addNil ?_
   refine st_ord [4, 4, 4, 3, 2, 1, 0] _ rfl ?_
   refine st_addNil ?_
   refine st_range (B := law34_LogParses_l2 r14) (s0 := (0, true, [])) ranges_fctx rfl hit34 (Sto.Le.refl _) hR35 rfl (fun _ _ _ h => by obtain ⟨_, _, rfl, _⟩ := h; rfl) (fun (s35 : Int × Bool × (List (Int × Int × Int × Int × (TyM)))) τ35 gs => τ30.Le τ35 ∧ ∃ (v36 : Value) (g37 : Grp), gs = [[(b3, .cells #[.I a1] 3 (0, 0))], [(b22, .cells #[v18] 23 (0, 0))], [(b23, .cells #[v20] 28 (0, 0))], [(b25, .cells #[.I s35.1] 3 (0, 0))], [(b26, .cells #[.bool s35.2.1] 4 (0, 0))], [(b27, .cells #[v36] 22 (0, 0))], g37] ∧ Ow (kP (kI .i64) (kP (kI .u32) (kP (kI .i64) (kP (kI .i64) (kP (kI .i64) (kP (kA .i64 6) (kP (kSl (kP (kI .i64) (kI .i64))) (kP (kSl (kI .i64)) (kP kS kS))))))))) 32 τ35 v36 s35.2.2 g37) (fun _ _ _ _ => False) (fun _ _ _ _ hl ⟨hb, v36, g37, hg, ho38⟩ => ⟨hb.trans hl, v36, g37, hg, ho38.up hl⟩) (fun _ _ _ _ _ _ h => h.elim) ⟨Sto.Le.refl _, _, _, rfl, Ow.nil⟩ ?_ ?_ ?_
   ·rintro x35 s35 o35 τ35 gs35 vx35 hl35 h ⟨v39, v40, rfl, hs41, hs42⟩ ⟨hb35, v36, g37, rfl, ho38⟩ l35 rc35 caller35 cs35 fs35
    refine Z 5 rfl ?_
    refine o_alloc rfl rfl rfl z_zero32 (fun b43 => ?_)
    refine o_store (j := 0) (vs := [.I x35.2.1, .int .u32 x35.2.2.1, .I x35.2.2.2.1, .I x35.t4.1, .I x35.t4.2.1, .I (x35.t4.2.2.1.getD 0 0), .I (x35.t4.2.2.1.getD 1 0), .I (x35.t4.2.2.1.getD 2 0), .I (x35.t4.2.2.1.getD 3 0), .I (x35.t4.2.2.1.getD 4 0), .I (x35.t4.2.2.1.getD 5 0), v39, v40, .string x35.t4.t4.2.1, .string x35.t4.t4.2.2]) (cs' := [.I x35.2.1, .int .u32 x35.2.2.1, .I x35.2.2.2.1, .I x35.t4.1, .I x35.t4.2.1, .I (x35.t4.2.2.1.getD 0 0), .I (x35.t4.2.2.1.getD 1 0), .I (x35.t4.2.2.1.getD 2 0), .I (x35.t4.2.2.1.getD 3 0), .I (x35.t4.2.2.1.getD 4 0), .I (x35.t4.2.2.1.getD 5 0), v39, v40, .string x35.t4.t4.2.1, .string x35.t4.t4.2.2]) rfl rfl rfl z_size32 rfl rfl rfl (ones_cons rfl (ones_cons rfl (ones_cons rfl (ones_cons rfl (ones_cons rfl (ones_cons rfl (ones_cons rfl (ones_cons rfl (ones_cons rfl (ones_cons rfl (ones_cons rfl (ones_cons hs41.one' (ones_cons hs42.one' (ones_cons rfl (ones_cons rfl ones_nil))))))))))))))) rfl rfl rfl ?_
    refine st_end ?_
    refine st_begin ?_
    refine Z 2 rfl ?_
    obtain ⟨q46, hf47, r52, hr53, q60, hf61, r71, hr72, h⟩ := h
    let cc44 : Prop := s35.2.1 = true
    let cc45 : Prop := (s35.2.1 && (decide (s35.1 < (r14.1.length : Int)))) = true
    let cc51 : Prop := ((s35.2.1 && (decide (s35.1 < (r14.1.length : Int)))) && (decide (x35.1 = q46))) = true
    refine st_draw 24 (dl [.v (.bool s35.2.1), .v (.bool s35.2.1), .g cc44 (.I s35.1), .g cc44 (v18), .g cc44 (.I (r14.1.length : Int)), .g cc44 (.bool (decide (s35.1 < (r14.1.length : Int)))), .v (.bool (s35.2.1 && (decide (s35.1 < (r14.1.length : Int))))), .v (.bool (s35.2.1 && (decide (s35.1 < (r14.1.length : Int))))), .g cc45 (.I x35.1), .g cc45 (v20), .g cc45 (.I s35.1), .h cc45 fun τ v => ∃ (b48 : Nat) (of49 : Nat) (vsb48 : List Value), (.pointer (some ⟨b48, of49, none⟩) : Value) = v ∧ CelN τ ⟨b48, of49, none⟩ vsb48 ∧ (kI .i64).rep τ vsb48 q46, .g cc45 (.I q46), .g cc45 (.bool (decide (x35.1 = q46))), .v (.bool ((s35.2.1 && (decide (s35.1 < (r14.1.length : Int)))) && (decide (x35.1 = q46)))), .v (.bool ((s35.2.1 && (decide (s35.1 < (r14.1.length : Int)))) && (decide (x35.1 = q46)))), .g cc51 (.agg #[.I x35.2.1, .int .u32 x35.2.2.1, .I x35.2.2.2.1, .I x35.t4.1, .I x35.t4.2.1, .I (x35.t4.2.2.1.getD 0 0), .I (x35.t4.2.2.1.getD 1 0), .I (x35.t4.2.2.1.getD 2 0), .I (x35.t4.2.2.1.getD 3 0), .I (x35.t4.2.2.1.getD 4 0), .I (x35.t4.2.2.1.getD 5 0), v39, v40, .string x35.t4.t4.2.1, .string x35.t4.t4.2.2]), .h cc51 fun τ v => ∃ (v56 : Value) (v57 : Value), (.agg #[.I r52.1, .int .u32 r52.2.1, .I r52.2.2.1, .I r52.2.2.2.1, .I r52.t4.1, .I (r52.t4.2.1.getD 0 0), .I (r52.t4.2.1.getD 1 0), .I (r52.t4.2.1.getD 2 0), .I (r52.t4.2.1.getD 3 0), .I (r52.t4.2.1.getD 4 0), .I (r52.t4.2.1.getD 5 0), v56, v57, .string r52.t4.t4.1, .string r52.t4.t4.2] : Value) = v ∧ Sl (kA .i64 2) τ v56 r52.t4.2.2.1 ∧ Sl (kI .i64) τ v57 r52.t4.2.2.2.1, .g cc51 (v18), .g cc51 (.I s35.1), .h cc51 fun τ v => ∃ (b62 : Nat) (of63 : Nat) (vsb62 : List Value), (.pointer (some ⟨b62, of63, none⟩) : Value) = v ∧ CelN τ ⟨b62, of63, none⟩ vsb62 ∧ (kP (kI .i64) (kP (kI .u32) (kP (kI .i64) (kP (kI .i64) (kP (kI .i64) (kP (kA .i64 6) (kP (kSl (kA .i64 2)) (kP (kSl (kI .i64)) (kP kS kS))))))))).rep τ vsb62 q60, .h cc51 fun τ v => ∃ (v64 : Value) (v65 : Value), (.agg #[.I q60.1, .int .u32 q60.2.1, .I q60.2.2.1, .I q60.2.2.2.1, .I q60.t4.1, .I (q60.t4.2.1.getD 0 0), .I (q60.t4.2.1.getD 1 0), .I (q60.t4.2.1.getD 2 0), .I (q60.t4.2.1.getD 3 0), .I (q60.t4.2.1.getD 4 0), .I (q60.t4.2.1.getD 5 0), v64, v65, .string q60.t4.t4.1, .string q60.t4.t4.2] : Value) = v ∧ Sl (kA .i64 2) τ v64 q60.t4.2.2.1 ∧ Sl (kI .i64) τ v65 q60.t4.2.2.2.1, .g cc51 (.bool r71), .v (.bool (((s35.2.1 && (decide (s35.1 < (r14.1.length : Int)))) && (decide (x35.1 = q46))) && r71))]) (fun _ _ => []) z_mix rfl (dl_mono (by exact ⟨fun _ _ _ hl ⟨b48, of49, vsb48, hv, hc50, hrepb48⟩ => ⟨b48, of49, vsb48, hv, hc50.up hl, Kd.mono _ hl hrepb48⟩, ⟨fun _ _ _ hl ⟨v56, v57, hv, hs58, hs59⟩ => ⟨v56, v57, hv, hs58.up hl, hs59.up hl⟩, ⟨fun _ _ _ hl ⟨b62, of63, vsb62, hv, hc66, hrepb62⟩ => ⟨b62, of63, vsb62, hv, hc66.up hl, Kd.mono _ hl hrepb62⟩, ⟨fun _ _ _ hl ⟨v64, v65, hv, hs69, hs70⟩ => ⟨v64, v65, hv, hs69.up hl, hs70.up hl⟩, trivial⟩⟩⟩⟩)) (allB_cons (allB_cons (allB_cons (allB_cons (allB_cons (allB_cons (allB_cons (allB_cons (allB_cons (allB_cons (allB_cons (allB_cons (allB_cons (allB_cons (allB_cons (allB_cons (allB_cons (allB_cons (allB_cons (allB_cons (allB_cons (allB_cons (allB_cons (allB_cons allB_nil ?_) (p1 dA)) ?_) ?_) ?_) (p1 (dG [2, 4]))) (p1 dK)) (p1 dA)) (p1 (dG []))) ?_) ?_) ?_) ?_) (p1 (dG [8, 12]))) (p1 dK)) (p1 dA)) ?_) ?_) ?_) ?_) ?_) ?_) ?_) (p1 dK)) ?_
    ·intro ρ' τ pool rs hl hd hout hk
     refine o_load (j := 5) (v := .bool s35.2.1) rfl rfl rfl z_sc4 ((hout 12 rfl).trans rfl) rfl rfl ?_
     exact st_addNil (hk _ _ (Sto.Le.refl _) rfl)
    ·intro ρ' τ pool rs hl hd hout hk
     obtain ⟨_, e1, rfl⟩ := hd 1 rfl
     by_cases hG : s35.2.1 = true
     ·have hC := hG
      refine o_load (j := 4) (v := .I s35.1) rfl (wants_of rfl e1 hG) rfl z_sc3 ((hout 11 rfl).trans rfl) rfl rfl ?_
      exact st_addNil (hk _ _ (Sto.Le.refl _) ⟨fun _ => rfl, fun hn => absurd hC hn⟩)
     ·refine st_pass rfl rfl rfl e1 (beq_off hG) rfl ?_
      exact st_addNil (hk _ _ (Sto.Le.refl _) ⟨fun h => absurd h hG, fun _ => rfl⟩)
    ·intro ρ' τ pool rs hl hd hout hk
     obtain ⟨_, e1, rfl⟩ := hd 1 rfl
     by_cases hG : s35.2.1 = true
     ·have hC := hG
      refine o_load (j := 2) (v := v18) rfl (wants_of rfl e1 hG) rfl z_sc23 ((hout 7 rfl).trans rfl) rfl rfl ?_
      exact st_addNil (hk _ _ (Sto.Le.refl _) ⟨fun _ => rfl, fun hn => absurd hC hn⟩)
     ·refine st_pass rfl rfl rfl e1 (beq_off hG) rfl ?_
      exact st_addNil (hk _ _ (Sto.Le.refl _) ⟨fun h => absurd h hG, fun _ => rfl⟩)
    ·intro ρ' τ pool rs hl hd hout hk
     obtain ⟨_, e1, rfl⟩ := hd 1 rfl
     obtain ⟨w3, e3, t3⟩ := hd 3 rfl
     by_cases hG : s35.2.1 = true
     ·have hC := hG
      obtain ⟨rfl⟩ := t3.1 hC
      refine o_lenI rfl (wants_of rfl e1 hG) rfl z_slT23 e3 (hs19.up (((hl24.trans hl31).trans hl35).trans hl)) ?_
      exact st_addNil (hk _ _ (Sto.Le.refl _) ⟨fun _ => rfl, fun hn => absurd hC hn⟩)
     ·refine st_pass rfl rfl rfl e1 (beq_off hG) rfl ?_
      exact st_addNil (hk _ _ (Sto.Le.refl _) ⟨fun h => absurd h hG, fun _ => rfl⟩)
    ·intro ρ' τ pool rs hl hd hout hk
     obtain ⟨_, e7, rfl⟩ := hd 7 rfl
     by_cases hG : (s35.2.1 && (decide (s35.1 < (r14.1.length : Int)))) = true
     ·have hC := hG
      refine o_load (j := 3) (v := v20) rfl (wants_of rfl e7 hG) rfl z_sc28 ((hout 8 rfl).trans rfl) rfl rfl ?_
      exact st_addNil (hk _ _ (Sto.Le.refl _) ⟨fun _ => rfl, fun hn => absurd hC hn⟩)
     ·refine st_pass rfl rfl rfl e7 (beq_off hG) rfl ?_
      exact st_addNil (hk _ _ (Sto.Le.refl _) ⟨fun h => absurd h hG, fun _ => rfl⟩)
    ·intro ρ' τ pool rs hl hd hout hk
     obtain ⟨_, e7, rfl⟩ := hd 7 rfl
     by_cases hG : (s35.2.1 && (decide (s35.1 < (r14.1.length : Int)))) = true
     ·have hC := hG
      refine o_load (j := 4) (v := .I s35.1) rfl (wants_of rfl e7 hG) rfl z_sc3 ((hout 11 rfl).trans rfl) rfl rfl ?_
      exact st_addNil (hk _ _ (Sto.Le.refl _) ⟨fun _ => rfl, fun hn => absurd hC hn⟩)
     ·refine st_pass rfl rfl rfl e7 (beq_off hG) rfl ?_
      exact st_addNil (hk _ _ (Sto.Le.refl _) ⟨fun h => absurd h hG, fun _ => rfl⟩)
    ·intro ρ' τ pool rs hl hd hout hk
     obtain ⟨_, e7, rfl⟩ := hd 7 rfl
     obtain ⟨w9, e9, t9⟩ := hd 9 rfl
     obtain ⟨w10, e10, t10⟩ := hd 10 rfl
     by_cases hG : (s35.2.1 && (decide (s35.1 < (r14.1.length : Int)))) = true
     ·have hC := hG
      replace hf47 := hf47 hC
      obtain ⟨rfl⟩ := t9.1 hC
      obtain ⟨rfl⟩ := t10.1 hC
      refine o_index rfl (wants_of rfl e7 hG) rfl z_slT28 rfl e9 (hs21.up (((hl24.trans hl31).trans hl35).trans hl)) e10 hf47 (fun b48 of49 vsb48 hc50 hrepb48 => ?_)
      exact st_addNil (hk _ _ (Sto.Le.refl _) ⟨fun _ => ⟨b48, of49, _, rfl, hc50, hrepb48⟩, fun hn => absurd hC hn⟩)
     ·refine st_pass rfl rfl rfl e7 (beq_off hG) rfl ?_
      exact st_addNil (hk _ _ (Sto.Le.refl _) ⟨fun h => absurd h hG, fun _ => rfl⟩)
    ·intro ρ' τ pool rs hl hd hout hk
     obtain ⟨_, e7, rfl⟩ := hd 7 rfl
     obtain ⟨w11, e11, t11⟩ := hd 11 rfl
     by_cases hG : (s35.2.1 && (decide (s35.1 < (r14.1.length : Int)))) = true
     ·have hC := hG
      obtain ⟨b48, of49, vsb48, rfl, hc50, hrepb48⟩ := t11.1 hC
      have hrepb48 := hrepb48
      obtain rfl := hrepb48
      refine o_loadI (v := .I q46) rfl (wants_of rfl e7 hG) rfl z_sc3 e11 (hc50 0 _ rfl) ?_
      exact st_addNil (hk _ _ (Sto.Le.refl _) ⟨fun _ => rfl, fun hn => absurd hC hn⟩)
     ·refine st_pass rfl rfl rfl e7 (beq_off hG) rfl ?_
      exact st_addNil (hk _ _ (Sto.Le.refl _) ⟨fun h => absurd h hG, fun _ => rfl⟩)
    ·intro ρ' τ pool rs hl hd hout hk
     obtain ⟨_, e15, rfl⟩ := hd 15 rfl
     by_cases hG : ((s35.2.1 && (decide (s35.1 < (r14.1.length : Int)))) && (decide (x35.1 = q46))) = true
     ·have hC := hG
      refine o_loadN (j := 0) (vs := [.I x35.2.1, .int .u32 x35.2.2.1, .I x35.2.2.2.1, .I x35.t4.1, .I x35.t4.2.1, .I (x35.t4.2.2.1.getD 0 0), .I (x35.t4.2.2.1.getD 1 0), .I (x35.t4.2.2.1.getD 2 0), .I (x35.t4.2.2.1.getD 3 0), .I (x35.t4.2.2.1.getD 4 0), .I (x35.t4.2.2.1.getD 5 0), v39, v40, .string x35.t4.t4.2.1, .string x35.t4.t4.2.2]) rfl (wants_of rfl e15 hG) rfl z_agg32 ((hout 16 rfl).trans rfl) rfl rfl ?_
      exact st_addNil (hk _ _ (Sto.Le.refl _) ⟨fun _ => rfl, fun hn => absurd hC hn⟩)
     ·refine st_pass rfl rfl rfl e15 (beq_off hG) rfl ?_
      exact st_addNil (hk _ _ (Sto.Le.refl _) ⟨fun h => absurd h hG, fun _ => rfl⟩)
    ·intro ρ' τ pool rs hl hd hout hk
     obtain ⟨_, e15, rfl⟩ := hd 15 rfl
     obtain ⟨w16, e16, t16⟩ := hd 16 rfl
     by_cases hG : ((s35.2.1 && (decide (s35.1 < (r14.1.length : Int)))) && (decide (x35.1 = q46))) = true
     ·have hC := hG
      replace hr53 := hr53 hC
      obtain ⟨rfl⟩ := t16.1 hC
      refine st_call (foot := []) rfl (wants_of rfl e15 hG) rfl rfl (evs_cons e16 rfl) rfl (callV_fn z_en6 (law23_Of_ok hr53 τ (hs41.up hl) (hs42.up hl))) ?_
      rintro vτ54 τ54 gsτ54 hl55 ⟨v56, v57, rfl, rfl, hs58, hs59⟩
      exact st_addNil (hk _ _ hl55 ⟨fun _ => ⟨v56, v57, rfl, hs58, hs59⟩, fun hn => absurd hC hn⟩)
     ·refine st_pass rfl rfl rfl e15 (beq_off hG) rfl ?_
      exact st_addNil (hk _ _ (Sto.Le.refl _) ⟨fun h => absurd h hG, fun _ => rfl⟩)
    ·intro ρ' τ pool rs hl hd hout hk
     obtain ⟨_, e15, rfl⟩ := hd 15 rfl
     by_cases hG : ((s35.2.1 && (decide (s35.1 < (r14.1.length : Int)))) && (decide (x35.1 = q46))) = true
     ·have hC := hG
      refine o_load (j := 2) (v := v18) rfl (wants_of rfl e15 hG) rfl z_sc23 ((hout 7 rfl).trans rfl) rfl rfl ?_
      exact st_addNil (hk _ _ (Sto.Le.refl _) ⟨fun _ => rfl, fun hn => absurd hC hn⟩)
     ·refine st_pass rfl rfl rfl e15 (beq_off hG) rfl ?_
      exact st_addNil (hk _ _ (Sto.Le.refl _) ⟨fun h => absurd h hG, fun _ => rfl⟩)
    ·intro ρ' τ pool rs hl hd hout hk
     obtain ⟨_, e15, rfl⟩ := hd 15 rfl
     by_cases hG : ((s35.2.1 && (decide (s35.1 < (r14.1.length : Int)))) && (decide (x35.1 = q46))) = true
     ·have hC := hG
      refine o_load (j := 4) (v := .I s35.1) rfl (wants_of rfl e15 hG) rfl z_sc3 ((hout 11 rfl).trans rfl) rfl rfl ?_
      exact st_addNil (hk _ _ (Sto.Le.refl _) ⟨fun _ => rfl, fun hn => absurd hC hn⟩)
     ·refine st_pass rfl rfl rfl e15 (beq_off hG) rfl ?_
      exact st_addNil (hk _ _ (Sto.Le.refl _) ⟨fun h => absurd h hG, fun _ => rfl⟩)
    ·intro ρ' τ pool rs hl hd hout hk
     obtain ⟨_, e15, rfl⟩ := hd 15 rfl
     obtain ⟨w18, e18, t18⟩ := hd 18 rfl
     obtain ⟨w19, e19, t19⟩ := hd 19 rfl
     by_cases hG : ((s35.2.1 && (decide (s35.1 < (r14.1.length : Int)))) && (decide (x35.1 = q46))) = true
     ·have hC := hG
      replace hf61 := hf61 hC
      obtain ⟨rfl⟩ := t19.1 hC
      obtain ⟨rfl⟩ := t18.1 hC
      refine o_index rfl (wants_of rfl e15 hG) rfl z_slT23 rfl e18 (hs19.up (((hl24.trans hl31).trans hl35).trans hl)) e19 hf61 (fun b62 of63 vsb62 hc66 hrepb62 => ?_)
      exact st_addNil (hk _ _ (Sto.Le.refl _) ⟨fun _ => ⟨b62, of63, _, rfl, hc66, hrepb62⟩, fun hn => absurd hC hn⟩)
     ·refine st_pass rfl rfl rfl e15 (beq_off hG) rfl ?_
      exact st_addNil (hk _ _ (Sto.Le.refl _) ⟨fun h => absurd h hG, fun _ => rfl⟩)
    ·intro ρ' τ pool rs hl hd hout hk
     obtain ⟨_, e15, rfl⟩ := hd 15 rfl
     obtain ⟨w20, e20, t20⟩ := hd 20 rfl
     by_cases hG : ((s35.2.1 && (decide (s35.1 < (r14.1.length : Int)))) && (decide (x35.1 = q46))) = true
     ·have hC := hG
      obtain ⟨b62, of63, vsb62, rfl, hc66, hrepb62⟩ := t20.1 hC
      have hrepb62 := hrepb62
      obtain ⟨_, _, rfl, rfl, ⟨_, _, rfl, rfl, ⟨_, _, rfl, rfl, ⟨_, _, rfl, rfl, ⟨_, _, rfl, rfl, ⟨_, _, rfl, rfl, ⟨_, _, rfl, ⟨v64, rfl, hs69⟩, ⟨_, _, rfl, ⟨v65, rfl, hs70⟩, ⟨_, _, rfl, rfl, rfl⟩⟩⟩⟩⟩⟩⟩⟩⟩ := hrepb62
      refine o_loadIN (vs := [.I q60.1, .int .u32 q60.2.1, .I q60.2.2.1, .I q60.2.2.2.1, .I q60.t4.1, .I (q60.t4.2.1.getD 0 0), .I (q60.t4.2.1.getD 1 0), .I (q60.t4.2.1.getD 2 0), .I (q60.t4.2.1.getD 3 0), .I (q60.t4.2.1.getD 4 0), .I (q60.t4.2.1.getD 5 0), v64, v65, .string q60.t4.t4.1, .string q60.t4.t4.2]) rfl (wants_of rfl e15 hG) rfl z_agg38 e20 rfl (celn_part 0 rfl hc66) ?_
      exact st_addNil (hk _ _ (Sto.Le.refl _) ⟨fun _ => ⟨v64, v65, rfl, hs69, hs70⟩, fun hn => absurd hC hn⟩)
     ·refine st_pass rfl rfl rfl e15 (beq_off hG) rfl ?_
      exact st_addNil (hk _ _ (Sto.Le.refl _) ⟨fun h => absurd h hG, fun _ => rfl⟩)
    ·intro ρ' τ pool rs hl hd hout hk
     obtain ⟨_, e15, rfl⟩ := hd 15 rfl
     obtain ⟨w17, e17, t17⟩ := hd 17 rfl
     obtain ⟨w21, e21, t21⟩ := hd 21 rfl
     by_cases hG : ((s35.2.1 && (decide (s35.1 < (r14.1.length : Int)))) && (decide (x35.1 = q46))) = true
     ·have hC := hG
      replace hr72 := hr72 hC
      obtain ⟨v64, v65, rfl, hs69, hs70⟩ := t21.1 hC
      obtain ⟨v56, v57, rfl, hs58, hs59⟩ := t17.1 hC
      refine st_call (foot := []) rfl (wants_of rfl e15 hG) rfl rfl (evs_cons e17 (evs_cons e21 rfl)) rfl (callV_fn z_en17 (ref23_Same_ok hr72 τ hs58 hs59 hs69 hs70)) ?_
      rintro vτ73 τ73 gsτ73 hl74 ⟨rfl, rfl⟩
      exact st_addNil (hk _ _ hl74 ⟨fun _ => rfl, fun hn => absurd hC hn⟩)
     ·refine st_pass rfl rfl rfl e15 (beq_off hG) rfl ?_
      exact st_addNil (hk _ _ (Sto.Le.refl _) ⟨fun h => absurd h hG, fun _ => rfl⟩)
    intro ρ' τ75 vals hl75 hv hout
    refine st_ord [0, 0, 0, 0, 0, 0, 0, 0] _ rfl ?_
    refine st_env (ρ' := [(92, .bool (((s35.2.1 && (decide (s35.1 < (r14.1.length : Int)))) && (decide (x35.1 = q46))) && r71)), (0, v6), (3, .Pb b3), (4, .bool false), (7, .Pb b22), (8, .Pb b23), (9, .I r14.2.2.1), (11, .Pb b25), (12, .Pb b26), (13, .Pb b27), (67, .I x35.1), (68, .agg #[.I x35.2.1, .int .u32 x35.2.2.1, .I x35.2.2.2.1, .I x35.t4.1, .I x35.t4.2.1, .I (x35.t4.2.2.1.getD 0 0), .I (x35.t4.2.2.1.getD 1 0), .I (x35.t4.2.2.1.getD 2 0), .I (x35.t4.2.2.1.getD 3 0), .I (x35.t4.2.2.1.getD 4 0), .I (x35.t4.2.2.1.getD 5 0), v39, v40, .string x35.t4.t4.2.1, .string x35.t4.t4.2.2]), (15, .I x35.1), (16, .Pb b43)]) ⟨(lv1 hv 23 rfl rfl), (hout 0 rfl).trans rfl, (hout 3 rfl).trans rfl, (hout 4 rfl).trans rfl, (hout 7 rfl).trans rfl, (hout 8 rfl).trans rfl, (hout 9 rfl).trans rfl, (hout 11 rfl).trans rfl, (hout 12 rfl).trans rfl, (hout 13 rfl).trans rfl, (hout 67 rfl).trans rfl, (hout 68 rfl).trans rfl, (hout 15 rfl).trans rfl, (hout 16 rfl).trans rfl, trivial⟩ ?_
    refine ZZ 6 [5, 6, 0] rfl rfl ?_
    refine o_lit (dk := (kP (kI .i64) (kP (kI .u32) (kP (kI .i64) (kP (kI .i64) (kP (kI .i64) (kP (kA .i64 6) (kP (kSl (kP (kI .i64) (kI .i64))) (kP (kSl (kI .i64)) (kP kS kS)))))))))) (xs := [x35.2]) (ps := [(0, [.I x35.2.1, .int .u32 x35.2.2.1, .I x35.2.2.2.1, .I x35.t4.1, .I x35.t4.2.1, .I (x35.t4.2.2.1.getD 0 0), .I (x35.t4.2.2.1.getD 1 0), .I (x35.t4.2.2.1.getD 2 0), .I (x35.t4.2.2.1.getD 3 0), .I (x35.t4.2.2.1.getD 4 0), .I (x35.t4.2.2.1.getD 5 0), v39, v40, .string x35.t4.t4.2.1, .string x35.t4.t4.2.2])]) (cs := [.I x35.2.1, .int .u32 x35.2.2.1, .I x35.2.2.2.1, .I x35.t4.1, .I x35.t4.2.1, .I (x35.t4.2.2.1.getD 0 0), .I (x35.t4.2.2.1.getD 1 0), .I (x35.t4.2.2.1.getD 2 0), .I (x35.t4.2.2.1.getD 3 0), .I (x35.t4.2.2.1.getD 4 0), .I (x35.t4.2.2.1.getD 5 0), v39, v40, .string x35.t4.t4.2.1, .string x35.t4.t4.2.2]) rfl rfl rfl z_slT22 z_zero32 ⟨rfl, ⟨_, rfl, rfl⟩, trivial⟩ rfl rfl rfl rfl (Kd.Many.cons (d := (kP (kI .i64) (kP (kI .u32) (kP (kI .i64) (kP (kI .i64) (kP (kI .i64) (kP (kA .i64 6) (kP (kSl (kP (kI .i64) (kI .i64))) (kP (kSl (kI .i64)) (kP kS kS)))))))))) (x := x35.2) (a := [.I x35.2.1, .int .u32 x35.2.2.1, .I x35.2.2.2.1, .I x35.t4.1, .I x35.t4.2.1, .I (x35.t4.2.2.1.getD 0 0), .I (x35.t4.2.2.1.getD 1 0), .I (x35.t4.2.2.1.getD 2 0), .I (x35.t4.2.2.1.getD 3 0), .I (x35.t4.2.2.1.getD 4 0), .I (x35.t4.2.2.1.getD 5 0), v39, v40, .string x35.t4.t4.2.1, .string x35.t4.t4.2.2]) ⟨[.I x35.2.1], _, rfl, rfl, ⟨[.int .u32 x35.2.2.1], _, rfl, rfl, ⟨[.I x35.2.2.2.1], _, rfl, rfl, ⟨[.I x35.t4.1], _, rfl, rfl, ⟨[.I x35.t4.2.1], _, rfl, rfl, ⟨[.I (x35.t4.2.2.1.getD 0 0), .I (x35.t4.2.2.1.getD 1 0), .I (x35.t4.2.2.1.getD 2 0), .I (x35.t4.2.2.1.getD 3 0), .I (x35.t4.2.2.1.getD 4 0), .I (x35.t4.2.2.1.getD 5 0)], _, rfl, rfl, ⟨[v39], _, rfl, ⟨_, rfl, (hs41.up hl75)⟩, ⟨[v40], _, rfl, ⟨_, rfl, (hs42.up hl75)⟩, ⟨[.string x35.t4.t4.2.1], _, rfl, rfl, rfl⟩⟩⟩⟩⟩⟩⟩⟩⟩ Kd.Many.nil) (fun v76 g77 ho78 => ?_)
    obtain ⟨hf82, hf83, h⟩ := h
    refine st_ord [8, 0, 0, 0, 0, 0, 0, 0, 0] _ rfl ?_
    refine o_append (dk := (kP (kI .i64) (kP (kI .u32) (kP (kI .i64) (kP (kI .i64) (kP (kI .i64) (kP (kA .i64 6) (kP (kSl (kP (kI .i64) (kI .i64))) (kP (kSl (kI .i64)) (kP kS kS)))))))))) (xs := s35.2.2) (ys := [x35.2]) rfl rfl rfl rfl z_slT22 rfl (ho38.up hl75) rfl (Ow.src (j := 1) ho78 rfl) hf82 hf83 (fun v79 g80 ho81 => ?_)
    refine o_store (j := 8) (vs := [v79]) (cs' := [v79]) rfl rfl rfl z_size22 rfl rfl (oneL_ow ho81) (ones_cons ho81.one' ones_nil) rfl rfl rfl ?_
    refine ZZ 7 [6, 6] rfl rfl ?_
    refine st_ord [3, 3, 3, 3, 3, 3, 0] _ rfl ?_
    exact st_rend (List.Sublist.refl _) hl75 ⟨_, h, (hl35.trans hl75), _, _, rfl, ho81⟩
   ·rintro p84 τ85 gs35 f35 ht hl86 ⟨hb, v87, g88, rfl, ho89⟩ rfl
    subst ht
    replace h := hA35
    refine st_ord [1, 1, 1, 1, 1, 1, 1] _ rfl ?_
    refine Z 3 rfl ?_
    refine o_alloc rfl rfl rfl z_zero3 (fun b90 => ?_)
    refine ZZ 5 [0] rfl rfl ?_
    obtain ⟨r91, hr92, h⟩ := h
    refine st_call (foot := []) rfl rfl rfl rfl rfl rfl (callV_fn z_en16 (log_Each_ok hr92 τ85 (hs7.up ((((hl11.trans hl17).trans hl24).trans hl31).trans hl86)))) ?_
    rintro vτ93 τ93 gsτ93 hl94 ⟨f95, q96, rfl, rfl, hit97⟩
    refine Z 11 rfl ?_
    refine st_cut (fun ρ τ98 gs => ∃ (s98 : Int), law34_LogParses_j3 a0 a1 r14 p84 s98 r ∧ τ93.Le τ98 ∧ ESub ρ [(0, v6), (3, .Pb b3), (4, .bool false), (7, .Pb b22), (9, .I r14.2.2.1), (11, .Pb b25), (12, .Pb b26), (13, .Pb b27), (17, .Pb b90)] ∧ gs = [[(b3, .cells #[.I a1] 3 (0, 0))], [(b22, .cells #[v18] 23 (0, 0))], [(b25, .cells #[.I p84.1] 3 (0, 0))], [(b26, .cells #[.bool p84.2.1] 4 (0, 0))], [(b27, .cells #[v87] 22 (0, 0))], [(b90, .cells #[.I s98] 3 (0, 0))], g88]) ?_ (fun hk98 => ?_)
    ·rintro ρ98 τ98 gs98 ⟨s98, h, hl98, hρ, rfl⟩
     refine st_es hρ ?_
     refine Z 3 rfl ?_
     obtain ⟨r99, hr100, h⟩ := h
     refine st_call (foot := []) rfl rfl rfl rfl rfl rfl (callV_fn z_en18 (log_Repair_ok hr100 τ98 (hs7.up ((((((hl11.trans hl17).trans hl24).trans hl31).trans hl86).trans hl94).trans hl98)))) ?_
     rintro vτ101 τ101 gsτ101 hl102 ⟨v103, rfl, rfl, hs104⟩
     refine ZZ 9 [4] rfl rfl ?_
     obtain ⟨r110, hr111, h⟩ := h
     refine st_ord [6, 0, 0, 0, 0, 0, 0] _ rfl ?_
     refine st_freeze (fun τ105 hl106 hg107 => ?_)
     have hs108 := ho89.freeze (((hl94.trans hl98).trans hl102).trans hl106) hg107
     refine st_call (foot := []) rfl rfl rfl rfl rfl rfl (callV_fn z_en9 (log_Bytes_ok hr111 τ105 hs108)) ?_
     rintro vτ112 τ112 gsτ112 hl113 ⟨v114, rfl, rfl, hs115⟩
     refine Z 7 rfl ?_
     refine st_cut (fun ρ τ116 gs => ∃ (s116 : Bool), law34_LogParses_j4 s116 r ∧ τ112.Le τ116 ∧ ESub ρ [(4, .bool s116)] ∧ gs = []) ?_ (fun hk116 => ?_)
     ·rintro ρ116 τ116 gs116 ⟨s116, h, hl116, hρ, rfl⟩
      refine st_es hρ ?_
      obtain rfl := Eq.symm h
      exact st_ret (gs' := []) Tryz.func4 rfl (List.Sublist.refl _) ((((((((((hl11.trans hl17).trans hl24).trans hl31).trans hl86).trans hl94).trans hl98).trans hl102).trans hl106).trans hl113).trans hl116) ⟨rfl, rfl⟩
     refine st_region ?_
     obtain ⟨r117, hr118, h⟩ := h
     refine st_call (foot := []) rfl rfl rfl rfl rfl rfl (callV_fn z_en12 (law34_known_ok hr118 τ112)) ?_
     rintro vτ119 τ119 gsτ119 hl120 ⟨rfl, rfl⟩
     refine o_mif rfl rfl rfl rfl h (fun h => ?_) (fun h => ?_)
     ·refine ZZ 2 [3] rfl rfl ?_
      refine o_mif rfl rfl rfl rfl h (fun h => ?_) (fun h => ?_)
      ·refine ZZ 2 [2, 1] rfl rfl ?_
       refine o_lenI rfl rfl rfl z_slT23 rfl (hs19.up ((((((((hl24.trans hl31).trans hl86).trans hl94).trans hl98).trans hl102).trans hl106).trans hl113).trans hl120)) ?_
       refine Z 2 rfl ?_
       refine o_mif rfl rfl rfl rfl h (fun h => ?_) (fun h => ?_)
       ·refine ZZ 3 [5, 2] rfl rfl ?_
        refine o_mif rfl rfl rfl rfl h (fun h => ?_) (fun h => ?_)
        ·refine ZZ 8 [1] rfl rfl ?_
         refine o_lenI rfl rfl rfl z_slT23 rfl (hs19.up ((((((((hl24.trans hl31).trans hl86).trans hl94).trans hl98).trans hl102).trans hl106).trans hl113).trans hl120)) ?_
         refine Z 2 rfl ?_
         refine o_mif rfl rfl rfl rfl h (fun h => ?_) (fun h => ?_)
         ·refine Z 3 rfl ?_
          obtain ⟨hf121, hf122, h⟩ := h
          refine o_slice (L := 0) (H := r14.2.2.1) rfl rfl rfl z_slT42 rfl rfl (hs7.up ((((((((((hl11.trans hl17).trans hl24).trans hl31).trans hl86).trans hl94).trans hl98).trans hl102).trans hl106).trans hl113).trans hl120)) rfl ⟨_, rfl⟩ (by decide) hf121 hf122 trivial (by simp) (fun v123 hs124 => ?_)
          obtain ⟨r125, hr126, h⟩ := h
          refine st_call (foot := []) rfl rfl rfl rfl rfl rfl (callV_fn z_en11 (ref01_Same_ok hr126 τ119 (hs104.up ((hl106.trans hl113).trans hl120)) hs124)) ?_
          rintro vτ127 τ127 gsτ127 hl128 ⟨rfl, rfl⟩
          refine o_pick rfl rfl rfl rfl rfl ?_
          refine o_mif rfl rfl rfl rfl h (fun h => ?_) (fun h => ?_)
          ·refine Z 3 rfl ?_
           refine o_mif rfl rfl rfl rfl h (fun h => ?_) (fun h => ?_)
           ·refine Z 2 rfl ?_
            obtain ⟨r129, hr130, h⟩ := h
            refine st_call (foot := []) rfl rfl rfl rfl rfl rfl (callV_fn z_en11 (ref01_Same_ok hr130 τ127 (hs115.up (hl120.trans hl128)) (hs104.up (((hl106.trans hl113).trans hl120).trans hl128)))) ?_
            rintro vτ131 τ131 gsτ131 hl132 ⟨rfl, rfl⟩
            refine Z 3 rfl ?_
            refine st_ord [] _ rfl ?_
            exact hk116 _ _ _ ⟨r129, h, ((hl120.trans hl128).trans hl132), rfl, rfl⟩
           ·refine Z 6 rfl ?_
            refine st_ord [] _ rfl ?_
            exact hk116 _ _ _ ⟨false, h, (hl120.trans hl128), rfl, rfl⟩
          ·refine Z 10 rfl ?_
           refine st_ord [] _ rfl ?_
           exact hk116 _ _ _ ⟨false, h, (hl120.trans hl128), rfl, rfl⟩
         ·refine Z 17 rfl ?_
          refine st_ord [] _ rfl ?_
          exact hk116 _ _ _ ⟨false, h, hl120, rfl, rfl⟩
        ·refine ZZ 5 [5, 0] rfl rfl ?_
         refine o_mif rfl rfl rfl rfl h (fun h => ?_) (fun h => ?_)
         ·refine ZZ 2 [1] rfl rfl ?_
          refine o_lenI rfl rfl rfl z_slT23 rfl (hs19.up ((((((((hl24.trans hl31).trans hl86).trans hl94).trans hl98).trans hl102).trans hl106).trans hl113).trans hl120)) ?_
          refine Z 2 rfl ?_
          refine o_mif rfl rfl rfl rfl h (fun h => ?_) (fun h => ?_)
          ·refine Z 3 rfl ?_
           obtain ⟨hf133, hf134, h⟩ := h
           refine o_slice (L := 0) (H := r14.2.2.1) rfl rfl rfl z_slT42 rfl rfl (hs7.up ((((((((((hl11.trans hl17).trans hl24).trans hl31).trans hl86).trans hl94).trans hl98).trans hl102).trans hl106).trans hl113).trans hl120)) rfl ⟨_, rfl⟩ (by decide) hf133 hf134 trivial (by simp) (fun v135 hs136 => ?_)
           obtain ⟨r137, hr138, h⟩ := h
           refine st_call (foot := []) rfl rfl rfl rfl rfl rfl (callV_fn z_en11 (ref01_Same_ok hr138 τ119 (hs104.up ((hl106.trans hl113).trans hl120)) hs136)) ?_
           rintro vτ139 τ139 gsτ139 hl140 ⟨rfl, rfl⟩
           refine o_pick rfl rfl rfl rfl rfl ?_
           refine o_mif rfl rfl rfl rfl h (fun h => ?_) (fun h => ?_)
           ·refine Z 3 rfl ?_
            refine o_mif rfl rfl rfl rfl h (fun h => ?_) (fun h => ?_)
            ·refine Z 2 rfl ?_
             obtain ⟨r141, hr142, h⟩ := h
             refine st_call (foot := []) rfl rfl rfl rfl rfl rfl (callV_fn z_en11 (ref01_Same_ok hr142 τ139 (hs115.up (hl120.trans hl140)) (hs104.up (((hl106.trans hl113).trans hl120).trans hl140)))) ?_
             rintro vτ143 τ143 gsτ143 hl144 ⟨rfl, rfl⟩
             refine Z 3 rfl ?_
             refine st_ord [] _ rfl ?_
             exact hk116 _ _ _ ⟨r141, h, ((hl120.trans hl140).trans hl144), rfl, rfl⟩
            ·refine Z 6 rfl ?_
             refine st_ord [] _ rfl ?_
             exact hk116 _ _ _ ⟨false, h, (hl120.trans hl140), rfl, rfl⟩
           ·refine Z 10 rfl ?_
            refine st_ord [] _ rfl ?_
            exact hk116 _ _ _ ⟨false, h, (hl120.trans hl140), rfl, rfl⟩
          ·refine Z 17 rfl ?_
           refine st_ord [] _ rfl ?_
           exact hk116 _ _ _ ⟨false, h, hl120, rfl, rfl⟩
         ·refine Z 23 rfl ?_
          refine st_ord [] _ rfl ?_
          exact hk116 _ _ _ ⟨false, h, hl120, rfl, rfl⟩
       ·refine Z 33 rfl ?_
        refine st_ord [] _ rfl ?_
        exact hk116 _ _ _ ⟨false, h, hl120, rfl, rfl⟩
      ·refine Z 39 rfl ?_
       refine st_ord [] _ rfl ?_
       exact hk116 _ _ _ ⟨false, h, hl120, rfl, rfl⟩
     ·refine Z 42 rfl ?_
      refine st_ord [] _ rfl ?_
      exact hk116 _ _ _ ⟨false, h, hl120, rfl, rfl⟩
    refine Z 5 rfl ?_
    obtain ⟨t145, w145, hR145, hA145⟩ := h
    refine st_env (ρ' := [(0, v6), (3, .Pb b3), (4, .bool false), (7, .Pb b22), (9, .I r14.2.2.1), (11, .Pb b25), (12, .Pb b26), (13, .Pb b27), (17, .Pb b90), (103, .func (.func f95) #[] q96)]) ⟨rfl, rfl, rfl, rfl, rfl, rfl, rfl, rfl, rfl, rfl, trivial⟩ ?_
    refine st_ord [1, 1, 2, 2, 2, 0, 1] _ rfl ?_
    refine st_addNil ?_
    refine st_range (B := law34_LogParses_l5 a1) (s0 := 0) ranges_fctx rfl hit97 (Sto.Le.refl _) hR145 rfl (fun _ _ _ h => by obtain ⟨_, _, rfl, _⟩ := h; rfl) (fun (s145 : Int) τ145 gs => τ93.Le τ145 ∧ gs = [[(b3, .cells #[.I a1] 3 (0, 0))], [(b22, .cells #[v18] 23 (0, 0))], [(b25, .cells #[.I p84.1] 3 (0, 0))], [(b26, .cells #[.bool p84.2.1] 4 (0, 0))], [(b27, .cells #[v87] 22 (0, 0))], [(b90, .cells #[.I s145] 3 (0, 0))], g88]) (fun (p150 : Int) cd τ151 gs => cd = .exit 2 ∧ τ93.Le τ151 ∧ gs = [[(b3, .cells #[.I a1] 3 (0, 0))], [(b22, .cells #[v18] 23 (0, 0))], [(b25, .cells #[.I p84.1] 3 (0, 0))], [(b26, .cells #[.bool p84.2.1] 4 (0, 0))], [(b27, .cells #[v87] 22 (0, 0))], [(b90, .cells #[.I p150] 3 (0, 0))], g88]) (fun _ _ _ _ hl ⟨hb, hg⟩ => ⟨hb.trans hl, hg⟩) (fun _ _ _ _ _ hl ⟨hc, hb, hg⟩ => ⟨hc, hb.trans hl, hg⟩) ⟨Sto.Le.refl _, rfl⟩ ?_ ?_ ?_
    ·rintro x145 s145 o145 τ145 gs145 vx145 hl145 h ⟨v146, v147, rfl, hs148, hs149⟩ ⟨hb145, rfl⟩ l145 rc145 caller145 cs145 fs145
     refine st_skip ?_
     refine st_begin ?_
     refine ZZ 8 [5, 0] rfl rfl ?_
     refine st_if rfl h (fun h => ?_) (fun h => ?_)
     ·exact st_rexit rfl (List.Sublist.refl _) (Sto.Le.refl _) ⟨_, h, rfl, hl145, rfl⟩
     ·refine ZZ 7 [5, 5] rfl rfl ?_
      exact st_rend (List.Sublist.refl _) (Sto.Le.refl _) ⟨_, h, hl145, rfl⟩
    ·rintro p153 τ154 gs145 f145 ht hl155 ⟨hb, rfl⟩ rfl
     subst ht
     replace h := hA145
     refine st_ord [1, 1, 1, 1, 1, 1, 1] _ rfl ?_
     refine st_inBlock ?_
     exact hk98 _ _ _ ⟨p153, h, hl155, rfl, rfl⟩
    ·rintro p150 cd145 τ151 gs145 f145 ht hl152 ⟨rfl, hb, rfl⟩ rfl
     subst ht
     replace h := hA145
     refine st_ord [1, 1, 1, 1, 1, 1, 1] _ rfl ?_
     refine st_exit rfl ?_
     exact hk98 _ _ _ ⟨p150, h, hl152, rfl, rfl⟩
   ·exact fun _ _ _ _ _ _ _ h => h.elim
 refine Z 4 rfl ?_
 refine o_mif rfl rfl rfl rfl h (fun h => ?_) (fun h => ?_)
 ·refine Z 19 rfl ?_
  refine st_ord [2, 1, 0] _ rfl ?_
  exact hk24 _ _ _ ⟨true, h, (Sto.Le.refl _), rfl, rfl⟩
 ·refine Z 2 rfl ?_
  refine o_mif rfl rfl rfl rfl h (fun h => ?_) (fun h => ?_)
  ·refine ZZ 2 [1] rfl rfl ?_
   obtain ⟨r156, hr157, h⟩ := h
   refine st_call (foot := []) rfl rfl rfl rfl rfl rfl (callV_fn z_en14 (law24_Same_ok hr157 τ16 (hs13.up hl17) hs19)) ?_
   rintro vτ158 τ158 gsτ158 hl159 ⟨rfl, rfl⟩
   refine Z 3 rfl ?_
   refine o_mif rfl rfl rfl rfl h (fun h => ?_) (fun h => ?_)
   ·refine Z 9 rfl ?_
    refine st_ord [2, 1, 0] _ rfl ?_
    exact hk24 _ _ _ ⟨true, h, hl159, rfl, rfl⟩
   ·refine Z 2 rfl ?_
    refine o_mif rfl rfl rfl rfl h (fun h => ?_) (fun h => ?_)
    ·refine o_move rfl rfl rfl rfl ?_
     refine o_lenI rfl rfl rfl z_slT22 rfl (hs13.up (hl17.trans hl159)) ?_
     refine Z 4 rfl ?_
     refine st_ord [2, 1, 0] _ rfl ?_
     exact hk24 _ _ _ ⟨(!(decide ((r8.1.length : Int) = 0))), h, hl159, rfl, rfl⟩
    ·refine Z 6 rfl ?_
     refine st_ord [2, 1, 0] _ rfl ?_
     exact hk24 _ _ _ ⟨false, h, hl159, rfl, rfl⟩
  ·refine Z 9 rfl ?_
   refine o_mif rfl rfl rfl rfl h (fun h => ?_) (fun h => ?_)
   ·refine o_move rfl rfl rfl rfl ?_
    refine o_lenI rfl rfl rfl z_slT22 rfl (hs13.up hl17) ?_
    refine Z 4 rfl ?_
    refine st_ord [2, 1, 0] _ rfl ?_
    exact hk24 _ _ _ ⟨(!(decide ((r8.1.length : Int) = 0))), h, (Sto.Le.refl _), rfl, rfl⟩
   ·refine Z 6 rfl ?_
    refine st_ord [2, 1, 0] _ rfl ?_
    exact hk24 _ _ _ ⟨false, h, (Sto.Le.refl _), rfl, rfl⟩
end Go.Rel
