import Derived.Test.YthglcjhdmoljjaaDoorURel
import Derived.Test.YthglcjhdmoljjaaDoorUFacts
import Derived.Test.YthglcjhdmoljjaaDoorUWalk0
/-! The walks. -/
set_option linter.unusedVariables false
set_option linter.unusedSimpArgs false
set_option maxRecDepth 4000
set_option maxHeartbeats 4000000
namespace Go.Rel
open Go Go.Eng Go.Proofs
theorem law23_EventMakes_ok {a0 : Int} {a1 : Int} {a2 : Int × List Int × List (Int × Int) × List Int × ByteArray × ByteArray} {a3 : Int} {v1 : Value} {v2 : Value} {r : Bool} (h : law23_EventMakes a0 a1 a2 a3 r) (σ : Sto) (hs3 : Sl (kP (kI .i64) (kI .i64)) σ v1 a2.2.2.1) (hs4 : Sl (kI .i64) σ v2 a2.2.2.2.1) (hT : Tab Tryd.prog σ) :
    Does Tryd.prog 3 [.int .u32 a0, .int .i64 a1, .agg [.int .i64 a2.1, .int .i64 (a2.2.1.getD 0 0), .int .i64 (a2.2.1.getD 1 0), .int .i64 (a2.2.1.getD 2 0), .int .i64 (a2.2.1.getD 3 0), .int .i64 (a2.2.1.getD 4 0), .int .i64 (a2.2.1.getD 5 0), v1, v2, .string a2.2.2.2.2.1, .string a2.2.2.2.2.2].toArray, .int .i64 a3] σ [] (fun v τ gs => gs = [] ∧ .bool r = v) := by
 refine call_of Tryd.func3 Tryd.ntmps3 rfl rfl (fun cs fs => ?_)
 refine Z 2 rfl ?_
 refine o_box (cs := [.int .i64 a2.1, .int .i64 (a2.2.1.getD 0 0), .int .i64 (a2.2.1.getD 1 0), .int .i64 (a2.2.1.getD 2 0), .int .i64 (a2.2.1.getD 3 0), .int .i64 (a2.2.1.getD 4 0), .int .i64 (a2.2.1.getD 5 0), v1, v2, .string a2.2.2.2.2.1, .string a2.2.2.2.2.2]) rfl rfl rfl rfl rfl (fun b5 => ?_)
 refine ZZ 5 [0] rfl rfl ?_
 obtain ⟨r6, hr7, h⟩ := h
 refine st_call (foot := []) rfl rfl rfl rfl rfl rfl (callV_fn z_en7 (law17_Cut_ok hr7 σ hs3 hs4)) ?_
 rintro vτ8 τ8 gsτ8 hl9 ⟨v10, v11, rfl, rfl, hs12, hs13⟩
 refine o_store (j := 0) (vs := [.int .i64 r6.1, .int .i64 (r6.2.1.getD 0 0), .int .i64 (r6.2.1.getD 1 0), .int .i64 (r6.2.1.getD 2 0), .int .i64 (r6.2.1.getD 3 0), .int .i64 (r6.2.1.getD 4 0), .int .i64 (r6.2.1.getD 5 0), v10, v11, .string r6.2.2.2.2.1, .string r6.2.2.2.2.2]) (cs' := [.int .i64 r6.1, .int .i64 (r6.2.1.getD 0 0), .int .i64 (r6.2.1.getD 1 0), .int .i64 (r6.2.1.getD 2 0), .int .i64 (r6.2.1.getD 3 0), .int .i64 (r6.2.1.getD 4 0), .int .i64 (r6.2.1.getD 5 0), v10, v11, .string r6.2.2.2.2.1, .string r6.2.2.2.2.2]) rfl rfl rfl z_size27 rfl rfl rfl (ones_cons rfl (ones_cons rfl (ones_cons rfl (ones_cons rfl (ones_cons rfl (ones_cons rfl (ones_cons rfl (ones_cons hs12.one' (ones_cons hs13.one' (ones_cons rfl (ones_cons rfl ones_nil))))))))))) rfl rfl rfl ?_
 refine st_gs [[(b5, .cells #[.int .i64 r6.1, .int .i64 (r6.2.1.getD 0 0), .int .i64 (r6.2.1.getD 1 0), .int .i64 (r6.2.1.getD 2 0), .int .i64 (r6.2.1.getD 3 0), .int .i64 (r6.2.1.getD 4 0), .int .i64 (r6.2.1.getD 5 0), v10, v11, .string r6.2.2.2.2.1, .string r6.2.2.2.2.2] 27 (0, 0))]] rfl ?_
 refine ZZ 6 [0] rfl rfl ?_
 obtain ⟨r14, hr15, h⟩ := h
 refine st_call (foot := []) rfl rfl rfl rfl rfl rfl (callV_fn z_en8 (event_Delivery_own_ok hr15 τ8 hs12 hs13)) ?_
 rintro vτ16 τ16 gsτ16 hl17 ⟨v18, g19, v20, rfl, rfl, ho21, hs22⟩
 refine o_alloc rfl rfl rfl z_zero31 (fun b23 => ?_)
 refine o_store (j := 0) (vs := [.int .i64 r14.1, .int .u32 r14.2.1, .int .i64 r14.2.2.1, .int .i64 r14.2.2.2.1, .int .i64 r14.2.2.2.2.1, .int .i64 (r14.2.2.2.2.2.1.getD 0 0), .int .i64 (r14.2.2.2.2.2.1.getD 1 0), .int .i64 (r14.2.2.2.2.2.1.getD 2 0), .int .i64 (r14.2.2.2.2.2.1.getD 3 0), .int .i64 (r14.2.2.2.2.2.1.getD 4 0), .int .i64 (r14.2.2.2.2.2.1.getD 5 0), v18, v20, .string r14.2.2.2.2.2.2.2.2.1, .string r14.2.2.2.2.2.2.2.2.2]) (cs' := [.int .i64 r14.1, .int .u32 r14.2.1, .int .i64 r14.2.2.1, .int .i64 r14.2.2.2.1, .int .i64 r14.2.2.2.2.1, .int .i64 (r14.2.2.2.2.2.1.getD 0 0), .int .i64 (r14.2.2.2.2.2.1.getD 1 0), .int .i64 (r14.2.2.2.2.2.1.getD 2 0), .int .i64 (r14.2.2.2.2.2.1.getD 3 0), .int .i64 (r14.2.2.2.2.2.1.getD 4 0), .int .i64 (r14.2.2.2.2.2.1.getD 5 0), v18, v20, .string r14.2.2.2.2.2.2.2.2.1, .string r14.2.2.2.2.2.2.2.2.2]) rfl rfl rfl z_size31 rfl rfl rfl (ones_cons rfl (ones_cons rfl (ones_cons rfl (ones_cons rfl (ones_cons rfl (ones_cons rfl (ones_cons rfl (ones_cons rfl (ones_cons rfl (ones_cons rfl (ones_cons rfl (ones_cons ho21.one' (ones_cons hs22.one' (ones_cons rfl (ones_cons rfl ones_nil))))))))))))))) rfl rfl rfl ?_
 refine st_gs [[(b23, .cells #[.int .i64 r14.1, .int .u32 r14.2.1, .int .i64 r14.2.2.1, .int .i64 r14.2.2.2.1, .int .i64 r14.2.2.2.2.1, .int .i64 (r14.2.2.2.2.2.1.getD 0 0), .int .i64 (r14.2.2.2.2.2.1.getD 1 0), .int .i64 (r14.2.2.2.2.2.1.getD 2 0), .int .i64 (r14.2.2.2.2.2.1.getD 3 0), .int .i64 (r14.2.2.2.2.2.1.getD 4 0), .int .i64 (r14.2.2.2.2.2.1.getD 5 0), v18, v20, .string r14.2.2.2.2.2.2.2.2.1, .string r14.2.2.2.2.2.2.2.2.2] 31 (0, 0))], g19, [(b5, .cells #[.int .i64 r6.1, .int .i64 (r6.2.1.getD 0 0), .int .i64 (r6.2.1.getD 1 0), .int .i64 (r6.2.1.getD 2 0), .int .i64 (r6.2.1.getD 3 0), .int .i64 (r6.2.1.getD 4 0), .int .i64 (r6.2.1.getD 5 0), v10, v11, .string r6.2.2.2.2.1, .string r6.2.2.2.2.2] 27 (0, 0))]] rfl ?_
 refine ZZ 6 [2] rfl rfl ?_
 obtain ⟨r24, hr25, h⟩ := h
 refine st_call (foot := []) rfl rfl rfl rfl rfl rfl (callV_fn z_en10 (msg_Copy_ok hr25 τ16 (hs12.up hl17) (hs13.up hl17))) ?_
 rintro vτ26 τ26 gsτ26 hl27 ⟨v28, v29, rfl, rfl, hs30, hs31⟩
 obtain ⟨r32, hr33, h⟩ := h
 refine st_call (foot := []) rfl rfl rfl rfl rfl rfl (callV_fn z_en9 (law17_Of_ok hr33 τ26 hs30 hs31)) ?_
 rintro vτ34 τ34 gsτ34 hl35 ⟨v36, v37, rfl, rfl, hs38, hs39⟩
 refine ZZ 1 [] rfl rfl ?_
 refine o_alloc rfl rfl rfl z_zero38 (fun b40 => ?_)
 refine o_store (j := 0) (vs := [.int .i64 1, .int .u32 a0, .int .i64 a1, .int .i64 0, .int .i64 r32.1, .int .i64 (r32.2.1.getD 0 0), .int .i64 (r32.2.1.getD 1 0), .int .i64 (r32.2.1.getD 2 0), .int .i64 (r32.2.1.getD 3 0), .int .i64 (r32.2.1.getD 4 0), .int .i64 (r32.2.1.getD 5 0), v36, v37, .string r32.2.2.2.2.1, .string r32.2.2.2.2.2]) (cs' := [.int .i64 1, .int .u32 a0, .int .i64 a1, .int .i64 0, .int .i64 r32.1, .int .i64 (r32.2.1.getD 0 0), .int .i64 (r32.2.1.getD 1 0), .int .i64 (r32.2.1.getD 2 0), .int .i64 (r32.2.1.getD 3 0), .int .i64 (r32.2.1.getD 4 0), .int .i64 (r32.2.1.getD 5 0), v36, v37, .string r32.2.2.2.2.1, .string r32.2.2.2.2.2]) rfl rfl rfl z_size38 rfl rfl rfl (ones_cons rfl (ones_cons rfl (ones_cons rfl (ones_cons rfl (ones_cons rfl (ones_cons rfl (ones_cons rfl (ones_cons rfl (ones_cons rfl (ones_cons rfl (ones_cons rfl (ones_cons hs38.one' (ones_cons hs39.one' (ones_cons rfl (ones_cons rfl ones_nil))))))))))))))) rfl rfl rfl ?_
 refine st_gs [[(b40, .cells #[.int .i64 1, .int .u32 a0, .int .i64 a1, .int .i64 0, .int .i64 r32.1, .int .i64 (r32.2.1.getD 0 0), .int .i64 (r32.2.1.getD 1 0), .int .i64 (r32.2.1.getD 2 0), .int .i64 (r32.2.1.getD 3 0), .int .i64 (r32.2.1.getD 4 0), .int .i64 (r32.2.1.getD 5 0), v36, v37, .string r32.2.2.2.2.1, .string r32.2.2.2.2.2] 38 (0, 0))], [(b23, .cells #[.int .i64 r14.1, .int .u32 r14.2.1, .int .i64 r14.2.2.1, .int .i64 r14.2.2.2.1, .int .i64 r14.2.2.2.2.1, .int .i64 (r14.2.2.2.2.2.1.getD 0 0), .int .i64 (r14.2.2.2.2.2.1.getD 1 0), .int .i64 (r14.2.2.2.2.2.1.getD 2 0), .int .i64 (r14.2.2.2.2.2.1.getD 3 0), .int .i64 (r14.2.2.2.2.2.1.getD 4 0), .int .i64 (r14.2.2.2.2.2.1.getD 5 0), v18, v20, .string r14.2.2.2.2.2.2.2.2.1, .string r14.2.2.2.2.2.2.2.2.2] 31 (0, 0))], g19, [(b5, .cells #[.int .i64 r6.1, .int .i64 (r6.2.1.getD 0 0), .int .i64 (r6.2.1.getD 1 0), .int .i64 (r6.2.1.getD 2 0), .int .i64 (r6.2.1.getD 3 0), .int .i64 (r6.2.1.getD 4 0), .int .i64 (r6.2.1.getD 5 0), v10, v11, .string r6.2.2.2.2.1, .string r6.2.2.2.2.2] 27 (0, 0))]] rfl ?_
 refine Z 3 rfl ?_
 obtain ⟨r48, hr49, r56, hr57, h⟩ := h
 refine st_ord [2, 0, 0, 0] _ rfl ?_
 refine st_freeze2 (fun τ41 hl42 hg43 ha44 hn45 => ?_)
 have hs46 := ho21.freeze ((hl27.trans hl35).trans hl42) hg43
 refine st_draw 5 (dl [.v (.agg #[.int .i64 r14.1, .int .u32 r14.2.1, .int .i64 r14.2.2.1, .int .i64 r14.2.2.2.1, .int .i64 r14.2.2.2.2.1, .int .i64 (r14.2.2.2.2.2.1.getD 0 0), .int .i64 (r14.2.2.2.2.2.1.getD 1 0), .int .i64 (r14.2.2.2.2.2.1.getD 2 0), .int .i64 (r14.2.2.2.2.2.1.getD 3 0), .int .i64 (r14.2.2.2.2.2.1.getD 4 0), .int .i64 (r14.2.2.2.2.2.1.getD 5 0), v18, v20, .string r14.2.2.2.2.2.2.2.2.1, .string r14.2.2.2.2.2.2.2.2.2]), .t fun τ v => ∃ (v52 : Value) (v53 : Value), (.agg #[.int .i64 r48.1, .int .u32 r48.2.1, .int .i64 r48.2.2.1, .int .i64 r48.2.2.2.1, .int .i64 r48.2.2.2.2.1, .int .i64 (r48.2.2.2.2.2.1.getD 0 0), .int .i64 (r48.2.2.2.2.2.1.getD 1 0), .int .i64 (r48.2.2.2.2.2.1.getD 2 0), .int .i64 (r48.2.2.2.2.2.1.getD 3 0), .int .i64 (r48.2.2.2.2.2.1.getD 4 0), .int .i64 (r48.2.2.2.2.2.1.getD 5 0), v52, v53, .string r48.2.2.2.2.2.2.2.2.1, .string r48.2.2.2.2.2.2.2.2.2] : Value) = v ∧ Sl (kA .i64 2) τ v52 r48.2.2.2.2.2.2.1 ∧ Sl (kI .i64) τ v53 r48.2.2.2.2.2.2.2.1, .v (.agg #[.int .i64 1, .int .u32 a0, .int .i64 a1, .int .i64 0, .int .i64 r32.1, .int .i64 (r32.2.1.getD 0 0), .int .i64 (r32.2.1.getD 1 0), .int .i64 (r32.2.1.getD 2 0), .int .i64 (r32.2.1.getD 3 0), .int .i64 (r32.2.1.getD 4 0), .int .i64 (r32.2.1.getD 5 0), v36, v37, .string r32.2.2.2.2.1, .string r32.2.2.2.2.2]), .v (.bool r56), .v (.bool (!r56))]) (fun _ _ => []) z_mix rfl (dl_mono ⟨fun _ _ _ hl ⟨v52, v53, hv, hs54, hs55⟩ => ⟨v52, v53, hv, hs54.up hl, hs55.up hl⟩, trivial⟩) (allB_cons (allB_cons (allB_cons (allB_cons (allB_cons allB_nil ?_) ?_) ?_) ?_) (p1 dA)) ?_
 ·intro ρ' τ pool rs hl hd hout hk
  refine o_loadN (j := 1) (vs := [.int .i64 r14.1, .int .u32 r14.2.1, .int .i64 r14.2.2.1, .int .i64 r14.2.2.2.1, .int .i64 r14.2.2.2.2.1, .int .i64 (r14.2.2.2.2.2.1.getD 0 0), .int .i64 (r14.2.2.2.2.2.1.getD 1 0), .int .i64 (r14.2.2.2.2.2.1.getD 2 0), .int .i64 (r14.2.2.2.2.2.1.getD 3 0), .int .i64 (r14.2.2.2.2.2.1.getD 4 0), .int .i64 (r14.2.2.2.2.2.1.getD 5 0), v18, v20, .string r14.2.2.2.2.2.2.2.2.1, .string r14.2.2.2.2.2.2.2.2.2]) rfl rfl rfl z_agg31 ((hout 9 rfl).trans rfl) rfl rfl ?_
  exact st_addNil (hk _ _ (Sto.Le.refl _) rfl)
 ·intro ρ' τ pool rs hl hd hout hk
  obtain ⟨_, e0, rfl⟩ := hd 0 rfl
  refine st_call (foot := []) rfl rfl rfl rfl (evs_cons e0 rfl) rfl (callV_fn z_en12 (law23_Of_ok hr49 τ (hs46.up hl) (hs22.up (((hl27.trans hl35).trans hl42).trans hl)))) ?_
  rintro vτ50 τ50 gsτ50 hl51 ⟨v52, v53, rfl, rfl, hs54, hs55⟩
  exact st_addNil (hk _ _ hl51 ⟨v52, v53, rfl, hs54, hs55⟩)
 ·intro ρ' τ pool rs hl hd hout hk
  refine o_loadN (j := 0) (vs := [.int .i64 1, .int .u32 a0, .int .i64 a1, .int .i64 0, .int .i64 r32.1, .int .i64 (r32.2.1.getD 0 0), .int .i64 (r32.2.1.getD 1 0), .int .i64 (r32.2.1.getD 2 0), .int .i64 (r32.2.1.getD 3 0), .int .i64 (r32.2.1.getD 4 0), .int .i64 (r32.2.1.getD 5 0), v36, v37, .string r32.2.2.2.2.1, .string r32.2.2.2.2.2]) rfl rfl rfl z_agg38 ((hout 10 rfl).trans rfl) rfl rfl ?_
  exact st_addNil (hk _ _ (Sto.Le.refl _) rfl)
 ·intro ρ' τ pool rs hl hd hout hk
  obtain ⟨_, e1, v52, v53, rfl, hs54, hs55⟩ := hd 1 rfl
  obtain ⟨_, e2, rfl⟩ := hd 2 rfl
  refine st_call (foot := []) rfl rfl rfl rfl (evs_cons e1 (evs_cons e2 rfl)) rfl (callV_fn z_en11 (ref23_Same_ok hr57 τ hs54 hs55 (hs38.up (hl42.trans hl)) (hs39.up (hl42.trans hl)))) ?_
  rintro vτ58 τ58 gsτ58 hl59 ⟨rfl, rfl⟩
  exact st_addNil (hk _ _ hl59 rfl)
 intro ρ' τ60 vals hl60 hv hout
 refine st_ord [0, 0, 0] _ rfl ?_
 refine st_env (ρ' := [(29, .bool (!r56)), (0, .int .u32 a0), (1, .int .i64 a1), (3, .int .i64 a3), (6, .pointer (some ⟨b5, 0, none⟩)), (8, .bool false), (9, .pointer (some ⟨b23, 0, none⟩)), (10, .pointer (some ⟨b40, 0, none⟩))]) ⟨(lv1 hv 4 rfl rfl), (hout 0 rfl).trans rfl, (hout 1 rfl).trans rfl, (hout 3 rfl).trans rfl, (hout 6 rfl).trans rfl, (hout 8 rfl).trans rfl, (hout 9 rfl).trans rfl, (hout 10 rfl).trans rfl, trivial⟩ ?_
 refine st_end ?_
 refine st_if rfl h (fun h => ?_) (fun h => ?_)
 ·refine Z 4 rfl ?_
  refine st_ord [] _ rfl ?_
  obtain rfl := Eq.symm h
  exact st_ret (gs' := []) Tryd.func3 rfl (List.Sublist.refl _) (((((hl9.trans hl17).trans hl27).trans hl35).trans hl42).trans hl60) ⟨rfl, rfl⟩
 ·refine st_skip ?_
  refine st_thaw (hl42.trans hl60) (fun p hp => hl60.imm _ _ (hg43 p hp)) ha44 hn45 (fun τ61 hl62 => ?_)
  refine st_seq ?_
  refine st_cut (fun ρ τ63 gs => ∃ (s63 : Unit), law23_EventMakes_j1 a0 a1 a3 r6 r32 s63 r ∧ τ61.Le τ63 ∧ ESub ρ [(0, .int .u32 a0), (1, .int .i64 a1), (3, .int .i64 a3), (6, .pointer (some ⟨b5, 0, none⟩)), (8, .bool false), (10, .pointer (some ⟨b40, 0, none⟩))] ∧ gs = [[(b5, .cells #[.int .i64 r6.1, .int .i64 (r6.2.1.getD 0 0), .int .i64 (r6.2.1.getD 1 0), .int .i64 (r6.2.1.getD 2 0), .int .i64 (r6.2.1.getD 3 0), .int .i64 (r6.2.1.getD 4 0), .int .i64 (r6.2.1.getD 5 0), v10, v11, .string r6.2.2.2.2.1, .string r6.2.2.2.2.2] 27 (0, 0))], [(b40, .cells #[.int .i64 1, .int .u32 a0, .int .i64 a1, .int .i64 0, .int .i64 r32.1, .int .i64 (r32.2.1.getD 0 0), .int .i64 (r32.2.1.getD 1 0), .int .i64 (r32.2.1.getD 2 0), .int .i64 (r32.2.1.getD 3 0), .int .i64 (r32.2.1.getD 4 0), .int .i64 (r32.2.1.getD 5 0), v36, v37, .string r32.2.2.2.2.1, .string r32.2.2.2.2.2] 38 (0, 0))]]) ?_ (fun hk63 => ?_)
  ·rintro ρ63 τ63 gs63 ⟨s63, h, hl63, hρ, rfl⟩
   refine st_es hρ ?_
   refine ZZ 5 [0] rfl rfl ?_
   obtain ⟨r64, hr65, h⟩ := h
   refine st_call (foot := []) rfl rfl rfl rfl rfl rfl (callV_fn z_en8 (event_Delivery_own_ok hr65 τ63 (hs12.up ((((hl17.trans hl27).trans hl35).trans hl62).trans hl63)) (hs13.up ((((hl17.trans hl27).trans hl35).trans hl62).trans hl63)))) ?_
   rintro vτ66 τ66 gsτ66 hl67 ⟨v68, g69, v70, rfl, rfl, ho71, hs72⟩
   refine o_alloc rfl rfl rfl z_zero31 (fun b73 => ?_)
   refine o_store (j := 0) (vs := [.int .i64 r64.1, .int .u32 r64.2.1, .int .i64 r64.2.2.1, .int .i64 r64.2.2.2.1, .int .i64 r64.2.2.2.2.1, .int .i64 (r64.2.2.2.2.2.1.getD 0 0), .int .i64 (r64.2.2.2.2.2.1.getD 1 0), .int .i64 (r64.2.2.2.2.2.1.getD 2 0), .int .i64 (r64.2.2.2.2.2.1.getD 3 0), .int .i64 (r64.2.2.2.2.2.1.getD 4 0), .int .i64 (r64.2.2.2.2.2.1.getD 5 0), v68, v70, .string r64.2.2.2.2.2.2.2.2.1, .string r64.2.2.2.2.2.2.2.2.2]) (cs' := [.int .i64 r64.1, .int .u32 r64.2.1, .int .i64 r64.2.2.1, .int .i64 r64.2.2.2.1, .int .i64 r64.2.2.2.2.1, .int .i64 (r64.2.2.2.2.2.1.getD 0 0), .int .i64 (r64.2.2.2.2.2.1.getD 1 0), .int .i64 (r64.2.2.2.2.2.1.getD 2 0), .int .i64 (r64.2.2.2.2.2.1.getD 3 0), .int .i64 (r64.2.2.2.2.2.1.getD 4 0), .int .i64 (r64.2.2.2.2.2.1.getD 5 0), v68, v70, .string r64.2.2.2.2.2.2.2.2.1, .string r64.2.2.2.2.2.2.2.2.2]) rfl rfl rfl z_size31 rfl rfl rfl (ones_cons rfl (ones_cons rfl (ones_cons rfl (ones_cons rfl (ones_cons rfl (ones_cons rfl (ones_cons rfl (ones_cons rfl (ones_cons rfl (ones_cons rfl (ones_cons rfl (ones_cons ho71.one' (ones_cons hs72.one' (ones_cons rfl (ones_cons rfl ones_nil))))))))))))))) rfl rfl rfl ?_
   refine st_gs [[(b73, .cells #[.int .i64 r64.1, .int .u32 r64.2.1, .int .i64 r64.2.2.1, .int .i64 r64.2.2.2.1, .int .i64 r64.2.2.2.2.1, .int .i64 (r64.2.2.2.2.2.1.getD 0 0), .int .i64 (r64.2.2.2.2.2.1.getD 1 0), .int .i64 (r64.2.2.2.2.2.1.getD 2 0), .int .i64 (r64.2.2.2.2.2.1.getD 3 0), .int .i64 (r64.2.2.2.2.2.1.getD 4 0), .int .i64 (r64.2.2.2.2.2.1.getD 5 0), v68, v70, .string r64.2.2.2.2.2.2.2.2.1, .string r64.2.2.2.2.2.2.2.2.2] 31 (0, 0))], g69, [(b5, .cells #[.int .i64 r6.1, .int .i64 (r6.2.1.getD 0 0), .int .i64 (r6.2.1.getD 1 0), .int .i64 (r6.2.1.getD 2 0), .int .i64 (r6.2.1.getD 3 0), .int .i64 (r6.2.1.getD 4 0), .int .i64 (r6.2.1.getD 5 0), v10, v11, .string r6.2.2.2.2.1, .string r6.2.2.2.2.2] 27 (0, 0))], [(b40, .cells #[.int .i64 1, .int .u32 a0, .int .i64 a1, .int .i64 0, .int .i64 r32.1, .int .i64 (r32.2.1.getD 0 0), .int .i64 (r32.2.1.getD 1 0), .int .i64 (r32.2.1.getD 2 0), .int .i64 (r32.2.1.getD 3 0), .int .i64 (r32.2.1.getD 4 0), .int .i64 (r32.2.1.getD 5 0), v36, v37, .string r32.2.2.2.2.1, .string r32.2.2.2.2.2] 38 (0, 0))]] rfl ?_
   refine Z 2 rfl ?_
   obtain ⟨r81, hr82, r86, hr87, r94, hr95, r99, hr100, r107, hr108, r115, hr116, r120, hr121, r128, hr129, r136, hr137, h⟩ := h
   refine st_ord [1, 0, 0, 0] _ rfl ?_
   refine st_freeze2 (fun τ74 hl75 hg76 ha77 hn78 => ?_)
   have hs79 := ho71.freeze hl75 hg76
   let cc85 : Prop := r81 = true
   let cc98 : Prop := (r81 && r94) = true
   let cc119 : Prop := ((r81 && r94) && r115) = true
   refine st_draw 25 (dl [.v (.bool r81), .v (.bool r81), .g cc85 (.agg #[.int .i64 r64.1, .int .u32 r64.2.1, .int .i64 r64.2.2.1, .int .i64 r64.2.2.2.1, .int .i64 r64.2.2.2.2.1, .int .i64 (r64.2.2.2.2.2.1.getD 0 0), .int .i64 (r64.2.2.2.2.2.1.getD 1 0), .int .i64 (r64.2.2.2.2.2.1.getD 2 0), .int .i64 (r64.2.2.2.2.2.1.getD 3 0), .int .i64 (r64.2.2.2.2.2.1.getD 4 0), .int .i64 (r64.2.2.2.2.2.1.getD 5 0), v68, v70, .string r64.2.2.2.2.2.2.2.2.1, .string r64.2.2.2.2.2.2.2.2.2]), .h cc85 fun τ v => ∃ (v90 : Value) (v91 : Value), (.agg #[.int .i64 r86.1, .int .u32 r86.2.1, .int .i64 r86.2.2.1, .int .i64 r86.2.2.2.1, .int .i64 r86.2.2.2.2.1, .int .i64 (r86.2.2.2.2.2.1.getD 0 0), .int .i64 (r86.2.2.2.2.2.1.getD 1 0), .int .i64 (r86.2.2.2.2.2.1.getD 2 0), .int .i64 (r86.2.2.2.2.2.1.getD 3 0), .int .i64 (r86.2.2.2.2.2.1.getD 4 0), .int .i64 (r86.2.2.2.2.2.1.getD 5 0), v90, v91, .string r86.2.2.2.2.2.2.2.2.1, .string r86.2.2.2.2.2.2.2.2.2] : Value) = v ∧ Sl (kA .i64 2) τ v90 r86.2.2.2.2.2.2.1 ∧ Sl (kI .i64) τ v91 r86.2.2.2.2.2.2.2.1, .g cc85 (.agg #[.int .i64 1, .int .u32 a0, .int .i64 a1, .int .i64 0, .int .i64 r32.1, .int .i64 (r32.2.1.getD 0 0), .int .i64 (r32.2.1.getD 1 0), .int .i64 (r32.2.1.getD 2 0), .int .i64 (r32.2.1.getD 3 0), .int .i64 (r32.2.1.getD 4 0), .int .i64 (r32.2.1.getD 5 0), v36, v37, .string r32.2.2.2.2.1, .string r32.2.2.2.2.2]), .g cc85 (.bool r94), .v (.bool (r81 && r94)), .v (.bool (r81 && r94)), .g cc98 (.int .u32 a0), .g cc98 (.int .i64 a3), .h cc98 fun τ v => ∃ (v103 : Value) (v104 : Value), (.agg #[.int .i64 r99.1, .int .u32 r99.2.1, .int .i64 r99.2.2.1, .int .i64 r99.2.2.2.1, .int .i64 r99.2.2.2.2.1, .int .i64 (r99.2.2.2.2.2.1.getD 0 0), .int .i64 (r99.2.2.2.2.2.1.getD 1 0), .int .i64 (r99.2.2.2.2.2.1.getD 2 0), .int .i64 (r99.2.2.2.2.2.1.getD 3 0), .int .i64 (r99.2.2.2.2.2.1.getD 4 0), .int .i64 (r99.2.2.2.2.2.1.getD 5 0), v103, v104, .string r99.2.2.2.2.2.2.2.2.1, .string r99.2.2.2.2.2.2.2.2.2] : Value) = v ∧ Sl (kP (kI .i64) (kI .i64)) τ v103 r99.2.2.2.2.2.2.1 ∧ Sl (kI .i64) τ v104 r99.2.2.2.2.2.2.2.1, .h cc98 fun τ v => ∃ (v111 : Value) (v112 : Value), (.agg #[.int .i64 r107.1, .int .u32 r107.2.1, .int .i64 r107.2.2.1, .int .i64 r107.2.2.2.1, .int .i64 r107.2.2.2.2.1, .int .i64 (r107.2.2.2.2.2.1.getD 0 0), .int .i64 (r107.2.2.2.2.2.1.getD 1 0), .int .i64 (r107.2.2.2.2.2.1.getD 2 0), .int .i64 (r107.2.2.2.2.2.1.getD 3 0), .int .i64 (r107.2.2.2.2.2.1.getD 4 0), .int .i64 (r107.2.2.2.2.2.1.getD 5 0), v111, v112, .string r107.2.2.2.2.2.2.2.2.1, .string r107.2.2.2.2.2.2.2.2.2] : Value) = v ∧ Sl (kA .i64 2) τ v111 r107.2.2.2.2.2.2.1 ∧ Sl (kI .i64) τ v112 r107.2.2.2.2.2.2.2.1, .g cc98 (.int .u32 a0), .g cc98 (.int .i64 a3), .g cc98 (.agg #[.int .i64 2, .int .u32 a0, .int .i64 0, .int .i64 a3, .int .i64 0, .int .i64 0, .int .i64 0, .int .i64 0, .int .i64 0, .int .i64 0, .int .i64 0, .slice none 0 0, .slice none 0 0, .string (bstr []), .string (bstr [])]), .g cc98 (.bool r115), .v (.bool ((r81 && r94) && r115)), .v (.bool ((r81 && r94) && r115)), .g cc119 (.int .u32 a0), .h cc119 fun τ v => ∃ (v124 : Value) (v125 : Value), (.agg #[.int .i64 r120.1, .int .u32 r120.2.1, .int .i64 r120.2.2.1, .int .i64 r120.2.2.2.1, .int .i64 r120.2.2.2.2.1, .int .i64 (r120.2.2.2.2.2.1.getD 0 0), .int .i64 (r120.2.2.2.2.2.1.getD 1 0), .int .i64 (r120.2.2.2.2.2.1.getD 2 0), .int .i64 (r120.2.2.2.2.2.1.getD 3 0), .int .i64 (r120.2.2.2.2.2.1.getD 4 0), .int .i64 (r120.2.2.2.2.2.1.getD 5 0), v124, v125, .string r120.2.2.2.2.2.2.2.2.1, .string r120.2.2.2.2.2.2.2.2.2] : Value) = v ∧ Sl (kP (kI .i64) (kI .i64)) τ v124 r120.2.2.2.2.2.2.1 ∧ Sl (kI .i64) τ v125 r120.2.2.2.2.2.2.2.1, .h cc119 fun τ v => ∃ (v132 : Value) (v133 : Value), (.agg #[.int .i64 r128.1, .int .u32 r128.2.1, .int .i64 r128.2.2.1, .int .i64 r128.2.2.2.1, .int .i64 r128.2.2.2.2.1, .int .i64 (r128.2.2.2.2.2.1.getD 0 0), .int .i64 (r128.2.2.2.2.2.1.getD 1 0), .int .i64 (r128.2.2.2.2.2.1.getD 2 0), .int .i64 (r128.2.2.2.2.2.1.getD 3 0), .int .i64 (r128.2.2.2.2.2.1.getD 4 0), .int .i64 (r128.2.2.2.2.2.1.getD 5 0), v132, v133, .string r128.2.2.2.2.2.2.2.2.1, .string r128.2.2.2.2.2.2.2.2.2] : Value) = v ∧ Sl (kA .i64 2) τ v132 r128.2.2.2.2.2.2.1 ∧ Sl (kI .i64) τ v133 r128.2.2.2.2.2.2.2.1, .g cc119 (.int .u32 a0), .g cc119 (.agg #[.int .i64 3, .int .u32 a0, .int .i64 0, .int .i64 0, .int .i64 0, .int .i64 0, .int .i64 0, .int .i64 0, .int .i64 0, .int .i64 0, .int .i64 0, .slice none 0 0, .slice none 0 0, .string (bstr []), .string (bstr [])]), .g cc119 (.bool r136), .v (.bool (((r81 && r94) && r115) && r136))]) (fun _ _ => []) z_mix rfl (dl_mono (by exact ⟨fun _ _ _ hl ⟨v90, v91, hv, hs92, hs93⟩ => ⟨v90, v91, hv, hs92.up hl, hs93.up hl⟩, ⟨fun _ _ _ hl ⟨v103, v104, hv, hs105, hs106⟩ => ⟨v103, v104, hv, hs105.up hl, hs106.up hl⟩, ⟨fun _ _ _ hl ⟨v111, v112, hv, hs113, hs114⟩ => ⟨v111, v112, hv, hs113.up hl, hs114.up hl⟩, ⟨fun _ _ _ hl ⟨v124, v125, hv, hs126, hs127⟩ => ⟨v124, v125, hv, hs126.up hl, hs127.up hl⟩, ⟨fun _ _ _ hl ⟨v132, v133, hv, hs134, hs135⟩ => ⟨v132, v133, hv, hs134.up hl, hs135.up hl⟩, trivial⟩⟩⟩⟩⟩)) (allB_cons (allB_cons (allB_cons (allB_cons (allB_cons (allB_cons (allB_cons (allB_cons (allB_cons (allB_cons (allB_cons (allB_cons (allB_cons (allB_cons (allB_cons (allB_cons (allB_cons (allB_cons (allB_cons (allB_cons (allB_cons (allB_cons (allB_cons (allB_cons (allB_cons allB_nil ?_) (p1 dA)) ?_) ?_) ?_) ?_) (p1 dK)) (p1 dA)) (p1 (dG []))) (p1 (dG []))) ?_) ?_) (p1 (dG []))) (p1 (dG []))) ?_) ?_) (p1 dK)) (p1 dA)) (p1 (dG []))) ?_) ?_) (p1 (dG []))) ?_) ?_) (p1 dK)) ?_
   ·intro ρ' τ pool rs hl hd hout hk
    refine st_call (foot := []) rfl rfl rfl rfl rfl rfl (callV_fn z_en13 (law23_known_ok hr82 τ (hT.up ((((((((hl9.trans hl17).trans hl27).trans hl35).trans hl62).trans hl63).trans hl67).trans hl75).trans hl)))) ?_
    rintro vτ83 τ83 gsτ83 hl84 ⟨rfl, rfl⟩
    exact st_addNil (hk _ _ hl84 rfl)
   ·intro ρ' τ pool rs hl hd hout hk
    obtain ⟨_, e1, rfl⟩ := hd 1 rfl
    by_cases hG : r81 = true
    ·have hC := hG
     refine o_loadN (j := 0) (vs := [.int .i64 r64.1, .int .u32 r64.2.1, .int .i64 r64.2.2.1, .int .i64 r64.2.2.2.1, .int .i64 r64.2.2.2.2.1, .int .i64 (r64.2.2.2.2.2.1.getD 0 0), .int .i64 (r64.2.2.2.2.2.1.getD 1 0), .int .i64 (r64.2.2.2.2.2.1.getD 2 0), .int .i64 (r64.2.2.2.2.2.1.getD 3 0), .int .i64 (r64.2.2.2.2.2.1.getD 4 0), .int .i64 (r64.2.2.2.2.2.1.getD 5 0), v68, v70, .string r64.2.2.2.2.2.2.2.2.1, .string r64.2.2.2.2.2.2.2.2.2]) rfl (wants_of rfl e1 hG) rfl z_agg31 ((hout 12 rfl).trans rfl) rfl rfl ?_
     exact st_addNil (hk _ _ (Sto.Le.refl _) ⟨fun _ => rfl, fun hn => absurd hC hn⟩)
    ·refine st_pass rfl rfl rfl e1 (beq_off hG) rfl ?_
     exact st_addNil (hk _ _ (Sto.Le.refl _) ⟨fun h => absurd h hG, fun _ => rfl⟩)
   ·intro ρ' τ pool rs hl hd hout hk
    obtain ⟨_, e1, rfl⟩ := hd 1 rfl
    obtain ⟨w2, e2, t2⟩ := hd 2 rfl
    by_cases hG : r81 = true
    ·have hC := hG
     replace hr87 := hr87 hC
     obtain ⟨rfl⟩ := t2.1 hC
     refine st_call (foot := []) rfl (wants_of rfl e1 hG) rfl rfl (evs_cons e2 rfl) rfl (callV_fn z_en12 (law23_Of_ok hr87 τ (hs79.up hl) (hs72.up (hl75.trans hl)))) ?_
     rintro vτ88 τ88 gsτ88 hl89 ⟨v90, v91, rfl, rfl, hs92, hs93⟩
     exact st_addNil (hk _ _ hl89 ⟨fun _ => ⟨v90, v91, rfl, hs92, hs93⟩, fun hn => absurd hC hn⟩)
    ·refine st_pass rfl rfl rfl e1 (beq_off hG) rfl ?_
     exact st_addNil (hk _ _ (Sto.Le.refl _) ⟨fun h => absurd h hG, fun _ => rfl⟩)
   ·intro ρ' τ pool rs hl hd hout hk
    obtain ⟨_, e1, rfl⟩ := hd 1 rfl
    by_cases hG : r81 = true
    ·have hC := hG
     refine o_loadN (j := 2) (vs := [.int .i64 1, .int .u32 a0, .int .i64 a1, .int .i64 0, .int .i64 r32.1, .int .i64 (r32.2.1.getD 0 0), .int .i64 (r32.2.1.getD 1 0), .int .i64 (r32.2.1.getD 2 0), .int .i64 (r32.2.1.getD 3 0), .int .i64 (r32.2.1.getD 4 0), .int .i64 (r32.2.1.getD 5 0), v36, v37, .string r32.2.2.2.2.1, .string r32.2.2.2.2.2]) rfl (wants_of rfl e1 hG) rfl z_agg38 ((hout 10 rfl).trans rfl) rfl rfl ?_
     exact st_addNil (hk _ _ (Sto.Le.refl _) ⟨fun _ => rfl, fun hn => absurd hC hn⟩)
    ·refine st_pass rfl rfl rfl e1 (beq_off hG) rfl ?_
     exact st_addNil (hk _ _ (Sto.Le.refl _) ⟨fun h => absurd h hG, fun _ => rfl⟩)
   ·intro ρ' τ pool rs hl hd hout hk
    obtain ⟨_, e1, rfl⟩ := hd 1 rfl
    obtain ⟨w3, e3, t3⟩ := hd 3 rfl
    obtain ⟨w4, e4, t4⟩ := hd 4 rfl
    by_cases hG : r81 = true
    ·have hC := hG
     replace hr95 := hr95 hC
     obtain ⟨v90, v91, rfl, hs92, hs93⟩ := t3.1 hC
     obtain ⟨rfl⟩ := t4.1 hC
     refine st_call (foot := []) rfl (wants_of rfl e1 hG) rfl rfl (evs_cons e3 (evs_cons e4 rfl)) rfl (callV_fn z_en11 (ref23_Same_ok hr95 τ hs92 hs93 (hs38.up ((((hl62.trans hl63).trans hl67).trans hl75).trans hl)) (hs39.up ((((hl62.trans hl63).trans hl67).trans hl75).trans hl)))) ?_
     rintro vτ96 τ96 gsτ96 hl97 ⟨rfl, rfl⟩
     exact st_addNil (hk _ _ hl97 ⟨fun _ => rfl, fun hn => absurd hC hn⟩)
    ·refine st_pass rfl rfl rfl e1 (beq_off hG) rfl ?_
     exact st_addNil (hk _ _ (Sto.Le.refl _) ⟨fun h => absurd h hG, fun _ => rfl⟩)
   ·intro ρ' τ pool rs hl hd hout hk
    obtain ⟨_, e7, rfl⟩ := hd 7 rfl
    obtain ⟨w8, e8, t8⟩ := hd 8 rfl
    obtain ⟨w9, e9, t9⟩ := hd 9 rfl
    by_cases hG : (r81 && r94) = true
    ·have hC := hG
     replace hr100 := hr100 hC
     obtain ⟨rfl⟩ := t8.1 hC
     obtain ⟨rfl⟩ := t9.1 hC
     refine st_call (foot := []) rfl (wants_of rfl e7 hG) rfl rfl (evs_cons e8 (evs_cons e9 rfl)) rfl (callV_fn z_en14 (event_Rejection_ok hr100 τ)) ?_
     rintro vτ101 τ101 gsτ101 hl102 ⟨v103, v104, rfl, rfl, hs105, hs106⟩
     exact st_addNil (hk _ _ hl102 ⟨fun _ => ⟨v103, v104, rfl, hs105, hs106⟩, fun hn => absurd hC hn⟩)
    ·refine st_pass rfl rfl rfl e7 (beq_off hG) rfl ?_
     exact st_addNil (hk _ _ (Sto.Le.refl _) ⟨fun h => absurd h hG, fun _ => rfl⟩)
   ·intro ρ' τ pool rs hl hd hout hk
    obtain ⟨_, e7, rfl⟩ := hd 7 rfl
    obtain ⟨w10, e10, t10⟩ := hd 10 rfl
    by_cases hG : (r81 && r94) = true
    ·have hC := hG
     replace hr108 := hr108 hC
     obtain ⟨v103, v104, rfl, hs105, hs106⟩ := t10.1 hC
     refine st_call (foot := []) rfl (wants_of rfl e7 hG) rfl rfl (evs_cons e10 rfl) rfl (callV_fn z_en12 (law23_Of_ok hr108 τ hs105 hs106)) ?_
     rintro vτ109 τ109 gsτ109 hl110 ⟨v111, v112, rfl, rfl, hs113, hs114⟩
     exact st_addNil (hk _ _ hl110 ⟨fun _ => ⟨v111, v112, rfl, hs113, hs114⟩, fun hn => absurd hC hn⟩)
    ·refine st_pass rfl rfl rfl e7 (beq_off hG) rfl ?_
     exact st_addNil (hk _ _ (Sto.Le.refl _) ⟨fun h => absurd h hG, fun _ => rfl⟩)
   ·intro ρ' τ pool rs hl hd hout hk
    obtain ⟨_, e7, rfl⟩ := hd 7 rfl
    obtain ⟨w12, e12, t12⟩ := hd 12 rfl
    obtain ⟨w13, e13, t13⟩ := hd 13 rfl
    by_cases hG : (r81 && r94) = true
    ·have hC := hG
     obtain ⟨rfl⟩ := t12.1 hC
     obtain ⟨rfl⟩ := t13.1 hC
     refine o_build (ps := [(0, [.int .i64 2]), (1, [.int .u32 a0]), (3, [.int .i64 a3])]) (cs := [.int .i64 2, .int .u32 a0, .int .i64 0, .int .i64 a3, .int .i64 0, .int .i64 0, .int .i64 0, .int .i64 0, .int .i64 0, .int .i64 0, .int .i64 0, .slice none 0 0, .slice none 0 0, .string (bstr []), .string (bstr [])]) rfl (wants_of rfl e7 hG) rfl z_struct38 ⟨rfl, ⟨_, rfl, rfl⟩, ⟨rfl, ⟨_, e12, rfl⟩, ⟨rfl, ⟨_, e13, rfl⟩, trivial⟩⟩⟩ rfl ?_
     exact st_addNil (hk _ _ (Sto.Le.refl _) ⟨fun _ => rfl, fun hn => absurd hC hn⟩)
    ·refine st_pass rfl rfl rfl e7 (beq_off hG) rfl ?_
     exact st_addNil (hk _ _ (Sto.Le.refl _) ⟨fun h => absurd h hG, fun _ => rfl⟩)
   ·intro ρ' τ pool rs hl hd hout hk
    obtain ⟨_, e7, rfl⟩ := hd 7 rfl
    obtain ⟨w11, e11, t11⟩ := hd 11 rfl
    obtain ⟨w14, e14, t14⟩ := hd 14 rfl
    by_cases hG : (r81 && r94) = true
    ·have hC := hG
     replace hr116 := hr116 hC
     obtain ⟨v111, v112, rfl, hs113, hs114⟩ := t11.1 hC
     obtain ⟨rfl⟩ := t14.1 hC
     refine st_call (foot := []) rfl (wants_of rfl e7 hG) rfl rfl (evs_cons e11 (evs_cons e14 rfl)) rfl (callV_fn z_en11 (ref23_Same_ok hr116 τ hs113 hs114 Sl.nil Sl.nil)) ?_
     rintro vτ117 τ117 gsτ117 hl118 ⟨rfl, rfl⟩
     exact st_addNil (hk _ _ hl118 ⟨fun _ => rfl, fun hn => absurd hC hn⟩)
    ·refine st_pass rfl rfl rfl e7 (beq_off hG) rfl ?_
     exact st_addNil (hk _ _ (Sto.Le.refl _) ⟨fun h => absurd h hG, fun _ => rfl⟩)
   ·intro ρ' τ pool rs hl hd hout hk
    obtain ⟨_, e17, rfl⟩ := hd 17 rfl
    obtain ⟨w18, e18, t18⟩ := hd 18 rfl
    by_cases hG : ((r81 && r94) && r115) = true
    ·have hC := hG
     replace hr121 := hr121 hC
     obtain ⟨rfl⟩ := t18.1 hC
     refine st_call (foot := []) rfl (wants_of rfl e17 hG) rfl rfl (evs_cons e18 rfl) rfl (callV_fn z_en15 (event_Eviction_ok hr121 τ)) ?_
     rintro vτ122 τ122 gsτ122 hl123 ⟨v124, v125, rfl, rfl, hs126, hs127⟩
     exact st_addNil (hk _ _ hl123 ⟨fun _ => ⟨v124, v125, rfl, hs126, hs127⟩, fun hn => absurd hC hn⟩)
    ·refine st_pass rfl rfl rfl e17 (beq_off hG) rfl ?_
     exact st_addNil (hk _ _ (Sto.Le.refl _) ⟨fun h => absurd h hG, fun _ => rfl⟩)
   ·intro ρ' τ pool rs hl hd hout hk
    obtain ⟨_, e17, rfl⟩ := hd 17 rfl
    obtain ⟨w19, e19, t19⟩ := hd 19 rfl
    by_cases hG : ((r81 && r94) && r115) = true
    ·have hC := hG
     replace hr129 := hr129 hC
     obtain ⟨v124, v125, rfl, hs126, hs127⟩ := t19.1 hC
     refine st_call (foot := []) rfl (wants_of rfl e17 hG) rfl rfl (evs_cons e19 rfl) rfl (callV_fn z_en12 (law23_Of_ok hr129 τ hs126 hs127)) ?_
     rintro vτ130 τ130 gsτ130 hl131 ⟨v132, v133, rfl, rfl, hs134, hs135⟩
     exact st_addNil (hk _ _ hl131 ⟨fun _ => ⟨v132, v133, rfl, hs134, hs135⟩, fun hn => absurd hC hn⟩)
    ·refine st_pass rfl rfl rfl e17 (beq_off hG) rfl ?_
     exact st_addNil (hk _ _ (Sto.Le.refl _) ⟨fun h => absurd h hG, fun _ => rfl⟩)
   ·intro ρ' τ pool rs hl hd hout hk
    obtain ⟨_, e17, rfl⟩ := hd 17 rfl
    obtain ⟨w21, e21, t21⟩ := hd 21 rfl
    by_cases hG : ((r81 && r94) && r115) = true
    ·have hC := hG
     obtain ⟨rfl⟩ := t21.1 hC
     refine o_build (ps := [(0, [.int .i64 3]), (1, [.int .u32 a0])]) (cs := [.int .i64 3, .int .u32 a0, .int .i64 0, .int .i64 0, .int .i64 0, .int .i64 0, .int .i64 0, .int .i64 0, .int .i64 0, .int .i64 0, .int .i64 0, .slice none 0 0, .slice none 0 0, .string (bstr []), .string (bstr [])]) rfl (wants_of rfl e17 hG) rfl z_struct38 ⟨rfl, ⟨_, rfl, rfl⟩, ⟨rfl, ⟨_, e21, rfl⟩, trivial⟩⟩ rfl ?_
     exact st_addNil (hk _ _ (Sto.Le.refl _) ⟨fun _ => rfl, fun hn => absurd hC hn⟩)
    ·refine st_pass rfl rfl rfl e17 (beq_off hG) rfl ?_
     exact st_addNil (hk _ _ (Sto.Le.refl _) ⟨fun h => absurd h hG, fun _ => rfl⟩)
   ·intro ρ' τ pool rs hl hd hout hk
    obtain ⟨_, e17, rfl⟩ := hd 17 rfl
    obtain ⟨w20, e20, t20⟩ := hd 20 rfl
    obtain ⟨w22, e22, t22⟩ := hd 22 rfl
    by_cases hG : ((r81 && r94) && r115) = true
    ·have hC := hG
     replace hr137 := hr137 hC
     obtain ⟨v132, v133, rfl, hs134, hs135⟩ := t20.1 hC
     obtain ⟨rfl⟩ := t22.1 hC
     refine st_call (foot := []) rfl (wants_of rfl e17 hG) rfl rfl (evs_cons e20 (evs_cons e22 rfl)) rfl (callV_fn z_en11 (ref23_Same_ok hr137 τ hs134 hs135 Sl.nil Sl.nil)) ?_
     rintro vτ138 τ138 gsτ138 hl139 ⟨rfl, rfl⟩
     exact st_addNil (hk _ _ hl139 ⟨fun _ => rfl, fun hn => absurd hC hn⟩)
    ·refine st_pass rfl rfl rfl e17 (beq_off hG) rfl ?_
     exact st_addNil (hk _ _ (Sto.Le.refl _) ⟨fun h => absurd h hG, fun _ => rfl⟩)
   intro ρ' τ140 vals hl140 hv hout
   refine st_ord [0, 0, 0] _ rfl ?_
   refine st_env (ρ' := [(72, .bool (((r81 && r94) && r115) && r136)), (8, .bool false)]) ⟨(lv1 hv 24 rfl rfl), (hout 8 rfl).trans rfl, trivial⟩ ?_
   refine Z 2 rfl ?_
   refine st_ord [] _ rfl ?_
   obtain rfl := Eq.symm h
   exact st_ret (gs' := []) Tryd.func3 rfl (List.Sublist.refl _) ((((((((hl9.trans hl17).trans hl27).trans hl35).trans hl62).trans hl63).trans hl67).trans hl75).trans hl140) ⟨rfl, rfl⟩
  refine Z 4 rfl ?_
  obtain ⟨e141, hL141, hA141⟩ := h
  refine st_ord [3, 2, 1, 0] _ rfl ?_
  refine st_loop hL141 (fun (s141 : Int × (List (Int × Int))) ρ τ141 gs => τ61.Le τ141 ∧ ∃ (v142 : Value) (g143 : Grp), ESub ρ [(0, .int .u32 a0), (1, .int .i64 a1), (3, .int .i64 a3), (6, .pointer (some ⟨b5, 0, none⟩)), (8, .bool false), (9, .pointer (some ⟨b23, 0, none⟩)), (10, .pointer (some ⟨b40, 0, none⟩)), (11, .int .i64 s141.1)] ∧ gs = [[(b5, .cells #[.int .i64 r6.1, .int .i64 (r6.2.1.getD 0 0), .int .i64 (r6.2.1.getD 1 0), .int .i64 (r6.2.1.getD 2 0), .int .i64 (r6.2.1.getD 3 0), .int .i64 (r6.2.1.getD 4 0), .int .i64 (r6.2.1.getD 5 0), v10, v11, .string r6.2.2.2.2.1, .string r6.2.2.2.2.2] 27 (0, 0))], [(b23, .cells #[.int .i64 r14.1, .int .u32 r14.2.1, .int .i64 r14.2.2.1, .int .i64 r14.2.2.2.1, .int .i64 r14.2.2.2.2.1, .int .i64 (r14.2.2.2.2.2.1.getD 0 0), .int .i64 (r14.2.2.2.2.2.1.getD 1 0), .int .i64 (r14.2.2.2.2.2.1.getD 2 0), .int .i64 (r14.2.2.2.2.2.1.getD 3 0), .int .i64 (r14.2.2.2.2.2.1.getD 4 0), .int .i64 (r14.2.2.2.2.2.1.getD 5 0), v142, v20, .string r14.2.2.2.2.2.2.2.2.1, .string r14.2.2.2.2.2.2.2.2.2] 31 (0, 0))], [(b40, .cells #[.int .i64 1, .int .u32 a0, .int .i64 a1, .int .i64 0, .int .i64 r32.1, .int .i64 (r32.2.1.getD 0 0), .int .i64 (r32.2.1.getD 1 0), .int .i64 (r32.2.1.getD 2 0), .int .i64 (r32.2.1.getD 3 0), .int .i64 (r32.2.1.getD 4 0), .int .i64 (r32.2.1.getD 5 0), v36, v37, .string r32.2.2.2.2.1, .string r32.2.2.2.2.2] 38 (0, 0))], g143] ∧ Ow (kP (kI .i64) (kI .i64)) 42 τ141 v142 s141.2 g143) ⟨Sto.Le.refl _, _, _, rfl, rfl, (ho21.up ((hl27.trans hl35).trans hl62))⟩ ?_
  rintro s141 o141 h he141 ρ141 τ141 gs141 ⟨hl141, v142, g143, hρ, rfl, ho144⟩ hn141
  refine st_es hρ ?_
  refine ZZ 7 [1] rfl rfl ?_
  refine o_lenO rfl rfl rfl z_slT24 rfl ho144 ?_
  refine Z 2 rfl ?_
  refine st_if rfl h (fun h => ?_) (fun h => ?_)
  ·refine ZZ 8 [1] rfl rfl ?_
   obtain ⟨q145, hf146, h⟩ := h
   refine o_indexOw rfl rfl rfl z_slT24 rfl rfl ho144 rfl hf146 (fun b147 hb148 => ?_)
   refine o_fieldAddr rfl rfl rfl z_field42_0 rfl ?_
   refine o_storeOw (dk := (kP (kI .i64) (kI .i64))) (off := 0) (j := 3) (q' := (9, q145.2)) (us := [.int .i64 9]) rfl rfl rfl z_size3 rfl rfl rfl (ones_cons rfl ones_nil) ho144 hb148 hf146 rfl (fun vs hv => by obtain ⟨_, _, rfl, rfl, rfl⟩ := hv; exact ⟨[.int .i64 9], _, rfl, rfl, rfl⟩) (Nat.le_of_ble_eq_true rfl) (fun g149 ho150 => ?_)
   refine st_gs [[(b5, .cells #[.int .i64 r6.1, .int .i64 (r6.2.1.getD 0 0), .int .i64 (r6.2.1.getD 1 0), .int .i64 (r6.2.1.getD 2 0), .int .i64 (r6.2.1.getD 3 0), .int .i64 (r6.2.1.getD 4 0), .int .i64 (r6.2.1.getD 5 0), v10, v11, .string r6.2.2.2.2.1, .string r6.2.2.2.2.2] 27 (0, 0))], [(b23, .cells #[.int .i64 r14.1, .int .u32 r14.2.1, .int .i64 r14.2.2.1, .int .i64 r14.2.2.2.1, .int .i64 r14.2.2.2.2.1, .int .i64 (r14.2.2.2.2.2.1.getD 0 0), .int .i64 (r14.2.2.2.2.2.1.getD 1 0), .int .i64 (r14.2.2.2.2.2.1.getD 2 0), .int .i64 (r14.2.2.2.2.2.1.getD 3 0), .int .i64 (r14.2.2.2.2.2.1.getD 4 0), .int .i64 (r14.2.2.2.2.2.1.getD 5 0), v142, v20, .string r14.2.2.2.2.2.2.2.2.1, .string r14.2.2.2.2.2.2.2.2.2] 31 (0, 0))], [(b40, .cells #[.int .i64 1, .int .u32 a0, .int .i64 a1, .int .i64 0, .int .i64 r32.1, .int .i64 (r32.2.1.getD 0 0), .int .i64 (r32.2.1.getD 1 0), .int .i64 (r32.2.1.getD 2 0), .int .i64 (r32.2.1.getD 3 0), .int .i64 (r32.2.1.getD 4 0), .int .i64 (r32.2.1.getD 5 0), v36, v37, .string r32.2.2.2.2.1, .string r32.2.2.2.2.2] 38 (0, 0))], g149] rfl ?_
   refine Z 7 rfl ?_
   exact hn141 _ _ _ _ h ⟨hl141, _, _, rfl, rfl, ho150⟩
  ·refine st_exit rfl ?_
   obtain rfl := he141 _ h
   replace h := hA141
   refine st_ord [0, 1] _ rfl ?_
   exact hk63 _ _ _ ⟨(), h, hl141, rfl, rfl⟩
end Go.Rel
