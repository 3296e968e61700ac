import Derived.Test.YtonmgcebhhdplaaGreatURel
import Derived.Test.YtonmgcebhhdplaaGreatUFacts
import Derived.Test.YtonmgcebhhdplaaGreatUWalk0
/-! The walks. -/
set_option linter.unusedVariables false
set_option linter.unusedSimpArgs false
set_option maxRecDepth 4000
set_option maxHeartbeats 4000000
namespace Go.Rel
open Go Go.Eng Go.Proofs
theorem pen_Pen_Raw_ok {a0 : (List Int × Int × Bool)} {a1 : List Int} {ba0 : Nat} {v1 : Value} {g2 : Grp} {v4 : Value} {r : Int × ((List Int × Int × Bool))} (h : pen_Pen_Raw a0 a1 r) (σ : Sto) (ho3 : Ow (kI .u8) 5 σ v1 a0.1 g2) (hs5 : Sl (kI .u8) σ v4 a1) :
    Does Tryz.prog 54 [.pointer (some ⟨ba0, 0, none⟩), v4] σ [[(ba0, .cells [v1, .int .i64 a0.2.1, .bool a0.2.2].toArray 129 (0, 0))], g2] (fun v τ gs => ∃ (v13 : Value) (g14 : Grp), gs = [[(ba0, .cells [v13, .int .i64 r.2.2.1, .bool r.2.2.2].toArray 129 (0, 0))], g14] ∧ .int .i64 r.1 = v ∧ Ow (kI .u8) 5 τ v13 r.2.1 g14) := by
 refine call_of Tryz.func54 Tryz.ntmps54 rfl rfl (fun cs fs => ?_)
 refine Z 14 rfl ?_
 let cc6 : Prop := a0.2.2 = false
 refine st_draw 23 (dl [.v (.pointer (some ⟨ba0, 0, none⟩)), .v (.pointer (some ⟨ba0, 0, none⟩)), .v (.pointer (some ⟨ba0, 0, none⟩)), .v (.pointer (some ⟨ba0, 2, none⟩)), .v (.bool a0.2.2), .v (.bool a0.2.2), .g cc6 (v4), .g cc6 (.int .i64 (a1.length : Int)), .g cc6 (.pointer (some ⟨ba0, 0, none⟩)), .g cc6 (.pointer (some ⟨ba0, 0, none⟩)), .g cc6 (.pointer (some ⟨ba0, 0, none⟩)), .g cc6 (.pointer (some ⟨ba0, 1, none⟩)), .g cc6 (.int .i64 a0.2.1), .g cc6 (.pointer (some ⟨ba0, 0, none⟩)), .g cc6 (.pointer (some ⟨ba0, 0, none⟩)), .g cc6 (.pointer (some ⟨ba0, 0, none⟩)), .g cc6 (.pointer (some ⟨ba0, 0, none⟩)), .g cc6 (v1), .g cc6 (.int .i64 (a0.1.length : Int)), .g cc6 (.int .i64 (IntKind.i64.wrap (a0.2.1 - (a0.1.length : Int)))), .g cc6 (.bool (decide ((IntKind.i64.wrap (a0.2.1 - (a0.1.length : Int))) < (a1.length : Int)))), .v (.bool (a0.2.2 || (decide ((IntKind.i64.wrap (a0.2.1 - (a0.1.length : Int))) < (a1.length : Int))))), .v (.bool (a0.2.2 || (decide ((IntKind.i64.wrap (a0.2.1 - (a0.1.length : Int))) < (a1.length : Int)))))]) (fun _ _ => []) z_mix rfl (dl_mono (by exact trivial)) (allB_cons (allB_cons (allB_cons (allB_cons (allB_cons (allB_cons (allB_cons (allB_cons (allB_cons (allB_cons (allB_cons (allB_cons (allB_cons (allB_cons (allB_cons (allB_cons (allB_cons (allB_cons (allB_cons (allB_cons (allB_cons (allB_cons (allB_cons allB_nil (p1 dA)) (p1 dA)) (p1 dA)) (p1 dA)) ?_) (p1 dA)) (p1 (dG []))) ?_) (p1 (dG []))) (p1 (dG [8]))) (p1 (dG [9]))) (p1 (dG [10]))) ?_) (p1 (dG []))) (p1 (dG [13]))) (p1 (dG [14]))) (p1 (dG [15]))) ?_) ?_) (p1 (dG [12, 18]))) (p1 (dG [7, 19]))) (p1 dO)) (p1 dA)) ?_
 ·intro ρ' τ pool rs hl hd hout hk
  obtain ⟨_, e3, rfl⟩ := hd 3 rfl
  refine o_load (j := 0) (v := .bool a0.2.2) rfl rfl rfl z_sc4 e3 rfl rfl ?_
  exact st_addNil (hk _ _ (Sto.Le.refl _) rfl)
 ·intro ρ' τ pool rs hl hd hout hk
  obtain ⟨_, e5, rfl⟩ := hd 5 rfl
  obtain ⟨w6, e6, t6⟩ := hd 6 rfl
  by_cases hG : a0.2.2 = false
  ·have hC := hG
   obtain ⟨rfl⟩ := t6.1 hC
   refine o_lenI rfl (wants_of rfl e5 hG) rfl z_slT42 e6 (hs5.up hl) ?_
   exact st_addNil (hk _ _ (Sto.Le.refl _) ⟨fun _ => rfl, fun hn => absurd hC hn⟩)
  ·refine st_pass rfl rfl rfl e5 (beq_off hG) rfl ?_
   exact st_addNil (hk _ _ (Sto.Le.refl _) ⟨fun h => absurd h hG, fun _ => rfl⟩)
 ·intro ρ' τ pool rs hl hd hout hk
  obtain ⟨_, e5, rfl⟩ := hd 5 rfl
  obtain ⟨w11, e11, t11⟩ := hd 11 rfl
  by_cases hG : a0.2.2 = false
  ·have hC := hG
   obtain ⟨rfl⟩ := t11.1 hC
   refine o_load (j := 0) (v := .int .i64 a0.2.1) rfl (wants_of rfl e5 hG) rfl z_sc3 e11 rfl rfl ?_
   exact st_addNil (hk _ _ (Sto.Le.refl _) ⟨fun _ => rfl, fun hn => absurd hC hn⟩)
  ·refine st_pass rfl rfl rfl e5 (beq_off hG) rfl ?_
   exact st_addNil (hk _ _ (Sto.Le.refl _) ⟨fun h => absurd h hG, fun _ => rfl⟩)
 ·intro ρ' τ pool rs hl hd hout hk
  obtain ⟨_, e5, rfl⟩ := hd 5 rfl
  obtain ⟨w16, e16, t16⟩ := hd 16 rfl
  by_cases hG : a0.2.2 = false
  ·have hC := hG
   obtain ⟨rfl⟩ := t16.1 hC
   refine o_load (j := 0) (v := v1) rfl (wants_of rfl e5 hG) rfl z_sc42 e16 rfl rfl ?_
   exact st_addNil (hk _ _ (Sto.Le.refl _) ⟨fun _ => rfl, fun hn => absurd hC hn⟩)
  ·refine st_pass rfl rfl rfl e5 (beq_off hG) rfl ?_
   exact st_addNil (hk _ _ (Sto.Le.refl _) ⟨fun h => absurd h hG, fun _ => rfl⟩)
 ·intro ρ' τ pool rs hl hd hout hk
  obtain ⟨_, e5, rfl⟩ := hd 5 rfl
  obtain ⟨w17, e17, t17⟩ := hd 17 rfl
  by_cases hG : a0.2.2 = false
  ·have hC := hG
   obtain ⟨rfl⟩ := t17.1 hC
   refine o_lenO rfl (wants_of rfl e5 hG) rfl z_slT42 e17 (ho3.up hl) ?_
   exact st_addNil (hk _ _ (Sto.Le.refl _) ⟨fun _ => rfl, fun hn => absurd hC hn⟩)
  ·refine st_pass rfl rfl rfl e5 (beq_off hG) rfl ?_
   exact st_addNil (hk _ _ (Sto.Le.refl _) ⟨fun h => absurd h hG, fun _ => rfl⟩)
 intro ρ' τ7 vals hl7 hv hout
 refine st_ord [0, 0] _ rfl ?_
 refine st_env (ρ' := [(8, .bool (a0.2.2 || (decide ((IntKind.i64.wrap (a0.2.1 - (a0.1.length : Int))) < (a1.length : Int))))), (0, .pointer (some ⟨ba0, 0, none⟩)), (1, v4), (4, .int .i64 0)]) ⟨(lv1 hv 22 rfl rfl), (hout 0 rfl).trans rfl, (hout 1 rfl).trans rfl, (hout 4 rfl).trans rfl, trivial⟩ ?_
 refine st_end ?_
 refine st_if rfl h (fun h => ?_) (fun h => ?_)
 ·refine ZZ 12 [0] rfl rfl ?_
  obtain rfl := Eq.symm h
  exact st_ret (gs' := [[(ba0, .cells #[v1, .int .i64 a0.2.1, .bool true] 129 (0, 0))], g2]) Tryz.func54 rfl (List.Sublist.refl _) hl7 ⟨_, _, rfl, rfl, (ho3.up hl7)⟩
 ·refine ZZ 11 [0] rfl rfl ?_
  obtain ⟨hf11, hf12, h⟩ := h
  refine st_ord [1, 0] _ rfl ?_
  refine o_append (dk := (kI .u8)) (xs := a0.1) (ys := a1) rfl rfl rfl rfl z_slT42 rfl (ho3.up hl7) rfl (Sl.src (hs5.up hl7)) hf11 hf12 (fun v8 g9 ho10 => ?_)
  refine Z 3 rfl ?_
  refine o_store (j := 1) (vs := [v8]) (cs' := [v8, .int .i64 a0.2.1, .bool a0.2.2]) rfl rfl rfl z_size42 rfl rfl (oneL_ow ho10) (ones_cons ho10.one' ones_nil) rfl rfl rfl ?_
  refine st_gs [g9, [(ba0, .cells #[v8, .int .i64 a0.2.1, .bool a0.2.2] 129 (0, 0))]] rfl ?_
  refine Z 5 rfl ?_
  refine st_ord [1, 0] _ rfl ?_
  obtain rfl := Eq.symm h
  exact st_ret (gs' := [[(ba0, .cells #[v8, .int .i64 a0.2.1, .bool a0.2.2] 129 (0, 0))], g9]) Tryz.func54 rfl (List.Sublist.refl _) hl7 ⟨_, _, rfl, rfl, ho10⟩
theorem pen_Pen_word_ok {a0 : (List Int × Int × Bool)} {a1 : Int} {a2 : Int} {ba0 : Nat} {v1 : Value} {g2 : Grp} {r : Int × ((List Int × Int × Bool))} (h : pen_Pen_word a0 a1 a2 r) (σ : Sto) (ho3 : Ow (kI .u8) 5 σ v1 a0.1 g2) :
    Does Tryz.prog 70 [.pointer (some ⟨ba0, 0, none⟩), .int .u32 a1, .int .i64 a2] σ [[(ba0, .cells [v1, .int .i64 a0.2.1, .bool a0.2.2].toArray 129 (0, 0))], g2] (fun v τ gs => ∃ (v20 : Value) (g21 : Grp), gs = [[(ba0, .cells [v20, .int .i64 r.2.2.1, .bool r.2.2.2].toArray 129 (0, 0))], g21] ∧ .int .i64 r.1 = v ∧ Ow (kI .u8) 5 τ v20 r.2.1 g21) := by
 refine call_of Tryz.func70 Tryz.ntmps70 rfl rfl (fun cs fs => ?_)
 refine Z 17 rfl ?_
 refine o_buildA (ps := [(0, [.int .u8 (IntKind.u8.wrap a1)]), (1, [.int .u8 (IntKind.u8.wrap (ishr .u32 a1 8))]), (2, [.int .u8 (IntKind.u8.wrap (ishr .u32 a1 16))]), (3, [.int .u8 (IntKind.u8.wrap (ishr .u32 a1 24))])]) (cs := [.int .u8 (IntKind.u8.wrap a1), .int .u8 (IntKind.u8.wrap (ishr .u32 a1 8)), .int .u8 (IntKind.u8.wrap (ishr .u32 a1 16)), .int .u8 (IntKind.u8.wrap (ishr .u32 a1 24))]) rfl rfl rfl z_arrz151 ⟨rfl, ⟨_, rfl, rfl⟩, ⟨rfl, ⟨_, rfl, rfl⟩, ⟨rfl, ⟨_, rfl, rfl⟩, ⟨rfl, ⟨_, rfl, rfl⟩, trivial⟩⟩⟩⟩ (fill_all [.int .u8 (IntKind.u8.wrap a1), .int .u8 (IntKind.u8.wrap (ishr .u32 a1 8)), .int .u8 (IntKind.u8.wrap (ishr .u32 a1 16)), .int .u8 (IntKind.u8.wrap (ishr .u32 a1 24))] _ rfl) ?_
 refine o_alloc rfl rfl rfl z_zero151 (fun b4 => ?_)
 refine ZZ 7 [0] rfl rfl ?_
 obtain ⟨hf8, hf9, hf10, h⟩ := h
 refine st_freeze (fun τ5 hl6 hg7 => ?_)
 refine o_sliceA (dk := (kI .u8)) (L := 0) (H := a2) (xs := [(IntKind.u8.wrap a1), (IntKind.u8.wrap (ishr .u32 a1 8)), (IntKind.u8.wrap (ishr .u32 a1 16)), (IntKind.u8.wrap (ishr .u32 a1 24))]) rfl rfl rfl z_arr151 rfl (hg7 _ List.mem_cons_self) (manyI [(IntKind.u8.wrap a1), (IntKind.u8.wrap (ishr .u32 a1 8)), (IntKind.u8.wrap (ishr .u32 a1 16)), (IntKind.u8.wrap (ishr .u32 a1 24))]) rfl rfl rfl ⟨_, rfl⟩ (by decide) hf8 hf9 ⟨_, _, rfl, (Int.le_refl _), hf10⟩ (by decide) (fun v11 hs12 => ?_)
 obtain ⟨r13, hr14, h⟩ := h
 refine st_call (foot := [[(ba0, .cells #[v1, .int .i64 a0.2.1, .bool a0.2.2] 129 (0, 0))], g2]) rfl rfl rfl rfl rfl rfl (callV_fn z_en54 (pen_Pen_Raw_ok hr14 τ5 (ho3.up hl6) hs12)) ?_
 rintro vτ15 τ15 gsτ15 hl16 ⟨v17, g18, rfl, rfl, ho19⟩
 refine Z 2 rfl ?_
 obtain rfl := Eq.symm h
 exact st_ret (gs' := [[(ba0, .cells #[v17, .int .i64 r13.2.2.1, .bool r13.2.2.2] 129 (0, 0))], g18]) Tryz.func70 rfl (List.Sublist.refl _) (hl6.trans hl16) ⟨_, _, rfl, rfl, ho19⟩
theorem pen_Pen_U8_ok {a0 : (List Int × Int × Bool)} {a1 : Int} {ba0 : Nat} {v1 : Value} {g2 : Grp} {r : Int × ((List Int × Int × Bool))} (h : pen_Pen_U8 a0 a1 r) (σ : Sto) (ho3 : Ow (kI .u8) 5 σ v1 a0.1 g2) :
    Does Tryz.prog 51 [.pointer (some ⟨ba0, 0, none⟩), .int .u8 a1] σ [[(ba0, .cells [v1, .int .i64 a0.2.1, .bool a0.2.2].toArray 129 (0, 0))], g2] (fun v τ gs => ∃ (v11 : Value) (g12 : Grp), gs = [[(ba0, .cells [v11, .int .i64 r.2.2.1, .bool r.2.2.2].toArray 129 (0, 0))], g12] ∧ .int .i64 r.1 = v ∧ Ow (kI .u8) 5 τ v11 r.2.1 g12) := by
 refine call_of Tryz.func51 Tryz.ntmps51 rfl rfl (fun cs fs => ?_)
 refine Z 9 rfl ?_
 obtain ⟨r4, hr5, h⟩ := h
 refine st_call (foot := [[(ba0, .cells #[v1, .int .i64 a0.2.1, .bool a0.2.2] 129 (0, 0))], g2]) rfl rfl rfl rfl rfl rfl (callV_fn z_en70 (pen_Pen_word_ok hr5 σ ho3)) ?_
 rintro vτ6 τ6 gsτ6 hl7 ⟨v8, g9, rfl, rfl, ho10⟩
 refine Z 2 rfl ?_
 obtain rfl := Eq.symm h
 exact st_ret (gs' := [[(ba0, .cells #[v8, .int .i64 r4.2.2.1, .bool r4.2.2.2] 129 (0, 0))], g9]) Tryz.func51 rfl (List.Sublist.refl _) hl7 ⟨_, _, rfl, rfl, ho10⟩
theorem pen_Pen_U32_ok {a0 : (List Int × Int × Bool)} {a1 : Int} {ba0 : Nat} {v1 : Value} {g2 : Grp} {r : Int × ((List Int × Int × Bool))} (h : pen_Pen_U32 a0 a1 r) (σ : Sto) (ho3 : Ow (kI .u8) 5 σ v1 a0.1 g2) :
    Does Tryz.prog 52 [.pointer (some ⟨ba0, 0, none⟩), .int .u32 a1] σ [[(ba0, .cells [v1, .int .i64 a0.2.1, .bool a0.2.2].toArray 129 (0, 0))], g2] (fun v τ gs => ∃ (v11 : Value) (g12 : Grp), gs = [[(ba0, .cells [v11, .int .i64 r.2.2.1, .bool r.2.2.2].toArray 129 (0, 0))], g12] ∧ .int .i64 r.1 = v ∧ Ow (kI .u8) 5 τ v11 r.2.1 g12) := by
 refine call_of Tryz.func52 Tryz.ntmps52 rfl rfl (fun cs fs => ?_)
 refine Z 8 rfl ?_
 obtain ⟨r4, hr5, h⟩ := h
 refine st_call (foot := [[(ba0, .cells #[v1, .int .i64 a0.2.1, .bool a0.2.2] 129 (0, 0))], g2]) rfl rfl rfl rfl rfl rfl (callV_fn z_en70 (pen_Pen_word_ok hr5 σ ho3)) ?_
 rintro vτ6 τ6 gsτ6 hl7 ⟨v8, g9, rfl, rfl, ho10⟩
 refine Z 2 rfl ?_
 obtain rfl := Eq.symm h
 exact st_ret (gs' := [[(ba0, .cells #[v8, .int .i64 r4.2.2.1, .bool r4.2.2.2] 129 (0, 0))], g9]) Tryz.func52 rfl (List.Sublist.refl _) hl7 ⟨_, _, rfl, rfl, ho10⟩
theorem body_check_ok {a0 : Int × List Int × List (Int × Int) × List Int × ByteArray × ByteArray} {a1 : Int} {v1 : Value} {v2 : Value} {r : Int} (h : body_check a0 a1 r) (σ : Sto) (hs3 : Sl (kP (kI .i64) (kI .i64)) σ v1 a0.2.2.1) (hs4 : Sl (kI .i64) σ v2 a0.2.2.2.1) :
    Does Tryz.prog 71 [.agg [.int .i64 a0.1, .int .i64 (a0.2.1.getD 0 0), .int .i64 (a0.2.1.getD 1 0), .int .i64 (a0.2.1.getD 2 0), .int .i64 (a0.2.1.getD 3 0), .int .i64 (a0.2.1.getD 4 0), .int .i64 (a0.2.1.getD 5 0), v1, v2, .string a0.2.2.2.2.1, .string a0.2.2.2.2.2].toArray, .int .i64 a1] σ [] (fun v τ gs => gs = [] ∧ .int .i64 r = v) := by
 refine call_of Tryz.func71 Tryz.ntmps71 rfl rfl (fun cs fs => ?_)
 refine Z 2 rfl ?_
 refine o_box (cs := [.int .i64 a0.1, .int .i64 (a0.2.1.getD 0 0), .int .i64 (a0.2.1.getD 1 0), .int .i64 (a0.2.1.getD 2 0), .int .i64 (a0.2.1.getD 3 0), .int .i64 (a0.2.1.getD 4 0), .int .i64 (a0.2.1.getD 5 0), v1, v2, .string a0.2.2.2.2.1, .string a0.2.2.2.2.2]) rfl rfl rfl rfl rfl (fun b5 => ?_)
 refine Z 4 rfl ?_
 refine st_cut (fun ρ τ6 gs => ∃ (s6 : Bool), body_check_j1 a0 s6 r ∧ σ.Le τ6 ∧ ESub ρ [(2, .pointer (some ⟨b5, 0, none⟩)), (4, .int .i64 0), (10, .bool s6)] ∧ gs = [[(b5, .cells #[.int .i64 a0.1, .int .i64 (a0.2.1.getD 0 0), .int .i64 (a0.2.1.getD 1 0), .int .i64 (a0.2.1.getD 2 0), .int .i64 (a0.2.1.getD 3 0), .int .i64 (a0.2.1.getD 4 0), .int .i64 (a0.2.1.getD 5 0), v1, v2, .string a0.2.2.2.2.1, .string a0.2.2.2.2.2] 30 (0, 0))]]) ?_ (fun hk6 => ?_)
 ·rintro ρ6 τ6 gs6 ⟨s6, h, hl6, hρ, rfl⟩
  refine st_es hρ ?_
  refine st_if rfl h (fun h => ?_) (fun h => ?_)
  ·refine Z 4 rfl ?_
   refine st_ord [] _ rfl ?_
   obtain rfl := Eq.symm h
   exact st_ret (gs' := []) Tryz.func71 rfl (List.Sublist.refl _) hl6 ⟨rfl, rfl⟩
  ·refine ZZ 4 [0] rfl rfl ?_
   obtain ⟨r7, hr8, h⟩ := h
   refine st_call (foot := []) rfl rfl rfl rfl rfl rfl (callV_fn z_en21 (msg_Check_ok hr8 τ6 (hs3.up hl6) (hs4.up hl6))) ?_
   rintro vτ9 τ9 gsτ9 hl10 ⟨rfl, rfl⟩
   refine Z 2 rfl ?_
   refine st_ord [] _ rfl ?_
   obtain rfl := Eq.symm h
   exact st_ret (gs' := []) Tryz.func71 rfl (List.Sublist.refl _) (hl6.trans hl10) ⟨rfl, rfl⟩
 refine Z 3 rfl ?_
 refine o_mif rfl rfl rfl rfl h (fun h => ?_) (fun h => ?_)
 ·refine Z 4 rfl ?_
  exact hk6 _ _ _ ⟨(!(decide (a1 = 2))), h, (Sto.Le.refl _), rfl, rfl⟩
 ·refine Z 4 rfl ?_
  exact hk6 _ _ _ ⟨false, h, (Sto.Le.refl _), rfl, rfl⟩
theorem field_All_1_ok {c0 : Int} {c1 : Int} {bc0 : Nat} {bc1 : Nat} {σ0 : Sto} (hc0_0 : Cel σ0 ⟨bc0, 0, none⟩ (.int .i64 c0)) (hc1_0 : Cel σ0 ⟨bc1, 0, none⟩ (.int .i64 c1)) :
    IterV Tryz.prog (fun _ x vx => vx = [.agg [.string x.1, .int .i64 x.2.1, .int .i64 x.2.2.1, .int .i64 x.2.2.2.1, .int .i64 x.2.2.2.2.1, .int .i64 x.2.2.2.2.2.1, .int .i64 x.2.2.2.2.2.2].toArray]) (.func (.func 102) #[] [.pointer (some ⟨bc0, 0, none⟩), .pointer (some ⟨bc1, 0, none⟩)].toArray) σ0 [] (fun (_ : Unit) _ f => f = []) (field_All_1 c0 c1) := by
 intro S Y I y hyc hyo hIm hY s s' o hR σ g hle hIg
 obtain ⟨r, hr0⟩ : ∃ r, r = (s', o) := ⟨_, rfl⟩
 rw [← hr0] at hR
 have h := hR
 refine callV_of (caps := [.pointer (some ⟨bc0, 0, none⟩), .pointer (some ⟨bc1, 0, none⟩)]) z_en102 ?_
 refine call_of Tryz.func102 Tryz.ntmps102 rfl rfl (fun cs fs => ?_)
 refine st_ord [0] _ rfl ?_
 refine Z 5 rfl ?_
 refine o_loadI (v := .int .i64 c0) rfl rfl rfl z_sc3 rfl (Cel.up hc0_0 hle) ?_
 obtain ⟨r1, hr2, h⟩ := h
 refine st_call (foot := []) rfl rfl rfl rfl rfl rfl (callV_fn z_en40 (field_Of_ok hr2 σ)) ?_
 rintro vτ3 τ3 gsτ3 hl4 ⟨v5, rfl, rfl, hs6⟩
 refine o_lenI rfl rfl rfl z_slT86 rfl hs6 ?_
 refine Z 2 rfl ?_
 obtain ⟨e7, hL7, hA7⟩ := h
 refine st_loop hL7 (fun (s7 : S × Int) ρ τ7 gs => τ3.Le τ7 ∧ ∃ (g8 : Grp), ESub ρ [(0, y), (2, .pointer (some ⟨bc1, 0, none⟩)), (7, v5), (8, .int .i64 (r1.length : Int)), (9, .int .i64 s7.2)] ∧ gs = [g8] ∧ I s7.1 τ7 g8) ⟨Sto.Le.refl _, g, rfl, rfl, (hIm _ _ _ _ hl4 hIg)⟩ ?_
 rintro s7 o7 h he7 ρ7 τ7 gs7 ⟨hl7, g8, hρ, rfl, hI9⟩ hn7
 refine st_es hρ ?_
 refine Z 5 rfl ?_
 refine st_if rfl h (fun h => ?_) (fun h => ?_)
 ·refine Z 2 rfl ?_
  refine st_cut (fun ρ τ10 gs => ∃ (s10 : S) (g11 : Grp), field_All_1_j2 S Y s7 s10 o7 ∧ τ7.Le τ10 ∧ ESub ρ [(0, y), (2, .pointer (some ⟨bc1, 0, none⟩)), (7, v5), (8, .int .i64 (r1.length : Int)), (9, .int .i64 s7.2)] ∧ gs = [g11] ∧ I s10 τ10 g11) ?_ (fun hk10 => ?_)
  ·rintro ρ10 τ10 gs10 ⟨s10, g11, h, hl10, hρ, rfl, hI12⟩
   refine st_es hρ ?_
   refine Z 4 rfl ?_
   exact hn7 _ _ _ _ h ⟨(hl7.trans hl10), g11, rfl, rfl, hI12⟩
  refine Z 3 rfl ?_
  obtain ⟨q13, hf14, h⟩ := h
  refine o_index rfl rfl rfl z_slT86 rfl rfl (hs6.up hl7) rfl hf14 (fun b15 of16 vs hc17 hrep => ?_)
  obtain ⟨_, _, rfl, rfl, ⟨_, _, rfl, rfl, ⟨_, _, rfl, rfl, ⟨_, _, rfl, rfl, ⟨_, _, rfl, rfl, ⟨_, _, rfl, rfl, rfl⟩⟩⟩⟩⟩⟩ := hrep
  refine o_loadIN (vs := [.string q13.1, .int .i64 q13.2.1, .int .i64 q13.2.2.1, .int .i64 q13.2.2.2.1, .int .i64 q13.2.2.2.2.1, .int .i64 q13.2.2.2.2.2.1, .int .i64 q13.2.2.2.2.2.2]) rfl rfl rfl z_agg89 rfl rfl (celn_part 0 rfl hc17) ?_
  refine o_alloc rfl rfl rfl z_zero89 (fun b18 => ?_)
  refine ZZ 7 [0, 0] rfl rfl ?_
  refine o_loadI (v := .int .i64 c1) rfl rfl rfl z_sc3 rfl (Cel.up hc1_0 ((hle.trans hl4).trans hl7)) ?_
  refine Z 2 rfl ?_
  refine st_if rfl h (fun h => ?_) (fun h => ?_)
  ·refine st_exit rfl ?_
   refine st_ord [1] _ rfl ?_
   exact hk10 _ _ _ ⟨s7.1, g8, h, (Sto.Le.refl _), rfl, rfl, hI9⟩
  ·refine ZZ 5 [0] rfl rfl ?_
   obtain ⟨y19, u20, hy21, h⟩ := h
   refine st_ord [1, 0] _ rfl ?_
   refine st_call (foot := [g8]) rfl rfl rfl rfl rfl rfl (hY q13 s7.1 _ _ _ _ _ (hle.trans (hl4.trans hl7)) hy21 rfl hI9) ?_
   rintro vτ22 τ22 gsτ22 hl23 ⟨rfl, g24, rfl, hI25⟩
   refine Z 2 rfl ?_
   refine st_if rfl h (fun h => ?_) (fun h => ?_)
   ·refine Z 2 rfl ?_
    refine st_ord [0] _ rfl ?_
    obtain rfl := he7 _ h
    replace h := hA7
    obtain rfl := Eq.symm h
    cases hr0
    exact st_fin (gs' := [g24, []]) Tryz.func102 rfl (by simp) ((hl4.trans hl7).trans hl23) ⟨g24, _, rfl, hI25, rfl⟩
   ·refine Z 2 rfl ?_
    refine st_ord [0] _ rfl ?_
    exact hk10 _ _ _ ⟨u20, g24, h, hl23, rfl, rfl, hI25⟩
 ·refine Z 2 rfl ?_
  obtain rfl := he7 _ h
  replace h := hA7
  obtain rfl := Eq.symm h
  cases hr0
  exact st_fin (gs' := [g8, []]) Tryz.func102 rfl (by simp) (hl4.trans hl7) ⟨g8, _, rfl, hI9, rfl⟩
theorem field_All_ok {a0 : Int} {a1 : Int} {r : (((S : Type) → ((ByteArray × Int × Int × Int × Int × Int × Int) → S → Bool × S → Prop) → S → S × Unit → Prop))} (h : field_All a0 a1 r) (σ : Sto)  :
    Does Tryz.prog 89 [.int .i64 a0, .int .i64 a1] σ [] (fun v τ gs => ∃ (f9 : Nat) (q10 : Array Value), gs = [] ∧ .func (.func f9) #[] q10 = v ∧ IterV Tryz.prog (fun _ x vx => vx = [.agg [.string x.1, .int .i64 x.2.1, .int .i64 x.2.2.1, .int .i64 x.2.2.2.1, .int .i64 x.2.2.2.2.1, .int .i64 x.2.2.2.2.2.1, .int .i64 x.2.2.2.2.2.2].toArray]) (.func (.func f9) #[] q10) τ [] (fun (_ : Unit) _ f => f = []) r) := by
 refine call_of Tryz.func89 Tryz.ntmps89 rfl rfl (fun cs fs => ?_)
 refine Z 2 rfl ?_
 refine o_boxC rfl rfl rfl rfl rfl rfl (fun b1 => ?_)
 refine o_boxC rfl rfl rfl rfl rfl rfl (fun b2 => ?_)
 refine Z 4 rfl ?_
 refine st_ord [1, 0] _ rfl ?_
 refine st_freeze (fun τ3 hl4 hg5 => ?_)
 refine st_freeze (fun τ6 hl7 hg8 => ?_)
 refine Z 3 rfl ?_
 obtain rfl := Eq.symm h
 exact st_ret (gs' := []) Tryz.func89 rfl (List.Sublist.refl _) (hl4.trans hl7) ⟨_, _, rfl, rfl, (field_All_1_ok (Cel.up (cel_of hg5 rfl) hl7) (cel_of hg8 rfl))⟩
theorem varint_Put_ok {a0 : List Int} {v1 : Value} {r : List Int} (h : varint_Put a0 r) (σ : Sto) (hs2 : Sl (kI .u64) σ v1 a0) :
    Does Tryz.prog 73 [v1] σ [] (fun v τ gs => ∃ (v48 : Value), gs = [] ∧ v48 = v ∧ Sl (kI .u8) τ v48 r) := by
 refine call_of Tryz.func73 Tryz.ntmps73 rfl rfl (fun cs fs => ?_)
 refine Z 9 rfl ?_
 refine st_cut (fun ρ τ3 gs => ∃ (s3 : List Int) (v4 : Value) (g5 : Grp), varint_Put_j1 s3 r ∧ σ.Le τ3 ∧ ESub ρ [(2, .slice none 0 0), (3, v4)] ∧ gs = [g5] ∧ Ow (kI .u8) 5 τ3 v4 s3 g5) ?_ (fun hk3 => ?_)
 ·rintro ρ3 τ3 gs3 ⟨s3, v4, g5, h, hl3, hρ, rfl, ho6⟩
  refine st_es hρ ?_
  refine Z 5 rfl ?_
  refine st_freeze (fun τ7 hl8 hg9 => ?_)
  have hs10 := ho6.freeze hl8 hg9
  obtain rfl := Eq.symm h
  exact st_ret (gs' := []) Tryz.func73 rfl (List.Sublist.refl _) (hl3.trans hl8) ⟨_, rfl, rfl, hs10⟩
 refine Z 3 rfl ?_
 refine o_lenI rfl rfl rfl z_slT112 rfl hs2 ?_
 refine Z 2 rfl ?_
 obtain ⟨e13, hL13, hA13⟩ := h
 refine st_addNil ?_
 refine st_loop hL13 (fun (s13 : List Int × Int) ρ τ13 gs => σ.Le τ13 ∧ ∃ (v14 : Value) (g15 : Grp), ESub ρ [(2, .slice none 0 0), (3, v14), (6, v1), (7, .int .i64 (a0.length : Int)), (8, .int .i64 s13.2)] ∧ gs = [g15] ∧ Ow (kI .u8) 5 τ13 v14 s13.1 g15) ⟨Sto.Le.refl _, _, _, rfl, rfl, Ow.nil⟩ ?_
 rintro s13 o13 h he13 ρ13 τ13 gs13 ⟨hl13, v14, g15, hρ, rfl, ho16⟩ hn13
 refine st_es hρ ?_
 refine Z 5 rfl ?_
 refine st_if rfl h (fun h => ?_) (fun h => ?_)
 ·refine Z 5 rfl ?_
  obtain ⟨q17, hf18, h⟩ := h
  refine o_index rfl rfl rfl z_slT112 rfl rfl (hs2.up hl13) rfl hf18 (fun b19 of20 vs hc21 hrep => ?_)
  obtain rfl := hrep
  refine o_loadI (v := .int .u64 q17) rfl rfl rfl z_sc77 rfl (hc21 0 _ rfl) ?_
  refine Z 3 rfl ?_
  refine st_cut (fun ρ τ22 gs => ∃ (s22 : List Int × Int) (v23 : Value) (g24 : Grp), varint_Put_j3 s13 s22 o13 ∧ τ13.Le τ22 ∧ ESub ρ [(2, .slice none 0 0), (3, v23), (6, v1), (7, .int .i64 (a0.length : Int)), (8, .int .i64 s13.2), (5, .int .u64 s22.2)] ∧ gs = [g24] ∧ Ow (kI .u8) 5 τ22 v23 s22.1 g24) ?_ (fun hk22 => ?_)
  ·rintro ρ22 τ22 gs22 ⟨s22, v23, g24, h, hl22, hρ, rfl, ho25⟩
   refine st_es hρ ?_
   refine Z 4 rfl ?_
   refine o_litE (eI .u8) [(IntKind.u8.wrap s22.2)] rfl rfl rfl z_slT42 z_zero5 ⟨rfl, ⟨_, rfl, rfl⟩, trivial⟩ rfl rfl rfl rfl (fun v26 g27 ho28 => ?_)
   obtain ⟨hf32, hf33, h⟩ := h
   refine st_ord [1, 0] _ rfl ?_
   refine o_append (dk := (kI .u8)) (xs := s22.1) (ys := [(IntKind.u8.wrap s22.2)]) rfl rfl rfl rfl z_slT42 rfl ho25 rfl (Ow.src (j := 1) ho28 rfl) hf32 hf33 (fun v29 g30 ho31 => ?_)
   refine Z 7 rfl ?_
   refine st_ord [0] _ rfl ?_
   exact hn13 _ _ _ _ h ⟨(hl13.trans hl22), _, _, rfl, rfl, ho31⟩
  obtain ⟨e34, hL34, hA34⟩ := h
  refine st_loop hL34 (fun (s34 : List Int × Int) ρ τ34 gs => τ13.Le τ34 ∧ ∃ (v35 : Value) (g36 : Grp), ESub ρ [(2, .slice none 0 0), (3, v35), (6, v1), (7, .int .i64 (a0.length : Int)), (8, .int .i64 s13.2), (5, .int .u64 s34.2)] ∧ gs = [g36] ∧ Ow (kI .u8) 5 τ34 v35 s34.1 g36) ⟨Sto.Le.refl _, _, _, rfl, rfl, ho16⟩ ?_
  rintro s34 o34 h he34 ρ34 τ34 gs34 ⟨hl34, v35, g36, hρ, rfl, ho37⟩ hn34
  refine st_es hρ ?_
  refine Z 6 rfl ?_
  refine st_if rfl h (fun h => ?_) (fun h => ?_)
  ·refine Z 8 rfl ?_
   refine o_litE (eI .u8) [(ior .u8 (IntKind.u8.wrap s34.2) 128)] rfl rfl rfl z_slT42 z_zero5 ⟨rfl, ⟨_, rfl, rfl⟩, trivial⟩ rfl rfl rfl rfl (fun v38 g39 ho40 => ?_)
   obtain ⟨hf44, hf45, h⟩ := h
   refine st_ord [1, 0] _ rfl ?_
   refine o_append (dk := (kI .u8)) (xs := s34.1) (ys := [(ior .u8 (IntKind.u8.wrap s34.2) 128)]) rfl rfl rfl rfl z_slT42 rfl ho37 rfl (Ow.src (j := 1) ho40 rfl) hf44 hf45 (fun v41 g42 ho43 => ?_)
   refine Z 8 rfl ?_
   refine st_ord [0] _ rfl ?_
   exact hn34 _ _ _ _ h ⟨hl34, _, _, rfl, rfl, ho43⟩
  ·refine st_exit rfl ?_
   obtain rfl := he34 _ h
   replace h := hA34
   exact hk22 _ _ _ ⟨(s34.1, s34.2), _, _, h, hl34, rfl, rfl, ho37⟩
 ·refine st_exit rfl ?_
  obtain rfl := he13 _ h
  replace h := hA13
  exact hk3 _ _ _ ⟨s13.1, _, _, h, hl13, rfl, rfl, ho16⟩
theorem pen_Pen_Number_ok {a0 : (List Int × Int × Bool)} {a1 : List Int} {ba0 : Nat} {v1 : Value} {g2 : Grp} {v4 : Value} {r : Int × ((List Int × Int × Bool))} (h : pen_Pen_Number a0 a1 r) (σ : Sto) (ho3 : Ow (kI .u8) 5 σ v1 a0.1 g2) (hs5 : Sl (kI .u64) σ v4 a1) :
    Does Tryz.prog 103 [.pointer (some ⟨ba0, 0, none⟩), v4] σ [[(ba0, .cells [v1, .int .i64 a0.2.1, .bool a0.2.2].toArray 129 (0, 0))], g2] (fun v τ gs => ∃ (v19 : Value) (g20 : Grp), gs = [[(ba0, .cells [v19, .int .i64 r.2.2.1, .bool r.2.2.2].toArray 129 (0, 0))], g20] ∧ .int .i64 r.1 = v ∧ Ow (kI .u8) 5 τ v19 r.2.1 g20) := by
 refine call_of Tryz.func103 Tryz.ntmps103 rfl rfl (fun cs fs => ?_)
 refine Z 8 rfl ?_
 obtain ⟨r6, hr7, h⟩ := h
 refine st_call (foot := []) rfl rfl rfl rfl rfl rfl (callV_fn z_en73 (varint_Put_ok hr7 σ hs5)) ?_
 rintro vτ8 τ8 gsτ8 hl9 ⟨v10, rfl, rfl, hs11⟩
 obtain ⟨r12, hr13, h⟩ := h
 refine st_call (foot := [[(ba0, .cells #[v1, .int .i64 a0.2.1, .bool a0.2.2] 129 (0, 0))], g2]) rfl rfl rfl rfl rfl rfl (callV_fn z_en54 (pen_Pen_Raw_ok hr13 τ8 (ho3.up hl9) hs11)) ?_
 rintro vτ14 τ14 gsτ14 hl15 ⟨v16, g17, rfl, rfl, ho18⟩
 refine Z 2 rfl ?_
 obtain rfl := Eq.symm h
 exact st_ret (gs' := [[(ba0, .cells #[v16, .int .i64 r12.2.2.1, .bool r12.2.2.2] 129 (0, 0))], g17]) Tryz.func103 rfl (List.Sublist.refl _) (hl9.trans hl15) ⟨_, _, rfl, rfl, ho18⟩
theorem varint_Zig_ok {a0 : Int} {r : Int} (h : varint_Zig a0 r) (σ : Sto)  :
    Does Tryz.prog 117 [.int .i64 a0] σ [] (fun v τ gs => gs = [] ∧ .int .u64 r = v) := by
 refine call_of Tryz.func117 Tryz.ntmps117 rfl rfl (fun cs fs => ?_)
 refine Z 15 rfl ?_
 obtain rfl := Eq.symm h
 exact st_ret (gs' := []) Tryz.func117 rfl (List.Sublist.refl _) (Sto.Le.refl _) ⟨rfl, rfl⟩
theorem pen_Pen_Signed_ok {a0 : (List Int × Int × Bool)} {a1 : List Int} {ba0 : Nat} {v1 : Value} {g2 : Grp} {v4 : Value} {r : Int × ((List Int × Int × Bool))} (h : pen_Pen_Signed a0 a1 r) (σ : Sto) (ho3 : Ow (kI .u8) 5 σ v1 a0.1 g2) (hs5 : Sl (kI .i64) σ v4 a1) :
    Does Tryz.prog 104 [.pointer (some ⟨ba0, 0, none⟩), v4] σ [[(ba0, .cells [v1, .int .i64 a0.2.1, .bool a0.2.2].toArray 129 (0, 0))], g2] (fun v τ gs => ∃ (v44 : Value) (g45 : Grp), gs = [[(ba0, .cells [v44, .int .i64 r.2.2.1, .bool r.2.2.2].toArray 129 (0, 0))], g45] ∧ .int .i64 r.1 = v ∧ Ow (kI .u8) 5 τ v44 r.2.1 g45) := by
 refine call_of Tryz.func104 Tryz.ntmps104 rfl rfl (fun cs fs => ?_)
 refine Z 9 rfl ?_
 refine st_cut (fun ρ τ6 gs => ∃ (s6 : List Int) (v7 : Value) (g8 : Grp), pen_Pen_Signed_j1 a0 s6 r ∧ σ.Le τ6 ∧ ESub ρ [(0, .pointer (some ⟨ba0, 0, none⟩)), (4, .int .i64 0), (5, v7)] ∧ gs = [[(ba0, .cells #[v1, .int .i64 a0.2.1, .bool a0.2.2] 129 (0, 0))], g2, g8] ∧ Ow (kI .u64) 77 τ6 v7 s6 g8) ?_ (fun hk6 => ?_)
 ·rintro ρ6 τ6 gs6 ⟨s6, v7, g8, h, hl6, hρ, rfl, ho9⟩
  refine st_es hρ ?_
  refine Z 4 rfl ?_
  obtain ⟨r15, hr16, h⟩ := h
  refine st_ord [2, 0, 0] _ rfl ?_
  refine st_freeze (fun τ10 hl11 hg12 => ?_)
  have hs13 := ho9.freeze hl11 hg12
  refine st_call (foot := [[(ba0, .cells #[v1, .int .i64 a0.2.1, .bool a0.2.2] 129 (0, 0))], g2]) rfl rfl rfl rfl rfl rfl (callV_fn z_en103 (pen_Pen_Number_ok hr16 τ10 (ho3.up (hl6.trans hl11)) hs13)) ?_
  rintro vτ17 τ17 gsτ17 hl18 ⟨v19, g20, rfl, rfl, ho21⟩
  refine Z 2 rfl ?_
  obtain rfl := Eq.symm h
  exact st_ret (gs' := [[(ba0, .cells #[v19, .int .i64 r15.2.2.1, .bool r15.2.2.2] 129 (0, 0))], g20]) Tryz.func104 rfl (List.Sublist.refl _) ((hl6.trans hl11).trans hl18) ⟨_, _, rfl, rfl, ho21⟩
 refine Z 3 rfl ?_
 refine o_lenI rfl rfl rfl z_slT182 rfl hs5 ?_
 refine Z 2 rfl ?_
 obtain ⟨e22, hL22, hA22⟩ := h
 refine st_addNil ?_
 refine st_ord [1, 1, 0] _ rfl ?_
 refine st_loop hL22 (fun (s22 : List Int × Int) ρ τ22 gs => σ.Le τ22 ∧ ∃ (v23 : Value) (g24 : Grp), ESub ρ [(0, .pointer (some ⟨ba0, 0, none⟩)), (4, .int .i64 0), (5, v23), (8, v4), (9, .int .i64 (a1.length : Int)), (10, .int .i64 s22.2)] ∧ gs = [[(ba0, .cells #[v1, .int .i64 a0.2.1, .bool a0.2.2] 129 (0, 0))], g2, g24] ∧ Ow (kI .u64) 77 τ22 v23 s22.1 g24) ⟨Sto.Le.refl _, _, _, rfl, rfl, Ow.nil⟩ ?_
 rintro s22 o22 h he22 ρ22 τ22 gs22 ⟨hl22, v23, g24, hρ, rfl, ho25⟩ hn22
 refine st_es hρ ?_
 refine Z 5 rfl ?_
 refine st_if rfl h (fun h => ?_) (fun h => ?_)
 ·refine Z 5 rfl ?_
  obtain ⟨q26, hf27, h⟩ := h
  refine o_index rfl rfl rfl z_slT182 rfl rfl (hs5.up hl22) rfl hf27 (fun b28 of29 vs hc30 hrep => ?_)
  obtain rfl := hrep
  refine o_loadI (v := .int .i64 q26) rfl rfl rfl z_sc2 rfl (hc30 0 _ rfl) ?_
  refine Z 5 rfl ?_
  obtain ⟨r31, hr32, h⟩ := h
  refine st_call (foot := []) rfl rfl rfl rfl rfl rfl (callV_fn z_en117 (varint_Zig_ok hr32 τ22)) ?_
  rintro vτ33 τ33 gsτ33 hl34 ⟨rfl, rfl⟩
  refine o_litE (eI .u64) [r31] rfl rfl rfl z_slT112 z_zero77 ⟨rfl, ⟨_, rfl, rfl⟩, trivial⟩ rfl rfl rfl rfl (fun v35 g36 ho37 => ?_)
  obtain ⟨hf41, hf42, h⟩ := h
  refine st_ord [3, 0, 0, 0] _ rfl ?_
  refine o_append (dk := (kI .u64)) (xs := s22.1) (ys := [r31]) rfl rfl rfl rfl z_slT112 rfl (ho25.up hl34) rfl (Ow.src (j := 1) ho37 rfl) hf41 hf42 (fun v38 g39 ho40 => ?_)
  refine Z 7 rfl ?_
  refine st_ord [2, 2, 0] _ rfl ?_
  exact hn22 _ _ _ _ h ⟨(hl22.trans hl34), _, _, rfl, rfl, ho40⟩
 ·refine st_exit rfl ?_
  obtain rfl := he22 _ h
  replace h := hA22
  exact hk6 _ _ _ ⟨s22.1, _, _, h, hl22, rfl, rfl, ho25⟩
theorem body_points_ok {a0 : (List Int × Int × Bool)} {a1 : List (Int × Int)} {ba0 : Nat} {v1 : Value} {g2 : Grp} {v4 : Value} {r : ((List Int × Int × Bool))} (h : body_points a0 a1 r) (σ : Sto) (ho3 : Ow (kI .u8) 5 σ v1 a0.1 g2) (hs5 : Sl (kP (kI .i64) (kI .i64)) σ v4 a1) :
    Does Tryz.prog 105 [.pointer (some ⟨ba0, 0, none⟩), v4] σ [[(ba0, .cells [v1, .int .i64 a0.2.1, .bool a0.2.2].toArray 129 (0, 0))], g2] (fun v τ gs => ∃ (v46 : Value) (g47 : Grp), gs = [[(ba0, .cells [v46, .int .i64 r.2.1, .bool r.2.2].toArray 129 (0, 0))], g47] ∧ .tuple [].toArray = v ∧ Ow (kI .u8) 5 τ v46 r.1 g47) := by
 refine call_of Tryz.func105 Tryz.ntmps105 rfl rfl (fun cs fs => ?_)
 refine Z 4 rfl ?_
 refine o_lenI rfl rfl rfl z_slT27 rfl hs5 ?_
 refine o_conv rfl rfl rfl Tryz.underlying3 Tryz.underlying77 rfl ?_
 refine o_litE (eI .u64) [(IntKind.u64.wrap (a1.length : Int))] rfl rfl rfl z_slT112 z_zero77 ⟨rfl, ⟨_, rfl, rfl⟩, trivial⟩ rfl rfl rfl rfl (fun v6 g7 ho8 => ?_)
 obtain ⟨r13, hr14, h⟩ := h
 refine st_freeze (fun τ9 hl10 hg11 => ?_)
 have hs12 := ho8.freeze hl10 hg11
 refine st_call (foot := [[(ba0, .cells #[v1, .int .i64 a0.2.1, .bool a0.2.2] 129 (0, 0))], g2]) rfl rfl rfl rfl rfl rfl (callV_fn z_en103 (pen_Pen_Number_ok hr14 τ9 (ho3.up hl10) hs12)) ?_
 rintro vτ15 τ15 gsτ15 hl16 ⟨v17, g18, rfl, rfl, ho19⟩
 refine Z 3 rfl ?_
 refine o_alloc rfl rfl rfl z_zero84 (fun b20 => ?_)
 refine Z 4 rfl ?_
 refine o_lenI rfl rfl rfl z_slT27 rfl (hs5.up (hl10.trans hl16)) ?_
 refine Z 2 rfl ?_
 obtain ⟨e21, hL21, hA21⟩ := h
 refine st_ord [1, 0, 0] _ rfl ?_
 refine st_loop hL21 (fun (s21 : Int × List Int × Int × Bool × Int × Int) ρ τ21 gs => τ15.Le τ21 ∧ ∃ (v22 : Value) (g23 : Grp), ESub ρ [(0, .pointer (some ⟨ba0, 0, none⟩)), (4, .pointer (some ⟨b20, 0, none⟩)), (13, v4), (14, .int .i64 (a1.length : Int)), (15, .int .i64 s21.1)] ∧ gs = [[(ba0, .cells #[v22, .int .i64 s21.2.2.1, .bool s21.2.2.2.1] 129 (0, 0))], [(b20, .cells #[.int .i64 s21.2.2.2.2.1, .int .i64 s21.2.2.2.2.2] 84 (0, 0))], g23] ∧ Ow (kI .u8) 5 τ21 v22 s21.2.1 g23) ⟨Sto.Le.refl _, _, _, rfl, rfl, ho19⟩ ?_
 rintro s21 o21 h he21 ρ21 τ21 gs21 ⟨hl21, v22, g23, hρ, rfl, ho24⟩ hn21
 refine st_es hρ ?_
 refine Z 5 rfl ?_
 refine st_if rfl h (fun h => ?_) (fun h => ?_)
 ·refine Z 5 rfl ?_
  obtain ⟨q25, hf26, h⟩ := h
  refine o_index rfl rfl rfl z_slT27 rfl rfl (hs5.up ((hl10.trans hl16).trans hl21)) rfl hf26 (fun b27 of28 vs hc29 hrep => ?_)
  obtain ⟨_, _, rfl, rfl, rfl⟩ := hrep
  refine o_loadIN (vs := [.int .i64 q25.1, .int .i64 q25.2]) rfl rfl rfl z_agg84 rfl rfl (celn_part 0 rfl hc29) ?_
  refine o_alloc rfl rfl rfl z_zero84 (fun b30 => ?_)
  refine ZZ 15 [0, 0, 2, 0, 2] rfl rfl ?_
  refine o_litE (eI .i64) [(IntKind.i64.wrap (q25.1 - s21.2.2.2.2.1)), (IntKind.i64.wrap (q25.2 - s21.2.2.2.2.2))] rfl rfl rfl z_slT182 z_zero2 ⟨rfl, ⟨_, rfl, rfl⟩, ⟨rfl, ⟨_, rfl, rfl⟩, trivial⟩⟩ rfl rfl rfl rfl (fun v31 g32 ho33 => ?_)
  obtain ⟨r38, hr39, h⟩ := h
  refine st_freeze (fun τ34 hl35 hg36 => ?_)
  have hs37 := ho33.freeze hl35 hg36
  refine st_ord [1, 2, 0, 0] _ rfl ?_
  refine st_call (foot := [[(ba0, .cells #[v22, .int .i64 s21.2.2.1, .bool s21.2.2.2.1] 129 (0, 0))], g23]) rfl rfl rfl rfl rfl rfl (callV_fn z_en104 (pen_Pen_Signed_ok hr39 τ34 (ho24.up hl35) hs37)) ?_
  rintro vτ40 τ40 gsτ40 hl41 ⟨v42, g43, rfl, rfl, ho44⟩
  refine ZZ 10 [2, 3] rfl rfl ?_
  refine st_ord [0, 2, 0] _ rfl ?_
  exact hn21 _ _ _ _ h ⟨((hl21.trans hl35).trans hl41), _, _, rfl, rfl, ho44⟩
 ·refine st_exit rfl ?_
  refine st_ord [0, 1] _ rfl ?_
  obtain rfl := he21 _ h
  replace h := hA21
  obtain rfl := Eq.symm h
  exact st_fin (gs' := [[(ba0, .cells #[v22, .int .i64 s21.2.2.1, .bool s21.2.2.2.1] 129 (0, 0))], g23]) Tryz.func105 rfl (List.Sublist.refl _) ((hl10.trans hl16).trans hl21) ⟨_, _, rfl, rfl, ho24⟩
theorem body_cells_ok {a0 : (List Int × Int × Bool)} {a1 : List Int} {ba0 : Nat} {v1 : Value} {g2 : Grp} {v4 : Value} {r : ((List Int × Int × Bool))} (h : body_cells a0 a1 r) (σ : Sto) (ho3 : Ow (kI .u8) 5 σ v1 a0.1 g2) (hs5 : Sl (kI .i64) σ v4 a1) :
    Does Tryz.prog 106 [.pointer (some ⟨ba0, 0, none⟩), v4] σ [[(ba0, .cells [v1, .int .i64 a0.2.1, .bool a0.2.2].toArray 129 (0, 0))], g2] (fun v τ gs => ∃ (v44 : Value) (g45 : Grp), gs = [[(ba0, .cells [v44, .int .i64 r.2.1, .bool r.2.2].toArray 129 (0, 0))], g45] ∧ .tuple [].toArray = v ∧ Ow (kI .u8) 5 τ v44 r.1 g45) := by
 refine call_of Tryz.func106 Tryz.ntmps106 rfl rfl (fun cs fs => ?_)
 refine Z 4 rfl ?_
 refine o_lenI rfl rfl rfl z_slT28 rfl hs5 ?_
 refine o_conv rfl rfl rfl Tryz.underlying3 Tryz.underlying77 rfl ?_
 refine o_litE (eI .u64) [(IntKind.u64.wrap (a1.length : Int))] rfl rfl rfl z_slT112 z_zero77 ⟨rfl, ⟨_, rfl, rfl⟩, trivial⟩ rfl rfl rfl rfl (fun v6 g7 ho8 => ?_)
 obtain ⟨r13, hr14, h⟩ := h
 refine st_freeze (fun τ9 hl10 hg11 => ?_)
 have hs12 := ho8.freeze hl10 hg11
 refine st_call (foot := [[(ba0, .cells #[v1, .int .i64 a0.2.1, .bool a0.2.2] 129 (0, 0))], g2]) rfl rfl rfl rfl rfl rfl (callV_fn z_en103 (pen_Pen_Number_ok hr14 τ9 (ho3.up hl10) hs12)) ?_
 rintro vτ15 τ15 gsτ15 hl16 ⟨v17, g18, rfl, rfl, ho19⟩
 refine Z 8 rfl ?_
 refine o_lenI rfl rfl rfl z_slT28 rfl (hs5.up (hl10.trans hl16)) ?_
 refine Z 2 rfl ?_
 obtain ⟨e20, hL20, hA20⟩ := h
 refine st_loop hL20 (fun (s20 : Int × Int × List Int × Int × Bool) ρ τ20 gs => τ15.Le τ20 ∧ ∃ (v21 : Value) (g22 : Grp), ESub ρ [(0, .pointer (some ⟨ba0, 0, none⟩)), (4, .int .i64 s20.1), (13, v4), (14, .int .i64 (a1.length : Int)), (15, .int .i64 s20.2.1)] ∧ gs = [[(ba0, .cells #[v21, .int .i64 s20.2.2.2.1, .bool s20.2.2.2.2] 129 (0, 0))], g22] ∧ Ow (kI .u8) 5 τ20 v21 s20.2.2.1 g22) ⟨Sto.Le.refl _, _, _, rfl, rfl, ho19⟩ ?_
 rintro s20 o20 h he20 ρ20 τ20 gs20 ⟨hl20, v21, g22, hρ, rfl, ho23⟩ hn20
 refine st_es hρ ?_
 refine Z 5 rfl ?_
 refine st_if rfl h (fun h => ?_) (fun h => ?_)
 ·refine Z 5 rfl ?_
  obtain ⟨q24, hf25, h⟩ := h
  refine o_index rfl rfl rfl z_slT28 rfl rfl (hs5.up ((hl10.trans hl16).trans hl20)) rfl hf25 (fun b26 of27 vs hc28 hrep => ?_)
  obtain rfl := hrep
  refine o_loadI (v := .int .i64 q24) rfl rfl rfl z_sc3 rfl (hc28 0 _ rfl) ?_
  refine Z 10 rfl ?_
  refine o_litE (eI .u64) [(IntKind.u64.wrap (IntKind.i64.wrap ((IntKind.i64.wrap (q24 - s20.1)) - 1)))] rfl rfl rfl z_slT112 z_zero77 ⟨rfl, ⟨_, rfl, rfl⟩, trivial⟩ rfl rfl rfl rfl (fun v29 g30 ho31 => ?_)
  obtain ⟨r36, hr37, h⟩ := h
  refine st_freeze (fun τ32 hl33 hg34 => ?_)
  have hs35 := ho31.freeze hl33 hg34
  refine st_call (foot := [[(ba0, .cells #[v21, .int .i64 s20.2.2.2.1, .bool s20.2.2.2.2] 129 (0, 0))], g22]) rfl rfl rfl rfl rfl rfl (callV_fn z_en103 (pen_Pen_Number_ok hr37 τ32 (ho23.up hl33) hs35)) ?_
  rintro vτ38 τ38 gsτ38 hl39 ⟨v40, g41, rfl, rfl, ho42⟩
  refine Z 10 rfl ?_
  exact hn20 _ _ _ _ h ⟨((hl20.trans hl33).trans hl39), _, _, rfl, rfl, ho42⟩
 ·refine st_exit rfl ?_
  obtain rfl := he20 _ h
  replace h := hA20
  obtain rfl := Eq.symm h
  exact st_fin (gs' := [[(ba0, .cells #[v21, .int .i64 s20.2.2.2.1, .bool s20.2.2.2.2] 129 (0, 0))], g22]) Tryz.func106 rfl (List.Sublist.refl _) ((hl10.trans hl16).trans hl20) ⟨_, _, rfl, rfl, ho23⟩
theorem varint_Put_own_ok {a0 : List Int} {v1 : Value} {r : List Int} (h : varint_Put a0 r) (σ : Sto) (hs2 : Sl (kI .u64) σ v1 a0) :
    Does Tryz.prog 73 [v1] σ [] (fun v τ gs => ∃ (v42 : Value) (g43 : Grp), gs = [g43] ∧ v42 = v ∧ Ow (kI .u8) 5 τ v42 r g43) := by
 refine call_of Tryz.func73 Tryz.ntmps73 rfl rfl (fun cs fs => ?_)
 refine Z 9 rfl ?_
 refine st_cut (fun ρ τ3 gs => ∃ (s3 : List Int) (v4 : Value) (g5 : Grp), varint_Put_j1 s3 r ∧ σ.Le τ3 ∧ ESub ρ [(2, .slice none 0 0), (3, v4)] ∧ gs = [g5] ∧ Ow (kI .u8) 5 τ3 v4 s3 g5) ?_ (fun hk3 => ?_)
 ·rintro ρ3 τ3 gs3 ⟨s3, v4, g5, h, hl3, hρ, rfl, ho6⟩
  refine st_es hρ ?_
  refine Z 5 rfl ?_
  obtain rfl := Eq.symm h
  exact st_ret (gs' := [g5]) Tryz.func73 rfl (List.Sublist.refl _) hl3 ⟨_, _, rfl, rfl, ho6⟩
 refine Z 3 rfl ?_
 refine o_lenI rfl rfl rfl z_slT112 rfl hs2 ?_
 refine Z 2 rfl ?_
 obtain ⟨e7, hL7, hA7⟩ := h
 refine st_addNil ?_
 refine st_loop hL7 (fun (s7 : List Int × Int) ρ τ7 gs => σ.Le τ7 ∧ ∃ (v8 : Value) (g9 : Grp), ESub ρ [(2, .slice none 0 0), (3, v8), (6, v1), (7, .int .i64 (a0.length : Int)), (8, .int .i64 s7.2)] ∧ gs = [g9] ∧ Ow (kI .u8) 5 τ7 v8 s7.1 g9) ⟨Sto.Le.refl _, _, _, rfl, rfl, Ow.nil⟩ ?_
 rintro s7 o7 h he7 ρ7 τ7 gs7 ⟨hl7, v8, g9, hρ, rfl, ho10⟩ hn7
 refine st_es hρ ?_
 refine Z 5 rfl ?_
 refine st_if rfl h (fun h => ?_) (fun h => ?_)
 ·refine Z 5 rfl ?_
  obtain ⟨q11, hf12, h⟩ := h
  refine o_index rfl rfl rfl z_slT112 rfl rfl (hs2.up hl7) rfl hf12 (fun b13 of14 vs hc15 hrep => ?_)
  obtain rfl := hrep
  refine o_loadI (v := .int .u64 q11) rfl rfl rfl z_sc77 rfl (hc15 0 _ rfl) ?_
  refine Z 3 rfl ?_
  refine st_cut (fun ρ τ16 gs => ∃ (s16 : List Int × Int) (v17 : Value) (g18 : Grp), varint_Put_j3 s7 s16 o7 ∧ τ7.Le τ16 ∧ ESub ρ [(2, .slice none 0 0), (3, v17), (6, v1), (7, .int .i64 (a0.length : Int)), (8, .int .i64 s7.2), (5, .int .u64 s16.2)] ∧ gs = [g18] ∧ Ow (kI .u8) 5 τ16 v17 s16.1 g18) ?_ (fun hk16 => ?_)
  ·rintro ρ16 τ16 gs16 ⟨s16, v17, g18, h, hl16, hρ, rfl, ho19⟩
   refine st_es hρ ?_
   refine Z 4 rfl ?_
   refine o_litE (eI .u8) [(IntKind.u8.wrap s16.2)] rfl rfl rfl z_slT42 z_zero5 ⟨rfl, ⟨_, rfl, rfl⟩, trivial⟩ rfl rfl rfl rfl (fun v20 g21 ho22 => ?_)
   obtain ⟨hf26, hf27, h⟩ := h
   refine st_ord [1, 0] _ rfl ?_
   refine o_append (dk := (kI .u8)) (xs := s16.1) (ys := [(IntKind.u8.wrap s16.2)]) rfl rfl rfl rfl z_slT42 rfl ho19 rfl (Ow.src (j := 1) ho22 rfl) hf26 hf27 (fun v23 g24 ho25 => ?_)
   refine Z 7 rfl ?_
   refine st_ord [0] _ rfl ?_
   exact hn7 _ _ _ _ h ⟨(hl7.trans hl16), _, _, rfl, rfl, ho25⟩
  obtain ⟨e28, hL28, hA28⟩ := h
  refine st_loop hL28 (fun (s28 : List Int × Int) ρ τ28 gs => τ7.Le τ28 ∧ ∃ (v29 : Value) (g30 : Grp), ESub ρ [(2, .slice none 0 0), (3, v29), (6, v1), (7, .int .i64 (a0.length : Int)), (8, .int .i64 s7.2), (5, .int .u64 s28.2)] ∧ gs = [g30] ∧ Ow (kI .u8) 5 τ28 v29 s28.1 g30) ⟨Sto.Le.refl _, _, _, rfl, rfl, ho10⟩ ?_
  rintro s28 o28 h he28 ρ28 τ28 gs28 ⟨hl28, v29, g30, hρ, rfl, ho31⟩ hn28
  refine st_es hρ ?_
  refine Z 6 rfl ?_
  refine st_if rfl h (fun h => ?_) (fun h => ?_)
  ·refine Z 8 rfl ?_
   refine o_litE (eI .u8) [(ior .u8 (IntKind.u8.wrap s28.2) 128)] rfl rfl rfl z_slT42 z_zero5 ⟨rfl, ⟨_, rfl, rfl⟩, trivial⟩ rfl rfl rfl rfl (fun v32 g33 ho34 => ?_)
   obtain ⟨hf38, hf39, h⟩ := h
   refine st_ord [1, 0] _ rfl ?_
   refine o_append (dk := (kI .u8)) (xs := s28.1) (ys := [(ior .u8 (IntKind.u8.wrap s28.2) 128)]) rfl rfl rfl rfl z_slT42 rfl ho31 rfl (Ow.src (j := 1) ho34 rfl) hf38 hf39 (fun v35 g36 ho37 => ?_)
   refine Z 8 rfl ?_
   refine st_ord [0] _ rfl ?_
   exact hn28 _ _ _ _ h ⟨hl28, _, _, rfl, rfl, ho37⟩
  ·refine st_exit rfl ?_
   obtain rfl := he28 _ h
   replace h := hA28
   exact hk16 _ _ _ ⟨(s28.1, s28.2), _, _, h, hl28, rfl, rfl, ho31⟩
 ·refine st_exit rfl ?_
  obtain rfl := he7 _ h
  replace h := hA7
  exact hk3 _ _ _ ⟨s7.1, _, _, h, hl7, rfl, rfl, ho10⟩
theorem pen_Pen_Field_ok {a0 : (List Int × Int × Bool)} {a1 : List Int} {ba0 : Nat} {v1 : Value} {g2 : Grp} {v4 : Value} {r : Int × ((List Int × Int × Bool))} (h : pen_Pen_Field a0 a1 r) (σ : Sto) (ho3 : Ow (kI .u8) 5 σ v1 a0.1 g2) (hs5 : Sl (kI .u8) σ v4 a1) :
    Does Tryz.prog 55 [.pointer (some ⟨ba0, 0, none⟩), v4] σ [[(ba0, .cells [v1, .int .i64 a0.2.1, .bool a0.2.2].toArray 129 (0, 0))], g2] (fun v τ gs => ∃ (v36 : Value) (g37 : Grp), gs = [[(ba0, .cells [v36, .int .i64 r.2.2.1, .bool r.2.2.2].toArray 129 (0, 0))], g37] ∧ .int .i64 r.1 = v ∧ Ow (kI .u8) 5 τ v36 r.2.1 g37) := by
 refine call_of Tryz.func55 Tryz.ntmps55 rfl rfl (fun cs fs => ?_)
 refine Z 8 rfl ?_
 refine o_lenI rfl rfl rfl z_slT42 rfl hs5 ?_
 refine o_conv rfl rfl rfl Tryz.underlying3 Tryz.underlying77 rfl ?_
 refine o_litE (eI .u64) [(IntKind.u64.wrap (a1.length : Int))] rfl rfl rfl z_slT112 z_zero77 ⟨rfl, ⟨_, rfl, rfl⟩, trivial⟩ rfl rfl rfl rfl (fun v6 g7 ho8 => ?_)
 obtain ⟨r13, hr14, h⟩ := h
 refine st_freeze (fun τ9 hl10 hg11 => ?_)
 have hs12 := ho8.freeze hl10 hg11
 refine st_call (foot := []) rfl rfl rfl rfl rfl rfl (callV_fn z_en73 (varint_Put_own_ok hr14 τ9 hs12)) ?_
 rintro vτ15 τ15 gsτ15 hl16 ⟨v17, g18, rfl, rfl, ho19⟩
 refine o_move rfl rfl rfl rfl ?_
 obtain ⟨hf23, hf24, h⟩ := h
 refine o_append (dk := (kI .u8)) (xs := r13) (ys := a1) rfl rfl rfl rfl z_slT42 rfl ho19 rfl (Sl.src (hs5.up (hl10.trans hl16))) hf23 hf24 (fun v20 g21 ho22 => ?_)
 obtain ⟨r29, hr30, h⟩ := h
 refine st_freeze (fun τ25 hl26 hg27 => ?_)
 have hs28 := ho22.freeze hl26 hg27
 refine st_call (foot := [[(ba0, .cells #[v1, .int .i64 a0.2.1, .bool a0.2.2] 129 (0, 0))], g2]) rfl rfl rfl rfl rfl rfl (callV_fn z_en54 (pen_Pen_Raw_ok hr30 τ25 (ho3.up ((hl10.trans hl16).trans hl26)) hs28)) ?_
 rintro vτ31 τ31 gsτ31 hl32 ⟨v33, g34, rfl, rfl, ho35⟩
 refine Z 2 rfl ?_
 obtain rfl := Eq.symm h
 exact st_ret (gs' := [[(ba0, .cells #[v33, .int .i64 r29.2.2.1, .bool r29.2.2.2] 129 (0, 0))], g34]) Tryz.func55 rfl (List.Sublist.refl _) (((hl10.trans hl16).trans hl26).trans hl32) ⟨_, _, rfl, rfl, ho35⟩
theorem pen_Pen_Bytes_ok {a0 : (List Int × Int × Bool)} {ba0 : Nat} {v1 : Value} {g2 : Grp} {r : List Int} (h : pen_Pen_Bytes a0 r) (σ : Sto) (ho3 : Ow (kI .u8) 5 σ v1 a0.1 g2) :
    Does Tryz.prog 56 [.pointer (some ⟨ba0, 0, none⟩)] σ [[(ba0, .cells [v1, .int .i64 a0.2.1, .bool a0.2.2].toArray 129 (0, 0))], g2] (fun v τ gs => ∃ (v14 : Value), gs = [[(ba0, .cells [v1, .int .i64 a0.2.1, .bool a0.2.2].toArray 129 (0, 0))], g2] ∧ v14 = v ∧ Sl (kI .u8) τ v14 r) := by
 refine call_of Tryz.func56 Tryz.ntmps56 rfl rfl (fun cs fs => ?_)
 refine ZZ 19 [0] rfl rfl ?_
 obtain ⟨hf7, hf8, h⟩ := h
 refine st_addNil ?_
 refine o_append (dk := (kI .u8)) (xs := ([] : List Int)) (ys := a0.1) rfl rfl rfl rfl z_slT42 rfl Ow.nil rfl (Ow.src (j := 2) ho3 rfl) hf7 hf8 (fun v4 g5 ho6 => ?_)
 refine Z 2 rfl ?_
 refine st_freeze (fun τ9 hl10 hg11 => ?_)
 have hs12 := ho6.freeze hl10 hg11
 obtain rfl := Eq.symm h
 exact st_ret (gs' := [[(ba0, .cells #[v1, .int .i64 a0.2.1, .bool a0.2.2] 129 (0, 0))], g2]) Tryz.func56 rfl (List.Sublist.refl _) hl10 ⟨_, rfl, rfl, hs12⟩
theorem body_part_ok {a0 : Int × List Int × List (Int × Int) × List Int × ByteArray × ByteArray} {a1 : ByteArray × Int × Int × Int × Int × Int × Int} {v1 : Value} {v2 : Value} {r : List Int} (h : body_part a0 a1 r) (σ : Sto) (hs3 : Sl (kP (kI .i64) (kI .i64)) σ v1 a0.2.2.1) (hs4 : Sl (kI .i64) σ v2 a0.2.2.2.1) :
    Does Tryz.prog 90 [.agg [.int .i64 a0.1, .int .i64 (a0.2.1.getD 0 0), .int .i64 (a0.2.1.getD 1 0), .int .i64 (a0.2.1.getD 2 0), .int .i64 (a0.2.1.getD 3 0), .int .i64 (a0.2.1.getD 4 0), .int .i64 (a0.2.1.getD 5 0), v1, v2, .string a0.2.2.2.2.1, .string a0.2.2.2.2.2].toArray, .agg [.string a1.1, .int .i64 a1.2.1, .int .i64 a1.2.2.1, .int .i64 a1.2.2.2.1, .int .i64 a1.2.2.2.2.1, .int .i64 a1.2.2.2.2.2.1, .int .i64 a1.2.2.2.2.2.2].toArray] σ [] (fun v τ gs => ∃ (v95 : Value), gs = [] ∧ v95 = v ∧ Sl (kI .u8) τ v95 r) := by
 refine call_of Tryz.func90 Tryz.ntmps90 rfl rfl (fun cs fs => ?_)
 refine Z 2 rfl ?_
 refine o_box (cs := [.int .i64 a0.1, .int .i64 (a0.2.1.getD 0 0), .int .i64 (a0.2.1.getD 1 0), .int .i64 (a0.2.1.getD 2 0), .int .i64 (a0.2.1.getD 3 0), .int .i64 (a0.2.1.getD 4 0), .int .i64 (a0.2.1.getD 5 0), v1, v2, .string a0.2.2.2.2.1, .string a0.2.2.2.2.2]) rfl rfl rfl rfl rfl (fun b5 => ?_)
 refine o_boxC rfl rfl rfl rfl rfl rfl (fun b6 => ?_)
 refine Z 4 rfl ?_
 obtain ⟨r7, hr8, h⟩ := h
 refine st_call (foot := []) rfl rfl rfl rfl rfl rfl (callV_fn z_en50 (pen_New_ok hr8 σ)) ?_
 rintro vτ9 τ9 gsτ9 hl10 ⟨b11, v12, g13, rfl, rfl, ho14⟩
 refine Z 3 rfl ?_
 refine st_cut (fun ρ τ15 gs => ∃ (s15 : List Int × Int × Bool) (v16 : Value) (g17 : Grp), body_part_j1 s15 r ∧ τ9.Le τ15 ∧ ESub ρ [(4, .slice none 0 0), (5, .pointer (some ⟨b11, 0, none⟩))] ∧ gs = [[(b11, .cells #[v16, .int .i64 s15.2.1, .bool s15.2.2] 129 (0, 0))], g17] ∧ Ow (kI .u8) 5 τ15 v16 s15.1 g17) ?_ (fun hk15 => ?_)
 ·rintro ρ15 τ15 gs15 ⟨s15, v16, g17, h, hl15, hρ, rfl, ho18⟩
  refine st_es hρ ?_
  refine Z 3 rfl ?_
  obtain ⟨r19, hr20, h⟩ := h
  refine st_call (foot := [[(b11, .cells #[v16, .int .i64 s15.2.1, .bool s15.2.2] 129 (0, 0))], g17]) rfl rfl rfl rfl rfl rfl (callV_fn z_en56 (pen_Pen_Bytes_ok hr20 τ15 ho18)) ?_
  rintro vτ21 τ21 gsτ21 hl22 ⟨v23, rfl, rfl, hs24⟩
  refine Z 2 rfl ?_
  refine st_ord [] _ rfl ?_
  obtain rfl := Eq.symm h
  exact st_ret (gs' := []) Tryz.func90 rfl (List.Sublist.refl _) ((hl10.trans hl15).trans hl22) ⟨_, rfl, rfl, hs24⟩
 refine ZZ 11 [2] rfl rfl ?_
 refine st_if rfl h (fun h => ?_) (fun h => ?_)
 ·refine ZZ 5 [2] rfl rfl ?_
  obtain ⟨hf25, hf26, h⟩ := h
  refine o_indexA rfl rfl rfl z_arr26 rfl rfl hf25 hf26 ?_
  refine o_loadV (j := 3) (a1.2.2.1.toNat) (f := (Value.int .i64)) (zz := 0) (l := 6) (xs := a0.2.1) [.int .i64 a0.1] [v1, v2, .string a0.2.2.2.2.1, .string a0.2.2.2.2.2] rfl rfl rfl z_sc3 rfl rfl (by simp only [List.length_cons, List.length_nil] <;> omega) (by omega) ?_
  refine o_conv rfl rfl rfl Tryz.underlying3 Tryz.underlying77 rfl ?_
  refine o_litE (eI .u64) [(IntKind.u64.wrap (a0.2.1.getD a1.2.2.1.toNat 0))] rfl rfl rfl z_slT112 z_zero77 ⟨rfl, ⟨_, rfl, rfl⟩, trivial⟩ rfl rfl rfl rfl (fun v27 g28 ho29 => ?_)
  obtain ⟨r34, hr35, h⟩ := h
  refine st_freeze (fun τ30 hl31 hg32 => ?_)
  have hs33 := ho29.freeze hl31 hg32
  refine st_call (foot := [[(b11, .cells #[v12, .int .i64 r7.2.1, .bool r7.2.2] 129 (0, 0))], g13]) rfl rfl rfl rfl rfl rfl (callV_fn z_en103 (pen_Pen_Number_ok hr35 τ30 (ho14.up hl31) hs33)) ?_
  rintro vτ36 τ36 gsτ36 hl37 ⟨v38, g39, rfl, rfl, ho40⟩
  refine Z 2 rfl ?_
  refine st_ord [0, 0] _ rfl ?_
  exact hk15 _ _ _ ⟨(r34.2.1, r34.2.2.1, r34.2.2.2), _, _, h, (hl31.trans hl37), rfl, rfl, ho40⟩
 ·refine Z 5 rfl ?_
  refine st_if rfl h (fun h => ?_) (fun h => ?_)
  ·refine ZZ 5 [2] rfl rfl ?_
   obtain ⟨hf41, hf42, h⟩ := h
   refine o_indexA rfl rfl rfl z_arr26 rfl rfl hf41 hf42 ?_
   refine o_loadV (j := 3) (a1.2.2.1.toNat) (f := (Value.int .i64)) (zz := 0) (l := 6) (xs := a0.2.1) [.int .i64 a0.1] [v1, v2, .string a0.2.2.2.2.1, .string a0.2.2.2.2.2] rfl rfl rfl z_sc3 rfl rfl (by simp only [List.length_cons, List.length_nil] <;> omega) (by omega) ?_
   refine o_litE (eI .i64) [(a0.2.1.getD a1.2.2.1.toNat 0)] rfl rfl rfl z_slT182 z_zero2 ⟨rfl, ⟨_, rfl, rfl⟩, trivial⟩ rfl rfl rfl rfl (fun v43 g44 ho45 => ?_)
   obtain ⟨r50, hr51, h⟩ := h
   refine st_freeze (fun τ46 hl47 hg48 => ?_)
   have hs49 := ho45.freeze hl47 hg48
   refine st_call (foot := [[(b11, .cells #[v12, .int .i64 r7.2.1, .bool r7.2.2] 129 (0, 0))], g13]) rfl rfl rfl rfl rfl rfl (callV_fn z_en104 (pen_Pen_Signed_ok hr51 τ46 (ho14.up hl47) hs49)) ?_
   rintro vτ52 τ52 gsτ52 hl53 ⟨v54, g55, rfl, rfl, ho56⟩
   refine Z 2 rfl ?_
   refine st_ord [0, 0] _ rfl ?_
   exact hk15 _ _ _ ⟨(r50.2.1, r50.2.2.1, r50.2.2.2), _, _, h, (hl47.trans hl53), rfl, rfl, ho56⟩
  ·refine Z 5 rfl ?_
   refine st_if rfl h (fun h => ?_) (fun h => ?_)
   ·refine ZZ 4 [3] rfl rfl ?_
    obtain ⟨r57, hr58, h⟩ := h
    refine st_call (foot := [[(b11, .cells #[v12, .int .i64 r7.2.1, .bool r7.2.2] 129 (0, 0))], g13]) rfl rfl rfl rfl rfl rfl (callV_fn z_en105 (body_points_ok hr58 τ9 ho14 (hs3.up hl10))) ?_
    rintro vτ59 τ59 gsτ59 hl60 ⟨v61, g62, rfl, rfl, ho63⟩
    refine Z 2 rfl ?_
    refine st_ord [0, 0] _ rfl ?_
    exact hk15 _ _ _ ⟨(r57.1, r57.2.1, r57.2.2), _, _, h, hl60, rfl, rfl, ho63⟩
   ·refine Z 5 rfl ?_
    refine st_if rfl h (fun h => ?_) (fun h => ?_)
    ·refine ZZ 4 [3] rfl rfl ?_
     obtain ⟨r64, hr65, h⟩ := h
     refine st_call (foot := [[(b11, .cells #[v12, .int .i64 r7.2.1, .bool r7.2.2] 129 (0, 0))], g13]) rfl rfl rfl rfl rfl rfl (callV_fn z_en106 (body_cells_ok hr65 τ9 ho14 (hs4.up hl10))) ?_
     rintro vτ66 τ66 gsτ66 hl67 ⟨v68, g69, rfl, rfl, ho70⟩
     refine Z 2 rfl ?_
     refine st_ord [0, 0] _ rfl ?_
     exact hk15 _ _ _ ⟨(r64.1, r64.2.1, r64.2.2), _, _, h, hl67, rfl, rfl, ho70⟩
    ·refine Z 5 rfl ?_
     refine st_if rfl h (fun h => ?_) (fun h => ?_)
     ·refine ZZ 4 [3] rfl rfl ?_
      obtain ⟨hf75, h⟩ := h
      refine o_bytes rfl rfl rfl Tryz.underlying9 Tryz.underlying42 Tryz.underlying5 rfl hf75 (fun v71 τ72 hl73 hs74 => ?_)
      obtain ⟨r76, hr77, h⟩ := h
      refine st_call (foot := [[(b11, .cells #[v12, .int .i64 r7.2.1, .bool r7.2.2] 129 (0, 0))], g13]) rfl rfl rfl rfl rfl rfl (callV_fn z_en55 (pen_Pen_Field_ok hr77 τ72 (ho14.up hl73) hs74)) ?_
      rintro vτ78 τ78 gsτ78 hl79 ⟨v80, g81, rfl, rfl, ho82⟩
      refine Z 2 rfl ?_
      refine st_ord [0, 0] _ rfl ?_
      exact hk15 _ _ _ ⟨(r76.2.1, r76.2.2.1, r76.2.2.2), _, _, h, (hl73.trans hl79), rfl, rfl, ho82⟩
     ·refine Z 5 rfl ?_
      refine st_if rfl h (fun h => ?_) (fun h => ?_)
      ·refine ZZ 4 [3] rfl rfl ?_
       obtain ⟨hf87, h⟩ := h
       refine o_bytes rfl rfl rfl Tryz.underlying9 Tryz.underlying42 Tryz.underlying5 rfl hf87 (fun v83 τ84 hl85 hs86 => ?_)
       obtain ⟨r88, hr89, h⟩ := h
       refine st_call (foot := [[(b11, .cells #[v12, .int .i64 r7.2.1, .bool r7.2.2] 129 (0, 0))], g13]) rfl rfl rfl rfl rfl rfl (callV_fn z_en55 (pen_Pen_Field_ok hr89 τ84 (ho14.up hl85) hs86)) ?_
       rintro vτ90 τ90 gsτ90 hl91 ⟨v92, g93, rfl, rfl, ho94⟩
       refine Z 2 rfl ?_
       refine st_ord [0, 0] _ rfl ?_
       exact hk15 _ _ _ ⟨(r88.2.1, r88.2.2.1, r88.2.2.2), _, _, h, (hl85.trans hl91), rfl, rfl, ho94⟩
      ·refine Z 2 rfl ?_
       refine st_ord [0, 0] _ rfl ?_
       exact hk15 _ _ _ ⟨(r7.1, r7.2.1, r7.2.2), _, _, h, (Sto.Le.refl _), rfl, rfl, ho14⟩
theorem body_Parts_1_ok {c0 : Int × List Int × List (Int × Int) × List Int × ByteArray × ByteArray} {c1 : Int} {bc0 : Nat} {v1 : Value} {v2 : Value} {bc1 : Nat} {σ0 : Sto} (hc0_0 : Cel σ0 ⟨bc0, 0, none⟩ (.int .i64 c0.1)) (hc0_1 : Cel σ0 ⟨bc0, 1, none⟩ (.int .i64 (c0.2.1.getD 0 0))) (hc0_2 : Cel σ0 ⟨bc0, 2, none⟩ (.int .i64 (c0.2.1.getD 1 0))) (hc0_3 : Cel σ0 ⟨bc0, 3, none⟩ (.int .i64 (c0.2.1.getD 2 0))) (hc0_4 : Cel σ0 ⟨bc0, 4, none⟩ (.int .i64 (c0.2.1.getD 3 0))) (hc0_5 : Cel σ0 ⟨bc0, 5, none⟩ (.int .i64 (c0.2.1.getD 4 0))) (hc0_6 : Cel σ0 ⟨bc0, 6, none⟩ (.int .i64 (c0.2.1.getD 5 0))) (hc0_7 : Cel σ0 ⟨bc0, 7, none⟩ (v1)) (hc0_8 : Cel σ0 ⟨bc0, 8, none⟩ (v2)) (hc0_9 : Cel σ0 ⟨bc0, 9, none⟩ (.string c0.2.2.2.2.1)) (hc0_10 : Cel σ0 ⟨bc0, 10, none⟩ (.string c0.2.2.2.2.2)) (hs3 : Sl (kP (kI .i64) (kI .i64)) σ0 v1 c0.2.2.1) (hs4 : Sl (kI .i64) σ0 v2 c0.2.2.2.1) (hc1_0 : Cel σ0 ⟨bc1, 0, none⟩ (.int .i64 c1)) :
    IterV Tryz.prog (fun τ x vx => ∃ (v2 : Value), vx = [.string x.1, v2] ∧ Sl (kI .u8) τ v2 x.2) (.func (.func 88) #[] [.pointer (some ⟨bc0, 0, none⟩), .pointer (some ⟨bc1, 0, none⟩)].toArray) σ0 [] (fun (_ : Unit) _ f => f = []) (body_Parts_1 c0 c1) := by
 intro S Y I y hyc hyo hIm hY s s' o hR σ g hle hIg
 obtain ⟨r, hr0⟩ : ∃ r, r = (s', o) := ⟨_, rfl⟩
 rw [← hr0] at hR
 have h := hR
 refine callV_of (caps := [.pointer (some ⟨bc0, 0, none⟩), .pointer (some ⟨bc1, 0, none⟩)]) z_en88 ?_
 refine call_of Tryz.func88 Tryz.ntmps88 rfl rfl (fun cs fs => ?_)
 refine st_ord [0] _ rfl ?_
 refine Z 2 rfl ?_
 refine o_box (cs := [y]) rfl rfl rfl rfl hyc (fun b5 => ?_)
 refine Z 5 rfl ?_
 refine o_loadIN (vs := [.int .i64 c0.1, .int .i64 (c0.2.1.getD 0 0), .int .i64 (c0.2.1.getD 1 0), .int .i64 (c0.2.1.getD 2 0), .int .i64 (c0.2.1.getD 3 0), .int .i64 (c0.2.1.getD 4 0), .int .i64 (c0.2.1.getD 5 0), v1, v2, .string c0.2.2.2.2.1, .string c0.2.2.2.2.2]) rfl rfl rfl z_agg30 rfl rfl (celn_cons (Cel.up hc0_0 hle) (celn_cons (Cel.up hc0_1 hle) (celn_cons (Cel.up hc0_2 hle) (celn_cons (Cel.up hc0_3 hle) (celn_cons (Cel.up hc0_4 hle) (celn_cons (Cel.up hc0_5 hle) (celn_cons (Cel.up hc0_6 hle) (celn_cons (Cel.up hc0_7 hle) (celn_cons (Cel.up hc0_8 hle) (celn_cons (Cel.up hc0_9 hle) (celn_cons (Cel.up hc0_10 hle) celn_nil))))))))))) ?_
 refine o_loadI (v := .int .i64 c1) rfl rfl rfl z_sc3 rfl (Cel.up hc1_0 hle) ?_
 obtain ⟨r6, hr7, h⟩ := h
 refine st_call (foot := []) rfl rfl rfl rfl rfl rfl (callV_fn z_en71 (body_check_ok hr7 σ (hs3.up hle) (hs4.up hle))) ?_
 rintro vτ8 τ8 gsτ8 hl9 ⟨rfl, rfl⟩
 refine Z 2 rfl ?_
 refine st_cond rfl (fun hc => ?_) (fun hc => ?_)
 ·replace h := (if_pos hc).mp h
  refine st_ord [1] _ rfl ?_
  obtain rfl := Eq.symm h
  cases hr0
  exact st_ret (gs' := [g, []]) Tryz.func88 rfl (by simp) hl9 ⟨g, _, rfl, (hIm _ _ _ _ hl9 hIg), rfl⟩
 ·replace h := (if_neg (ne_t hc)).mp h
  refine Z 6 rfl ?_
  refine o_loadI (v := .int .i64 c0.1) rfl rfl rfl z_sc3 rfl (Cel.up hc0_0 (hle.trans hl9)) ?_
  refine o_loadI (v := .int .i64 c1) rfl rfl rfl z_sc3 rfl (Cel.up hc1_0 (hle.trans hl9)) ?_
  obtain ⟨r10, hr11, h⟩ := h
  refine st_call (foot := []) rfl rfl rfl rfl rfl rfl (callV_fn z_en89 (field_All_ok hr11 τ8)) ?_
  rintro vτ12 τ12 gsτ12 hl13 ⟨f14, q15, rfl, rfl, hit16⟩
  refine Z 2 rfl ?_
  obtain ⟨t17, w17, hR17, hA17⟩ := h
  refine st_env (ρ' := [(1, .pointer (some ⟨bc0, 0, none⟩)), (3, .pointer (some ⟨b5, 0, none⟩)), (12, .func (.func f14) #[] q15)]) ⟨rfl, rfl, rfl, trivial⟩ ?_
  refine st_addNil ?_
  refine st_range (B := body_Parts_1_l1 S Y c0) (s0 := s) ranges_fctx rfl hit16 (Sto.Le.refl _) hR17 rfl (fun _ _ _ h => by cases h; rfl) (fun (s17 : S) τ17 gs => τ12.Le τ17 ∧ ∃ (g18 : Grp), gs = [[(b5, .cells #[y] 152 (0, 0))], g18] ∧ I s17 τ17 g18) (fun (p37 : S) cd τ38 gs => cd = .exit 0 ∧ τ12.Le τ38 ∧ ∃ (g40 : Grp), gs = [[(b5, .cells #[y] 152 (0, 0))], g40] ∧ I p37 τ38 g40) (fun _ _ _ _ hl ⟨hb, g18, hg, hI19⟩ => ⟨hb.trans hl, g18, hg, hIm _ _ _ _ hl hI19⟩) (fun _ _ _ _ _ hl ⟨hc, hb, g40, hg, hI41⟩ => ⟨hc, hb.trans hl, g40, hg, hIm _ _ _ _ hl hI41⟩) ⟨Sto.Le.refl _, g, rfl, (hIm _ _ _ _ (hl9.trans hl13) hIg)⟩ ?_ ?_ ?_
  ·rintro x17 s17 o17 τ17 gs17 vx17 hl17 h rfl ⟨hb17, g18, rfl, hI19⟩ l17 rc17 caller17 cs17 fs17
   refine st_region ?_
   refine o_alloc rfl rfl rfl z_zero89 (fun b20 => ?_)
   refine ZZ 2 [0] rfl rfl ?_
   refine st_begin ?_
   refine Z 2 rfl ?_
   obtain ⟨r21, hr22, y27, u28, hy29, h⟩ := h
   refine st_d41 [[(b20, .cells #[.string x17.1, .int .i64 x17.2.1, .int .i64 x17.2.2.1, .int .i64 x17.2.2.2.1, .int .i64 x17.2.2.2.2.1, .int .i64 x17.2.2.2.2.2.1, .int .i64 x17.2.2.2.2.2.2] 89 (0, 0))], [(b5, .cells #[y] 152 (0, 0))]] [g18] 8 1 [none, none, none, none, none, none, some (0, 0), none] [none, none, none, none, none, none, none, none] [[none, some 20]] [.v (y), .v (.pointer (some ⟨b20, 0, none⟩)), .v (.string x17.1), .v (.agg #[.int .i64 c0.1, .int .i64 (c0.2.1.getD 0 0), .int .i64 (c0.2.1.getD 1 0), .int .i64 (c0.2.1.getD 2 0), .int .i64 (c0.2.1.getD 3 0), .int .i64 (c0.2.1.getD 4 0), .int .i64 (c0.2.1.getD 5 0), v1, v2, .string c0.2.2.2.2.1, .string c0.2.2.2.2.2]), .v (.agg #[.string x17.1, .int .i64 x17.2.1, .int .i64 x17.2.2.1, .int .i64 x17.2.2.2.1, .int .i64 x17.2.2.2.2.1, .int .i64 x17.2.2.2.2.2.1, .int .i64 x17.2.2.2.2.2.2]), .t fun τ v => ∃ (v25 : Value), (v25 : Value) = v ∧ Sl (kI .u8) τ v25 r21, .v (.bool y27), .v (.bool (!y27))] [[fun τ u F => F = [g18], fun τ u F => ∃ (g34 : Grp), F = [g34] ∧ I u28 τ g34]] rfl z_mix rfl ⟨fun _ _ _ hl ⟨v25, hv, hs26⟩ => ⟨v25, hv, hs26.up hl⟩, trivial⟩ ⟨⟨fun _ _ _ _ hl h => h, ⟨fun _ _ _ _ hl h => (let ⟨g34, hF, hI35⟩ := h; ⟨g34, hF, hIm _ _ _ _ hl hI35⟩), trivial⟩⟩, trivial⟩ rfl rfl ?_ (allB_cons (allB_cons (allB_cons (allB_cons (allB_cons (allB_cons (allB_cons (allB_cons allB_nil ?_) (p4 dA)) ?_) ?_) ?_) ?_) ?_) (p4 dA)) ?_
   ·exact rfl
   ·intro ρ' τ pool rs hl hd hout hw hk
    refine o_load (j := 1) (v := y) rfl rfl rfl z_sc152 ((hout 3 rfl).trans rfl) rfl rfl ?_
    exact hk _ _ (Sto.Le.refl _) rfl
   ·intro ρ' τ pool rs hl hd hout hw hk
    obtain ⟨_, e1, rfl⟩ := hd 1 rfl _ rfl
    refine o_load (j := 0) (v := .string x17.1) rfl rfl rfl z_sc9 e1 rfl rfl ?_
    exact hk _ _ (Sto.Le.refl _) rfl
   ·intro ρ' τ pool rs hl hd hout hw hk
    refine o_loadIN (vs := [.int .i64 c0.1, .int .i64 (c0.2.1.getD 0 0), .int .i64 (c0.2.1.getD 1 0), .int .i64 (c0.2.1.getD 2 0), .int .i64 (c0.2.1.getD 3 0), .int .i64 (c0.2.1.getD 4 0), .int .i64 (c0.2.1.getD 5 0), v1, v2, .string c0.2.2.2.2.1, .string c0.2.2.2.2.2]) rfl rfl rfl z_agg30 ((hout 1 rfl).trans rfl) rfl (celn_cons (Cel.up hc0_0 ((((hle.trans hl9).trans hl13).trans hl17).trans hl)) (celn_cons (Cel.up hc0_1 ((((hle.trans hl9).trans hl13).trans hl17).trans hl)) (celn_cons (Cel.up hc0_2 ((((hle.trans hl9).trans hl13).trans hl17).trans hl)) (celn_cons (Cel.up hc0_3 ((((hle.trans hl9).trans hl13).trans hl17).trans hl)) (celn_cons (Cel.up hc0_4 ((((hle.trans hl9).trans hl13).trans hl17).trans hl)) (celn_cons (Cel.up hc0_5 ((((hle.trans hl9).trans hl13).trans hl17).trans hl)) (celn_cons (Cel.up hc0_6 ((((hle.trans hl9).trans hl13).trans hl17).trans hl)) (celn_cons (Cel.up hc0_7 ((((hle.trans hl9).trans hl13).trans hl17).trans hl)) (celn_cons (Cel.up hc0_8 ((((hle.trans hl9).trans hl13).trans hl17).trans hl)) (celn_cons (Cel.up hc0_9 ((((hle.trans hl9).trans hl13).trans hl17).trans hl)) (celn_cons (Cel.up hc0_10 ((((hle.trans hl9).trans hl13).trans hl17).trans hl)) celn_nil))))))))))) ?_
    exact hk _ _ (Sto.Le.refl _) rfl
   ·intro ρ' τ pool rs hl hd hout hw hk
    refine o_loadN (j := 0) (vs := [.string x17.1, .int .i64 x17.2.1, .int .i64 x17.2.2.1, .int .i64 x17.2.2.2.1, .int .i64 x17.2.2.2.2.1, .int .i64 x17.2.2.2.2.2.1, .int .i64 x17.2.2.2.2.2.2]) rfl rfl rfl z_agg89 ((hout 4 rfl).trans rfl) rfl rfl ?_
    exact hk _ _ (Sto.Le.refl _) rfl
   ·intro ρ' τ pool rs hl hd hout hw hk
    obtain ⟨_, e3, rfl⟩ := hd 3 rfl _ rfl
    obtain ⟨_, e4, rfl⟩ := hd 4 rfl _ rfl
    refine st_call (foot := []) rfl rfl rfl rfl (evs_cons e3 (evs_cons e4 rfl)) rfl (callV_fn z_en90 (body_part_ok hr22 τ (hs3.up ((((hle.trans hl9).trans hl13).trans hl17).trans hl)) (hs4.up ((((hle.trans hl9).trans hl13).trans hl17).trans hl)))) ?_
    rintro vτ23 τ23 gsτ23 hl24 ⟨v25, rfl, rfl, hs26⟩
    exact hk _ _ hl24 ⟨v25, rfl, hs26⟩
   ·intro ρ' τ u Fv pool rs hl hI hu hd hout hw hk
    obtain ⟨_, e0, rfl⟩ := hd 0 rfl _ rfl
    obtain ⟨_, e2, rfl⟩ := hd 2 rfl _ rfl
    obtain ⟨_, e5, v25, rfl, hs26⟩ := hd 5 rfl _ rfl
    have hI0 := hI
    obtain rfl := hI
    refine st_gs [[(b20, .cells #[.string x17.1, .int .i64 x17.2.1, .int .i64 x17.2.2.1, .int .i64 x17.2.2.2.1, .int .i64 x17.2.2.2.2.1, .int .i64 x17.2.2.2.2.2.1, .int .i64 x17.2.2.2.2.2.2] 89 (0, 0))], [(b5, .cells #[y] 152 (0, 0))], g18, pool] rfl ?_
    refine st_ord [2, 0, 0, 0] _ rfl ?_
    refine st_call (foot := [g18]) rfl rfl rfl e0 (evs_cons e2 (evs_cons e5 rfl)) rfl (hY (x17.1, r21) s17 _ _ _ _ _ (hle.trans (((hl9.trans hl13).trans hl17).trans hl)) hy29 ⟨_, rfl, hs26⟩ (hIm _ _ _ _ hl hI19)) ?_
    rintro vτ30 τ30 gsτ30 hl31 ⟨rfl, g32, rfl, hI33⟩
    refine st_ord [1, 1, 0, 0] _ rfl ?_
    exact hk _ _ [g32] hl31 rfl (by exact ⟨g32, rfl, hI33⟩)
   intro ρ' τ36 vals u Fv hl36 hI hu hv hout
   obtain ⟨g34, rfl, hI35⟩ := hI
   refine st_gs [[(b20, .cells #[.string x17.1, .int .i64 x17.2.1, .int .i64 x17.2.2.1, .int .i64 x17.2.2.2.1, .int .i64 x17.2.2.2.2.1, .int .i64 x17.2.2.2.2.2.1, .int .i64 x17.2.2.2.2.2.2] 89 (0, 0))], [(b5, .cells #[y] 152 (0, 0))], g34] rfl ?_
   refine st_env (ρ' := [(21, .bool (!y27)), (1, .pointer (some ⟨bc0, 0, none⟩)), (3, .pointer (some ⟨b5, 0, none⟩)), (13, .agg #[.string x17.1, .int .i64 x17.2.1, .int .i64 x17.2.2.1, .int .i64 x17.2.2.2.1, .int .i64 x17.2.2.2.2.1, .int .i64 x17.2.2.2.2.2.1, .int .i64 x17.2.2.2.2.2.2]), (4, .pointer (some ⟨b20, 0, none⟩))]) ⟨(lv4 hv 7 rfl rfl rfl), (hout 1 rfl).trans rfl, (hout 3 rfl).trans rfl, (hout 13 rfl).trans rfl, (hout 4 rfl).trans rfl, trivial⟩ ?_
   refine st_end ?_
   refine st_if rfl h (fun h => ?_) (fun h => ?_)
   ·refine st_ord [1, 1] _ rfl ?_
    exact st_rexit rfl (List.Sublist.refl _) hl36 ⟨_, h, rfl, (hl17.trans hl36), g34, rfl, hI35⟩
   ·refine Z 2 rfl ?_
    refine st_ord [1, 1] _ rfl ?_
    exact st_rend (List.Sublist.refl _) hl36 ⟨_, h, (hl17.trans hl36), g34, rfl, hI35⟩
  ·rintro p42 τ43 gs17 f17 ht hl44 ⟨hb, g45, rfl, hI46⟩ rfl
   subst ht
   replace h := hA17
   refine st_ord [1, 1] _ rfl ?_
   refine Z 2 rfl ?_
   refine st_ord [1] _ rfl ?_
   obtain rfl := Eq.symm h
   cases hr0
   exact st_fin (gs' := [g45, []]) Tryz.func88 rfl (by simp) ((hl9.trans hl13).trans hl44) ⟨g45, _, rfl, hI46, rfl⟩
  ·rintro p37 cd17 τ38 gs17 f17 ht hl39 ⟨rfl, hb, g40, rfl, hI41⟩ rfl
   subst ht
   replace h := hA17
   refine st_ord [1, 1] _ rfl ?_
   refine Z 2 rfl ?_
   refine st_ord [1] _ rfl ?_
   obtain rfl := Eq.symm h
   cases hr0
   exact st_fin (gs' := [g40, []]) Tryz.func88 rfl (by simp) ((hl9.trans hl13).trans hl39) ⟨g40, _, rfl, hI41, rfl⟩
theorem body_Parts_ok {a0 : Int × List Int × List (Int × Int) × List Int × ByteArray × ByteArray} {a1 : Int} {v1 : Value} {v2 : Value} {r : (((S : Type) → ((ByteArray × List Int) → S → Bool × S → Prop) → S → S × Unit → Prop))} (h : body_Parts a0 a1 r) (σ : Sto) (hs3 : Sl (kP (kI .i64) (kI .i64)) σ v1 a0.2.2.1) (hs4 : Sl (kI .i64) σ v2 a0.2.2.2.1) :
    Does Tryz.prog 72 [.agg [.int .i64 a0.1, .int .i64 (a0.2.1.getD 0 0), .int .i64 (a0.2.1.getD 1 0), .int .i64 (a0.2.1.getD 2 0), .int .i64 (a0.2.1.getD 3 0), .int .i64 (a0.2.1.getD 4 0), .int .i64 (a0.2.1.getD 5 0), v1, v2, .string a0.2.2.2.2.1, .string a0.2.2.2.2.2].toArray, .int .i64 a1] σ [] (fun v τ gs => ∃ (f13 : Nat) (q14 : Array Value), gs = [] ∧ .func (.func f13) #[] q14 = v ∧ IterV Tryz.prog (fun τ x vx => ∃ (v4 : Value), vx = [.string x.1, v4] ∧ Sl (kI .u8) τ v4 x.2) (.func (.func f13) #[] q14) τ [] (fun (_ : Unit) _ f => f = []) r) := by
 refine call_of Tryz.func72 Tryz.ntmps72 rfl rfl (fun cs fs => ?_)
 refine Z 2 rfl ?_
 refine o_box (cs := [.int .i64 a0.1, .int .i64 (a0.2.1.getD 0 0), .int .i64 (a0.2.1.getD 1 0), .int .i64 (a0.2.1.getD 2 0), .int .i64 (a0.2.1.getD 3 0), .int .i64 (a0.2.1.getD 4 0), .int .i64 (a0.2.1.getD 5 0), v1, v2, .string a0.2.2.2.2.1, .string a0.2.2.2.2.2]) rfl rfl rfl rfl rfl (fun b5 => ?_)
 refine o_boxC rfl rfl rfl rfl rfl rfl (fun b6 => ?_)
 refine Z 4 rfl ?_
 refine st_ord [1, 0] _ rfl ?_
 refine st_freeze (fun τ7 hl8 hg9 => ?_)
 refine st_freeze (fun τ10 hl11 hg12 => ?_)
 refine Z 3 rfl ?_
 obtain rfl := Eq.symm h
 exact st_ret (gs' := []) Tryz.func72 rfl (List.Sublist.refl _) (hl8.trans hl11) ⟨_, _, rfl, rfl, (body_Parts_1_ok (Cel.up (cel_of hg9 rfl) hl11) (Cel.up (cel_of hg9 rfl) hl11) (Cel.up (cel_of hg9 rfl) hl11) (Cel.up (cel_of hg9 rfl) hl11) (Cel.up (cel_of hg9 rfl) hl11) (Cel.up (cel_of hg9 rfl) hl11) (Cel.up (cel_of hg9 rfl) hl11) (Cel.up (cel_of hg9 rfl) hl11) (Cel.up (cel_of hg9 rfl) hl11) (Cel.up (cel_of hg9 rfl) hl11) (Cel.up (cel_of hg9 rfl) hl11) (hs3.up (hl8.trans hl11)) (hs4.up (hl8.trans hl11)) (cel_of hg12 rfl))⟩
theorem body_Encode_ok {a0 : Int × List Int × List (Int × Int) × List Int × ByteArray × ByteArray} {a1 : Int} {v1 : Value} {v2 : Value} {r : List Int × Int} (h : body_Encode a0 a1 r) (σ : Sto) (hs3 : Sl (kP (kI .i64) (kI .i64)) σ v1 a0.2.2.1) (hs4 : Sl (kI .i64) σ v2 a0.2.2.2.1) :
    Does Tryz.prog 53 [.agg [.int .i64 a0.1, .int .i64 (a0.2.1.getD 0 0), .int .i64 (a0.2.1.getD 1 0), .int .i64 (a0.2.1.getD 2 0), .int .i64 (a0.2.1.getD 3 0), .int .i64 (a0.2.1.getD 4 0), .int .i64 (a0.2.1.getD 5 0), v1, v2, .string a0.2.2.2.2.1, .string a0.2.2.2.2.2].toArray, .int .i64 a1] σ [] (fun v τ gs => ∃ (v41 : Value), gs = [] ∧ .tuple [v41, .int .i64 r.2].toArray = v ∧ Sl (kI .u8) τ v41 r.1) := by
 refine call_of Tryz.func53 Tryz.ntmps53 rfl rfl (fun cs fs => ?_)
 refine Z 2 rfl ?_
 refine o_box (cs := [.int .i64 a0.1, .int .i64 (a0.2.1.getD 0 0), .int .i64 (a0.2.1.getD 1 0), .int .i64 (a0.2.1.getD 2 0), .int .i64 (a0.2.1.getD 3 0), .int .i64 (a0.2.1.getD 4 0), .int .i64 (a0.2.1.getD 5 0), v1, v2, .string a0.2.2.2.2.1, .string a0.2.2.2.2.2]) rfl rfl rfl rfl rfl (fun b5 => ?_)
 refine ZZ 8 [0] rfl rfl ?_
 obtain ⟨r6, hr7, h⟩ := h
 refine st_call (foot := []) rfl rfl rfl rfl rfl rfl (callV_fn z_en71 (body_check_ok hr7 σ hs3 hs4)) ?_
 rintro vτ8 τ8 gsτ8 hl9 ⟨rfl, rfl⟩
 refine Z 7 rfl ?_
 refine st_if rfl h (fun h => ?_) (fun h => ?_)
 ·refine Z 6 rfl ?_
  refine st_ord [] _ rfl ?_
  obtain rfl := Eq.symm h
  exact st_ret (gs' := []) Tryz.func53 rfl (List.Sublist.refl _) hl9 ⟨_, rfl, rfl, Sl.nil⟩
 ·refine Z 3 rfl ?_
  refine o_alloc rfl rfl rfl z_zero42 (fun b10 => ?_)
  refine ZZ 6 [1] rfl rfl ?_
  obtain ⟨r11, hr12, h⟩ := h
  refine st_call (foot := []) rfl rfl rfl rfl rfl rfl (callV_fn z_en72 (body_Parts_ok hr12 τ8 (hs3.up hl9) (hs4.up hl9))) ?_
  rintro vτ13 τ13 gsτ13 hl14 ⟨f15, q16, rfl, rfl, hit17⟩
  refine Z 2 rfl ?_
  obtain ⟨t18, w18, hR18, hA18⟩ := h
  refine st_env (ρ' := [(4, .slice none 0 0), (5, .int .i64 0), (7, .pointer (some ⟨b10, 0, none⟩)), (18, .func (.func f15) #[] q16)]) ⟨rfl, rfl, rfl, rfl, trivial⟩ ?_
  refine st_addNil ?_
  refine st_ord [1, 0] _ rfl ?_
  refine st_addNil ?_
  refine st_range (B := body_Encode_l1) (s0 := []) ranges_fctx rfl hit17 (Sto.Le.refl _) hR18 rfl (fun _ _ _ h => by obtain ⟨_, rfl, _⟩ := h; rfl) (fun (s18 : List Int) τ18 gs => τ13.Le τ18 ∧ ∃ (v19 : Value) (g20 : Grp), gs = [[(b10, .cells #[v19] 42 (0, 0))], g20] ∧ Ow (kI .u8) 5 τ18 v19 s18 g20) (fun _ _ _ _ => False) (fun _ _ _ _ hl ⟨hb, v19, g20, hg, ho21⟩ => ⟨hb.trans hl, v19, g20, hg, ho21.up hl⟩) (fun _ _ _ _ _ _ h => h.elim) ⟨Sto.Le.refl _, _, _, rfl, Ow.nil⟩ ?_ ?_ ?_
  ·rintro x18 s18 o18 τ18 gs18 vx18 hl18 h ⟨v22, rfl, hs23⟩ ⟨hb18, v19, g20, rfl, ho21⟩ l18 rc18 caller18 cs18 fs18
   refine Z 3 rfl ?_
   refine st_begin ?_
   refine ZZ 4 [0] rfl rfl ?_
   obtain ⟨hf27, hf28, h⟩ := h
   refine st_ord [1, 0] _ rfl ?_
   refine o_append (dk := (kI .u8)) (xs := s18) (ys := x18.2) rfl rfl rfl rfl z_slT42 rfl ho21 rfl (Sl.src hs23) hf27 hf28 (fun v24 g25 ho26 => ?_)
   refine o_store (j := 1) (vs := [v24]) (cs' := [v24]) rfl rfl rfl z_size42 rfl rfl (oneL_ow ho26) (ones_cons ho26.one' ones_nil) rfl rfl rfl ?_
   refine st_gs [g25, [(b10, .cells #[v24] 42 (0, 0))]] rfl ?_
   refine Z 2 rfl ?_
   refine st_ord [1, 0] _ rfl ?_
   exact st_rend (List.Sublist.refl _) (Sto.Le.refl _) ⟨_, h, hl18, _, _, rfl, ho26⟩
  ·rintro p29 τ30 gs18 f18 ht hl31 ⟨hb, v32, g33, rfl, ho34⟩ rfl
   subst ht
   replace h := hA18
   refine st_ord [1, 1] _ rfl ?_
   refine ZZ 7 [0] rfl rfl ?_
   refine st_ord [1, 0] _ rfl ?_
   refine st_freeze (fun τ35 hl36 hg37 => ?_)
   have hs38 := ho34.freeze hl36 hg37
   refine st_ord [] _ rfl ?_
   obtain rfl := Eq.symm h
   exact st_ret (gs' := []) Tryz.func53 rfl (List.Sublist.refl _) (((hl9.trans hl14).trans hl31).trans hl36) ⟨_, rfl, rfl, hs38⟩
  ·exact fun _ _ _ _ _ _ _ h => h.elim
theorem log_one_ok {a0 : Int × Int × Int × Int × (Int × List Int × List (Int × Int) × List Int × ByteArray × ByteArray)} {v1 : Value} {v2 : Value} {r : List Int × Int} (h : log_one a0 r) (σ : Sto) (hs3 : Sl (kP (kI .i64) (kI .i64)) σ v1 a0.2.2.2.2.2.2.1) (hs4 : Sl (kI .i64) σ v2 a0.2.2.2.2.2.2.2.1) :
    Does Tryz.prog 27 [.agg [.int .i64 a0.1, .int .u32 a0.2.1, .int .i64 a0.2.2.1, .int .i64 a0.2.2.2.1, .int .i64 a0.2.2.2.2.1, .int .i64 (a0.2.2.2.2.2.1.getD 0 0), .int .i64 (a0.2.2.2.2.2.1.getD 1 0), .int .i64 (a0.2.2.2.2.2.1.getD 2 0), .int .i64 (a0.2.2.2.2.2.1.getD 3 0), .int .i64 (a0.2.2.2.2.2.1.getD 4 0), .int .i64 (a0.2.2.2.2.2.1.getD 5 0), v1, v2, .string a0.2.2.2.2.2.2.2.2.1, .string a0.2.2.2.2.2.2.2.2.2].toArray] σ [] (fun v τ gs => ∃ (v97 : Value), gs = [] ∧ .tuple [v97, .int .i64 r.2].toArray = v ∧ Sl (kI .u8) τ v97 r.1) := by
 refine call_of Tryz.func27 Tryz.ntmps27 rfl rfl (fun cs fs => ?_)
 refine Z 2 rfl ?_
 refine o_box (cs := [.int .i64 a0.1, .int .u32 a0.2.1, .int .i64 a0.2.2.1, .int .i64 a0.2.2.2.1, .int .i64 a0.2.2.2.2.1, .int .i64 (a0.2.2.2.2.2.1.getD 0 0), .int .i64 (a0.2.2.2.2.2.1.getD 1 0), .int .i64 (a0.2.2.2.2.2.1.getD 2 0), .int .i64 (a0.2.2.2.2.2.1.getD 3 0), .int .i64 (a0.2.2.2.2.2.1.getD 4 0), .int .i64 (a0.2.2.2.2.2.1.getD 5 0), v1, v2, .string a0.2.2.2.2.2.2.2.2.1, .string a0.2.2.2.2.2.2.2.2.2]) rfl rfl rfl rfl rfl (fun b5 => ?_)
 refine ZZ 7 [0] rfl rfl ?_
 obtain ⟨r6, hr7, h⟩ := h
 refine st_call (foot := []) rfl rfl rfl rfl rfl rfl (callV_fn z_en7 (log_Check_ok hr7 σ hs3 hs4)) ?_
 rintro vτ8 τ8 gsτ8 hl9 ⟨rfl, rfl⟩
 refine Z 7 rfl ?_
 refine st_if rfl h (fun h => ?_) (fun h => ?_)
 ·refine Z 6 rfl ?_
  refine st_ord [] _ rfl ?_
  obtain rfl := Eq.symm h
  exact st_ret (gs' := []) Tryz.func27 rfl (List.Sublist.refl _) hl9 ⟨_, rfl, rfl, Sl.nil⟩
 ·refine Z 3 rfl ?_
  obtain ⟨r10, hr11, h⟩ := h
  refine st_call (foot := []) rfl rfl rfl rfl rfl rfl (callV_fn z_en50 (pen_New_ok hr11 τ8)) ?_
  rintro vτ12 τ12 gsτ12 hl13 ⟨b14, v15, g16, rfl, rfl, ho17⟩
  refine ZZ 8 [2] rfl rfl ?_
  obtain ⟨r18, hr19, h⟩ := h
  refine st_call (foot := [[(b14, .cells #[v15, .int .i64 r10.2.1, .bool r10.2.2] 129 (0, 0))], g16]) rfl rfl rfl rfl rfl rfl (callV_fn z_en51 (pen_Pen_U8_ok hr19 τ12 ho17)) ?_
  rintro vτ20 τ20 gsτ20 hl21 ⟨v22, g23, rfl, rfl, ho24⟩
  refine ZZ 6 [2] rfl rfl ?_
  obtain ⟨r25, hr26, h⟩ := h
  refine st_call (foot := [[(b14, .cells #[v22, .int .i64 r18.2.2.1, .bool r18.2.2.2] 129 (0, 0))], g23]) rfl rfl rfl rfl rfl rfl (callV_fn z_en52 (pen_Pen_U32_ok hr26 τ20 ho24)) ?_
  rintro vτ27 τ27 gsτ27 hl28 ⟨v29, g30, rfl, rfl, ho31⟩
  refine Z 2 rfl ?_
  refine st_cut (fun ρ τ32 gs => ∃ (s32 : List Int × Int × Bool) (v33 : Value) (g34 : Grp), log_one_j1 s32 r ∧ τ27.Le τ32 ∧ ESub ρ [(2, .slice none 0 0), (3, .int .i64 0), (5, .pointer (some ⟨b14, 0, none⟩))] ∧ gs = [[(b14, .cells #[v33, .int .i64 s32.2.1, .bool s32.2.2] 129 (0, 0))], g34] ∧ Ow (kI .u8) 5 τ32 v33 s32.1 g34) ?_ (fun hk32 => ?_)
  ·rintro ρ32 τ32 gs32 ⟨s32, v33, g34, h, hl32, hρ, rfl, ho35⟩
   refine st_es hρ ?_
   refine Z 2 rfl ?_
   obtain ⟨r36, hr37, h⟩ := h
   refine st_call (foot := []) rfl rfl rfl rfl rfl rfl (callV_fn z_en50 (pen_New_ok hr37 τ32)) ?_
   rintro vτ38 τ38 gsτ38 hl39 ⟨b40, v41, g42, rfl, rfl, ho43⟩
   refine Z 6 rfl ?_
   obtain ⟨r44, hr45, h⟩ := h
   refine st_ord [2, 2, 0, 0] _ rfl ?_
   refine st_call (foot := [[(b14, .cells #[v33, .int .i64 s32.2.1, .bool s32.2.2] 129 (0, 0))], g34]) rfl rfl rfl rfl rfl rfl (callV_fn z_en56 (pen_Pen_Bytes_ok hr45 τ38 (ho35.up hl39))) ?_
   rintro vτ46 τ46 gsτ46 hl47 ⟨v48, rfl, rfl, hs49⟩
   obtain ⟨r50, hr51, h⟩ := h
   refine st_ord [2, 2, 0, 0] _ rfl ?_
   refine st_call (foot := [[(b40, .cells #[v41, .int .i64 r36.2.1, .bool r36.2.2] 129 (0, 0))], g42]) rfl rfl rfl rfl rfl rfl (callV_fn z_en55 (pen_Pen_Field_ok hr51 τ46 (ho43.up hl47) hs49)) ?_
   rintro vτ52 τ52 gsτ52 hl53 ⟨v54, g55, rfl, rfl, ho56⟩
   refine Z 5 rfl ?_
   obtain ⟨r57, hr58, h⟩ := h
   refine st_call (foot := [[(b40, .cells #[v54, .int .i64 r50.2.2.1, .bool r50.2.2.2] 129 (0, 0))], g55]) rfl rfl rfl rfl rfl rfl (callV_fn z_en56 (pen_Pen_Bytes_ok hr58 τ52 ho56)) ?_
   rintro vτ59 τ59 gsτ59 hl60 ⟨v61, rfl, rfl, hs62⟩
   refine Z 4 rfl ?_
   refine st_ord [] _ rfl ?_
   obtain rfl := Eq.symm h
   exact st_ret (gs' := []) Tryz.func27 rfl (List.Sublist.refl _) ((((((((hl9.trans hl13).trans hl21).trans hl28).trans hl32).trans hl39).trans hl47).trans hl53).trans hl60) ⟨_, rfl, rfl, hs62⟩
  refine ZZ 11 [2] rfl rfl ?_
  refine st_if rfl h (fun h => ?_) (fun h => ?_)
  ·refine ZZ 4 [2] rfl rfl ?_
   obtain ⟨r63, hr64, h⟩ := h
   refine st_call (foot := []) rfl rfl rfl rfl rfl rfl (callV_fn z_en53 (body_Encode_ok hr64 τ27 (hs3.up (((hl9.trans hl13).trans hl21).trans hl28)) (hs4.up (((hl9.trans hl13).trans hl21).trans hl28)))) ?_
   rintro vτ65 τ65 gsτ65 hl66 ⟨v67, rfl, rfl, hs68⟩
   refine Z 12 rfl ?_
   refine st_if rfl h (fun h => ?_) (fun h => ?_)
   ·refine Z 6 rfl ?_
    refine st_ord [] _ rfl ?_
    obtain rfl := Eq.symm h
    exact st_ret (gs' := []) Tryz.func27 rfl (List.Sublist.refl _) ((((hl9.trans hl13).trans hl21).trans hl28).trans hl66) ⟨_, rfl, rfl, Sl.nil⟩
   ·refine ZZ 7 [2] rfl rfl ?_
    obtain ⟨r69, hr70, h⟩ := h
    refine st_call (foot := [[(b14, .cells #[v29, .int .i64 r25.2.2.1, .bool r25.2.2.2] 129 (0, 0))], g30]) rfl rfl rfl rfl rfl rfl (callV_fn z_en51 (pen_Pen_U8_ok hr70 τ65 (ho31.up hl66))) ?_
    rintro vτ71 τ71 gsτ71 hl72 ⟨v73, g74, rfl, rfl, ho75⟩
    refine ZZ 8 [2] rfl rfl ?_
    obtain ⟨r76, hr77, h⟩ := h
    refine st_call (foot := [[(b14, .cells #[v73, .int .i64 r69.2.2.1, .bool r69.2.2.2] 129 (0, 0))], g74]) rfl rfl rfl rfl rfl rfl (callV_fn z_en51 (pen_Pen_U8_ok hr77 τ71 ho75)) ?_
    rintro vτ78 τ78 gsτ78 hl79 ⟨v80, g81, rfl, rfl, ho82⟩
    refine Z 4 rfl ?_
    obtain ⟨r83, hr84, h⟩ := h
    refine st_call (foot := [[(b14, .cells #[v80, .int .i64 r76.2.2.1, .bool r76.2.2.2] 129 (0, 0))], g81]) rfl rfl rfl rfl rfl rfl (callV_fn z_en54 (pen_Pen_Raw_ok hr84 τ78 ho82 (hs68.up (hl72.trans hl79)))) ?_
    rintro vτ85 τ85 gsτ85 hl86 ⟨v87, g88, rfl, rfl, ho89⟩
    refine Z 2 rfl ?_
    refine st_ord [0, 0] _ rfl ?_
    exact hk32 _ _ _ ⟨(r83.2.1, r83.2.2.1, r83.2.2.2), _, _, h, (((hl66.trans hl72).trans hl79).trans hl86), rfl, rfl, ho89⟩
  ·refine Z 5 rfl ?_
   refine st_if rfl h (fun h => ?_) (fun h => ?_)
   ·refine ZZ 5 [2] rfl rfl ?_
    obtain ⟨r90, hr91, h⟩ := h
    refine st_call (foot := [[(b14, .cells #[v29, .int .i64 r25.2.2.1, .bool r25.2.2.2] 129 (0, 0))], g30]) rfl rfl rfl rfl rfl rfl (callV_fn z_en51 (pen_Pen_U8_ok hr91 τ27 ho31)) ?_
    rintro vτ92 τ92 gsτ92 hl93 ⟨v94, g95, rfl, rfl, ho96⟩
    refine Z 2 rfl ?_
    refine st_ord [0, 0] _ rfl ?_
    exact hk32 _ _ _ ⟨(r90.2.1, r90.2.2.1, r90.2.2.2), _, _, h, hl93, rfl, rfl, ho96⟩
   ·refine Z 2 rfl ?_
    refine st_ord [0, 0] _ rfl ?_
    exact hk32 _ _ _ ⟨(r25.2.1, r25.2.2.1, r25.2.2.2), _, _, h, (Sto.Le.refl _), rfl, rfl, ho31⟩
theorem log_Bytes_ok {a0 : List (Int × Int × Int × Int × (Int × List Int × List (Int × Int) × List Int × ByteArray × ByteArray))} {v1 : Value} {r : List Int × Int} (h : log_Bytes a0 r) (σ : Sto) (hs2 : Sl (kP (kI .i64) (kP (kI .u32) (kP (kI .i64) (kP (kI .i64) (kP (kI .i64) (kP (kA .i64 6) (kP (kSl (kP (kI .i64) (kI .i64))) (kP (kSl (kI .i64)) (kP kS kS))))))))) σ v1 a0) :
    Does Tryz.prog 9 [v1] σ [] (fun v τ gs => ∃ (v40 : Value), gs = [] ∧ .tuple [v40, .int .i64 r.2].toArray = v ∧ Sl (kI .u8) τ v40 r.1) := by
 refine call_of Tryz.func9 Tryz.ntmps9 rfl rfl (fun cs fs => ?_)
 refine Z 10 rfl ?_
 refine st_cut (fun ρ τ3 gs => ∃ (s3 : List Int) (v4 : Value) (g5 : Grp), log_Bytes_j1 s3 r ∧ σ.Le τ3 ∧ ESub ρ [(2, .slice none 0 0), (3, .int .i64 0), (4, v4)] ∧ gs = [g5] ∧ Ow (kI .u8) 5 τ3 v4 s3 g5) ?_ (fun hk3 => ?_)
 ·rintro ρ3 τ3 gs3 ⟨s3, v4, g5, h, hl3, hρ, rfl, ho6⟩
  refine st_es hρ ?_
  refine Z 6 rfl ?_
  refine st_freeze (fun τ7 hl8 hg9 => ?_)
  have hs10 := ho6.freeze hl8 hg9
  obtain rfl := Eq.symm h
  exact st_ret (gs' := []) Tryz.func9 rfl (List.Sublist.refl _) (hl3.trans hl8) ⟨_, rfl, rfl, hs10⟩
 refine Z 3 rfl ?_
 refine o_lenI rfl rfl rfl z_slT22 rfl hs2 ?_
 refine Z 2 rfl ?_
 obtain ⟨e13, hL13, hA13⟩ := h
 refine st_addNil ?_
 refine st_loop hL13 (fun (s13 : List Int × Int) ρ τ13 gs => σ.Le τ13 ∧ ∃ (v14 : Value) (g15 : Grp), ESub ρ [(2, .slice none 0 0), (3, .int .i64 0), (4, v14), (9, v1), (10, .int .i64 (a0.length : Int)), (11, .int .i64 s13.2)] ∧ gs = [g15] ∧ Ow (kI .u8) 5 τ13 v14 s13.1 g15) ⟨Sto.Le.refl _, _, _, rfl, rfl, Ow.nil⟩ ?_
 rintro s13 o13 h he13 ρ13 τ13 gs13 ⟨hl13, v14, g15, hρ, rfl, ho16⟩ hn13
 refine st_es hρ ?_
 refine Z 5 rfl ?_
 refine st_if rfl h (fun h => ?_) (fun h => ?_)
 ·refine Z 5 rfl ?_
  obtain ⟨q17, hf18, h⟩ := h
  refine o_index rfl rfl rfl z_slT22 rfl rfl (hs2.up hl13) rfl hf18 (fun b19 of20 vs hc23 hrep => ?_)
  obtain ⟨_, _, rfl, rfl, ⟨_, _, rfl, rfl, ⟨_, _, rfl, rfl, ⟨_, _, rfl, rfl, ⟨_, _, rfl, rfl, ⟨_, _, rfl, rfl, ⟨_, _, rfl, ⟨v21, rfl, hs24⟩, ⟨_, _, rfl, ⟨v22, rfl, hs25⟩, ⟨_, _, rfl, rfl, rfl⟩⟩⟩⟩⟩⟩⟩⟩⟩ := hrep
  refine o_loadIN (vs := [.int .i64 q17.1, .int .u32 q17.2.1, .int .i64 q17.2.2.1, .int .i64 q17.2.2.2.1, .int .i64 q17.2.2.2.2.1, .int .i64 (q17.2.2.2.2.2.1.getD 0 0), .int .i64 (q17.2.2.2.2.2.1.getD 1 0), .int .i64 (q17.2.2.2.2.2.1.getD 2 0), .int .i64 (q17.2.2.2.2.2.1.getD 3 0), .int .i64 (q17.2.2.2.2.2.1.getD 4 0), .int .i64 (q17.2.2.2.2.2.1.getD 5 0), v21, v22, .string q17.2.2.2.2.2.2.2.2.1, .string q17.2.2.2.2.2.2.2.2.2]) rfl rfl rfl z_agg32 rfl rfl (celn_part 0 rfl hc23) ?_
  refine o_alloc rfl rfl rfl z_zero32 (fun b26 => ?_)
  refine o_store (j := 0) (vs := [.int .i64 q17.1, .int .u32 q17.2.1, .int .i64 q17.2.2.1, .int .i64 q17.2.2.2.1, .int .i64 q17.2.2.2.2.1, .int .i64 (q17.2.2.2.2.2.1.getD 0 0), .int .i64 (q17.2.2.2.2.2.1.getD 1 0), .int .i64 (q17.2.2.2.2.2.1.getD 2 0), .int .i64 (q17.2.2.2.2.2.1.getD 3 0), .int .i64 (q17.2.2.2.2.2.1.getD 4 0), .int .i64 (q17.2.2.2.2.2.1.getD 5 0), v21, v22, .string q17.2.2.2.2.2.2.2.2.1, .string q17.2.2.2.2.2.2.2.2.2]) (cs' := [.int .i64 q17.1, .int .u32 q17.2.1, .int .i64 q17.2.2.1, .int .i64 q17.2.2.2.1, .int .i64 q17.2.2.2.2.1, .int .i64 (q17.2.2.2.2.2.1.getD 0 0), .int .i64 (q17.2.2.2.2.2.1.getD 1 0), .int .i64 (q17.2.2.2.2.2.1.getD 2 0), .int .i64 (q17.2.2.2.2.2.1.getD 3 0), .int .i64 (q17.2.2.2.2.2.1.getD 4 0), .int .i64 (q17.2.2.2.2.2.1.getD 5 0), v21, v22, .string q17.2.2.2.2.2.2.2.2.1, .string q17.2.2.2.2.2.2.2.2.2]) rfl rfl rfl z_size32 rfl rfl rfl (ones_cons rfl (ones_cons rfl (ones_cons rfl (ones_cons rfl (ones_cons rfl (ones_cons rfl (ones_cons rfl (ones_cons rfl (ones_cons rfl (ones_cons rfl (ones_cons rfl (ones_cons hs24.one' (ones_cons hs25.one' (ones_cons rfl (ones_cons rfl ones_nil))))))))))))))) rfl rfl rfl ?_
  refine st_gs [[(b26, .cells #[.int .i64 q17.1, .int .u32 q17.2.1, .int .i64 q17.2.2.1, .int .i64 q17.2.2.2.1, .int .i64 q17.2.2.2.2.1, .int .i64 (q17.2.2.2.2.2.1.getD 0 0), .int .i64 (q17.2.2.2.2.2.1.getD 1 0), .int .i64 (q17.2.2.2.2.2.1.getD 2 0), .int .i64 (q17.2.2.2.2.2.1.getD 3 0), .int .i64 (q17.2.2.2.2.2.1.getD 4 0), .int .i64 (q17.2.2.2.2.2.1.getD 5 0), v21, v22, .string q17.2.2.2.2.2.2.2.2.1, .string q17.2.2.2.2.2.2.2.2.2] 32 (0, 0))], g15] rfl ?_
  refine ZZ 4 [0] rfl rfl ?_
  obtain ⟨r27, hr28, h⟩ := h
  refine st_call (foot := []) rfl rfl rfl rfl rfl rfl (callV_fn z_en27 (log_one_ok hr28 τ13 hs24 hs25)) ?_
  rintro vτ29 τ29 gsτ29 hl30 ⟨v31, rfl, rfl, hs32⟩
  refine Z 12 rfl ?_
  refine st_if rfl h (fun h => ?_) (fun h => ?_)
  ·refine Z 6 rfl ?_
   refine st_ord [] _ rfl ?_
   obtain rfl := he13 _ h
   replace h := hA13
   obtain rfl := Eq.symm h
   exact st_ret (gs' := []) Tryz.func9 rfl (List.Sublist.refl _) (hl13.trans hl30) ⟨_, rfl, rfl, Sl.nil⟩
  ·refine Z 4 rfl ?_
   obtain ⟨hf36, hf37, h⟩ := h
   refine st_ord [1, 0] _ rfl ?_
   refine o_append (dk := (kI .u8)) (xs := s13.1) (ys := r27.1) rfl rfl rfl rfl z_slT42 rfl (ho16.up hl30) rfl (Sl.src hs32) hf36 hf37 (fun v33 g34 ho35 => ?_)
   refine Z 7 rfl ?_
   refine st_ord [0] _ rfl ?_
   exact hn13 _ _ _ _ h ⟨(hl13.trans hl30), _, _, rfl, rfl, ho35⟩
 ·refine st_exit rfl ?_
  obtain rfl := he13 _ h
  replace h := hA13
  exact hk3 _ _ _ ⟨s13.1, _, _, h, hl13, rfl, rfl, ho16⟩
theorem ref02_Word_ok {a0 : Int} {a1 : Int} {r : List Int} (h : ref02_Word a0 a1 r) (σ : Sto)  :
    Does Tryz.prog 28 [.int .u32 a0, .int .i64 a1] σ [] (fun v τ gs => ∃ (v24 : Value), gs = [] ∧ v24 = v ∧ Sl (kI .u8) τ v24 r) := by
 refine call_of Tryz.func28 Tryz.ntmps28 rfl rfl (fun cs fs => ?_)
 refine Z 9 rfl ?_
 refine st_cut (fun ρ τ1 gs => ∃ (s1 : List Int) (v2 : Value) (g3 : Grp), ref02_Word_j1 s1 r ∧ σ.Le τ1 ∧ ESub ρ [(4, .slice none 0 0), (5, v2)] ∧ gs = [g3] ∧ Ow (kI .u8) 5 τ1 v2 s1 g3) ?_ (fun hk1 => ?_)
 ·rintro ρ1 τ1 gs1 ⟨s1, v2, g3, h, hl1, hρ, rfl, ho4⟩
  refine st_es hρ ?_
  refine Z 5 rfl ?_
  refine st_freeze (fun τ5 hl6 hg7 => ?_)
  have hs8 := ho4.freeze hl6 hg7
  obtain rfl := Eq.symm h
  exact st_ret (gs' := []) Tryz.func28 rfl (List.Sublist.refl _) (hl1.trans hl6) ⟨_, rfl, rfl, hs8⟩
 refine Z 4 rfl ?_
 obtain ⟨e11, hL11, hA11⟩ := h
 refine st_addNil ?_
 refine st_loop hL11 (fun (s11 : Int × List Int × Int) ρ τ11 gs => σ.Le τ11 ∧ ∃ (v12 : Value) (g13 : Grp), ESub ρ [(0, .int .u32 s11.1), (1, .int .i64 a1), (4, .slice none 0 0), (5, v12), (6, .int .i64 s11.2.2)] ∧ gs = [g13] ∧ Ow (kI .u8) 5 τ11 v12 s11.2.1 g13) ⟨Sto.Le.refl _, _, _, rfl, rfl, Ow.nil⟩ ?_
 rintro s11 o11 h he11 ρ11 τ11 gs11 ⟨hl11, v12, g13, hρ, rfl, ho14⟩ hn11
 refine st_es hρ ?_
 refine Z 7 rfl ?_
 refine st_if rfl h (fun h => ?_) (fun h => ?_)
 ·refine Z 9 rfl ?_
  refine o_litE (eI .u8) [(IntKind.u8.wrap (s11.1.tmod 256))] rfl rfl rfl z_slT42 z_zero5 ⟨rfl, ⟨_, rfl, rfl⟩, trivial⟩ rfl rfl rfl rfl (fun v15 g16 ho17 => ?_)
  obtain ⟨hf21, hf22, h⟩ := h
  refine st_ord [1, 0] _ rfl ?_
  refine o_append (dk := (kI .u8)) (xs := s11.2.1) (ys := [(IntKind.u8.wrap (s11.1.tmod 256))]) rfl rfl rfl rfl z_slT42 rfl ho14 rfl (Ow.src (j := 1) ho17 rfl) hf21 hf22 (fun v18 g19 ho20 => ?_)
  refine Z 13 rfl ?_
  refine st_ord [0] _ rfl ?_
  exact hn11 _ _ _ _ h ⟨hl11, _, _, rfl, rfl, ho20⟩
 ·refine st_exit rfl ?_
  obtain rfl := he11 _ h
  replace h := hA11
  exact hk1 _ _ _ ⟨s11.2.1, _, _, h, hl11, rfl, rfl, ho14⟩
theorem ref01_Put_ok {a0 : List Int} {v1 : Value} {r : List Int} (h : ref01_Put a0 r) (σ : Sto) (hs2 : Sl (kI .u64) σ v1 a0) :
    Does Tryz.prog 58 [v1] σ [] (fun v τ gs => ∃ (v48 : Value), gs = [] ∧ v48 = v ∧ Sl (kI .u8) τ v48 r) := by
 refine call_of Tryz.func58 Tryz.ntmps58 rfl rfl (fun cs fs => ?_)
 refine Z 9 rfl ?_
 refine st_cut (fun ρ τ3 gs => ∃ (s3 : List Int) (v4 : Value) (g5 : Grp), ref01_Put_j1 s3 r ∧ σ.Le τ3 ∧ ESub ρ [(2, .slice none 0 0), (3, v4)] ∧ gs = [g5] ∧ Ow (kI .u8) 5 τ3 v4 s3 g5) ?_ (fun hk3 => ?_)
 ·rintro ρ3 τ3 gs3 ⟨s3, v4, g5, h, hl3, hρ, rfl, ho6⟩
  refine st_es hρ ?_
  refine Z 5 rfl ?_
  refine st_freeze (fun τ7 hl8 hg9 => ?_)
  have hs10 := ho6.freeze hl8 hg9
  obtain rfl := Eq.symm h
  exact st_ret (gs' := []) Tryz.func58 rfl (List.Sublist.refl _) (hl3.trans hl8) ⟨_, rfl, rfl, hs10⟩
 refine Z 4 rfl ?_
 obtain ⟨e13, hL13, hA13⟩ := h
 refine st_addNil ?_
 refine st_loop hL13 (fun (s13 : List Int × Int) ρ τ13 gs => σ.Le τ13 ∧ ∃ (v14 : Value) (g15 : Grp), ESub ρ [(0, v1), (2, .slice none 0 0), (3, v14), (4, .int .i64 s13.2)] ∧ gs = [g15] ∧ Ow (kI .u8) 5 τ13 v14 s13.1 g15) ⟨Sto.Le.refl _, _, _, rfl, rfl, Ow.nil⟩ ?_
 rintro s13 o13 h he13 ρ13 τ13 gs13 ⟨hl13, v14, g15, hρ, rfl, ho16⟩ hn13
 refine st_es hρ ?_
 refine Z 5 rfl ?_
 refine o_lenI rfl rfl rfl z_slT112 rfl (hs2.up hl13) ?_
 refine Z 2 rfl ?_
 refine st_if rfl h (fun h => ?_) (fun h => ?_)
 ·refine Z 7 rfl ?_
  obtain ⟨q17, hf18, h⟩ := h
  refine o_index rfl rfl rfl z_slT112 rfl rfl (hs2.up hl13) rfl hf18 (fun b19 of20 vs hc21 hrep => ?_)
  obtain rfl := hrep
  refine o_loadI (v := .int .u64 q17) rfl rfl rfl z_sc77 rfl (hc21 0 _ rfl) ?_
  refine Z 3 rfl ?_
  refine st_cut (fun ρ τ22 gs => ∃ (s22 : List Int × Int) (v23 : Value) (g24 : Grp), ref01_Put_j3 s13 s22 o13 ∧ τ13.Le τ22 ∧ ESub ρ [(0, v1), (2, .slice none 0 0), (3, v23), (4, .int .i64 s13.2), (5, .int .u64 s22.2)] ∧ gs = [g24] ∧ Ow (kI .u8) 5 τ22 v23 s22.1 g24) ?_ (fun hk22 => ?_)
  ·rintro ρ22 τ22 gs22 ⟨s22, v23, g24, h, hl22, hρ, rfl, ho25⟩
   refine st_es hρ ?_
   refine Z 4 rfl ?_
   refine o_litE (eI .u8) [(IntKind.u8.wrap s22.2)] rfl rfl rfl z_slT42 z_zero5 ⟨rfl, ⟨_, rfl, rfl⟩, trivial⟩ rfl rfl rfl rfl (fun v26 g27 ho28 => ?_)
   obtain ⟨hf32, hf33, h⟩ := h
   refine st_ord [1, 0] _ rfl ?_
   refine o_append (dk := (kI .u8)) (xs := s22.1) (ys := [(IntKind.u8.wrap s22.2)]) rfl rfl rfl rfl z_slT42 rfl ho25 rfl (Ow.src (j := 1) ho28 rfl) hf32 hf33 (fun v29 g30 ho31 => ?_)
   refine Z 8 rfl ?_
   refine st_ord [0] _ rfl ?_
   exact hn13 _ _ _ _ h ⟨(hl13.trans hl22), _, _, rfl, rfl, ho31⟩
  obtain ⟨e34, hL34, hA34⟩ := h
  refine st_loop hL34 (fun (s34 : List Int × Int) ρ τ34 gs => τ13.Le τ34 ∧ ∃ (v35 : Value) (g36 : Grp), ESub ρ [(0, v1), (2, .slice none 0 0), (3, v35), (4, .int .i64 s13.2), (5, .int .u64 s34.2)] ∧ gs = [g36] ∧ Ow (kI .u8) 5 τ34 v35 s34.1 g36) ⟨Sto.Le.refl _, _, _, rfl, rfl, ho16⟩ ?_
  rintro s34 o34 h he34 ρ34 τ34 gs34 ⟨hl34, v35, g36, hρ, rfl, ho37⟩ hn34
  refine st_es hρ ?_
  refine Z 6 rfl ?_
  refine st_if rfl h (fun h => ?_) (fun h => ?_)
  ·refine Z 9 rfl ?_
   refine o_litE (eI .u8) [(IntKind.u8.wrap (IntKind.u64.wrap (128 + (s34.2.tmod 128))))] rfl rfl rfl z_slT42 z_zero5 ⟨rfl, ⟨_, rfl, rfl⟩, trivial⟩ rfl rfl rfl rfl (fun v38 g39 ho40 => ?_)
   obtain ⟨hf44, hf45, h⟩ := h
   refine st_ord [1, 0] _ rfl ?_
   refine o_append (dk := (kI .u8)) (xs := s34.1) (ys := [(IntKind.u8.wrap (IntKind.u64.wrap (128 + (s34.2.tmod 128))))]) rfl rfl rfl rfl z_slT42 rfl ho37 rfl (Ow.src (j := 1) ho40 rfl) hf44 hf45 (fun v41 g42 ho43 => ?_)
   refine Z 8 rfl ?_
   refine st_ord [0] _ rfl ?_
   exact hn34 _ _ _ _ h ⟨hl34, _, _, rfl, rfl, ho43⟩
  ·refine st_exit rfl ?_
   obtain rfl := he34 _ h
   replace h := hA34
   exact hk22 _ _ _ ⟨(s34.1, s34.2), _, _, h, hl34, rfl, rfl, ho37⟩
 ·refine st_exit rfl ?_
  obtain rfl := he13 _ h
  replace h := hA13
  exact hk3 _ _ _ ⟨s13.1, _, _, h, hl13, rfl, rfl, ho16⟩
theorem ref18_plain_ok {a0 : Int} {r : List Int} (h : ref18_plain a0 r) (σ : Sto)  :
    Does Tryz.prog 74 [.int .i64 a0] σ [] (fun v τ gs => ∃ (v14 : Value), gs = [] ∧ v14 = v ∧ Sl (kI .u8) τ v14 r) := by
 refine call_of Tryz.func74 Tryz.ntmps74 rfl rfl (fun cs fs => ?_)
 refine Z 8 rfl ?_
 refine o_litE (eI .u64) [(IntKind.u64.wrap a0)] rfl rfl rfl z_slT112 z_zero77 ⟨rfl, ⟨_, rfl, rfl⟩, trivial⟩ rfl rfl rfl rfl (fun v1 g2 ho3 => ?_)
 obtain ⟨r8, hr9, h⟩ := h
 refine st_freeze (fun τ4 hl5 hg6 => ?_)
 have hs7 := ho3.freeze hl5 hg6
 refine st_call (foot := []) rfl rfl rfl rfl rfl rfl (callV_fn z_en58 (ref01_Put_ok hr9 τ4 hs7)) ?_
 rintro vτ10 τ10 gsτ10 hl11 ⟨v12, rfl, rfl, hs13⟩
 refine Z 2 rfl ?_
 obtain rfl := Eq.symm h
 exact st_ret (gs' := []) Tryz.func74 rfl (List.Sublist.refl _) (hl5.trans hl11) ⟨_, rfl, rfl, hs13⟩
theorem ref01_Zig_ok {a0 : Int} {r : Int} (h : ref01_Zig a0 r) (σ : Sto)  :
    Does Tryz.prog 91 [.int .i64 a0] σ [] (fun v τ gs => gs = [] ∧ .int .u64 r = v) := by
 refine call_of Tryz.func91 Tryz.ntmps91 rfl rfl (fun cs fs => ?_)
 refine Z 10 rfl ?_
 refine st_if rfl h (fun h => ?_) (fun h => ?_)
 ·refine Z 10 rfl ?_
  obtain rfl := Eq.symm h
  exact st_ret (gs' := []) Tryz.func91 rfl (List.Sublist.refl _) (Sto.Le.refl _) ⟨rfl, rfl⟩
 ·refine Z 8 rfl ?_
  obtain rfl := Eq.symm h
  exact st_ret (gs' := []) Tryz.func91 rfl (List.Sublist.refl _) (Sto.Le.refl _) ⟨rfl, rfl⟩
theorem ref18_zig_ok {a0 : Int} {r : List Int} (h : ref18_zig a0 r) (σ : Sto)  :
    Does Tryz.prog 75 [.int .i64 a0] σ [] (fun v τ gs => ∃ (v18 : Value), gs = [] ∧ v18 = v ∧ Sl (kI .u8) τ v18 r) := by
 refine call_of Tryz.func75 Tryz.ntmps75 rfl rfl (fun cs fs => ?_)
 refine Z 7 rfl ?_
 obtain ⟨r1, hr2, h⟩ := h
 refine st_call (foot := []) rfl rfl rfl rfl rfl rfl (callV_fn z_en91 (ref01_Zig_ok hr2 σ)) ?_
 rintro vτ3 τ3 gsτ3 hl4 ⟨rfl, rfl⟩
 refine o_litE (eI .u64) [r1] rfl rfl rfl z_slT112 z_zero77 ⟨rfl, ⟨_, rfl, rfl⟩, trivial⟩ rfl rfl rfl rfl (fun v5 g6 ho7 => ?_)
 obtain ⟨r12, hr13, h⟩ := h
 refine st_freeze (fun τ8 hl9 hg10 => ?_)
 have hs11 := ho7.freeze hl9 hg10
 refine st_call (foot := []) rfl rfl rfl rfl rfl rfl (callV_fn z_en58 (ref01_Put_ok hr13 τ8 hs11)) ?_
 rintro vτ14 τ14 gsτ14 hl15 ⟨v16, rfl, rfl, hs17⟩
 refine Z 2 rfl ?_
 obtain rfl := Eq.symm h
 exact st_ret (gs' := []) Tryz.func75 rfl (List.Sublist.refl _) ((hl4.trans hl9).trans hl15) ⟨_, rfl, rfl, hs17⟩
theorem ref01_Put_own_ok {a0 : List Int} {v1 : Value} {r : List Int} (h : ref01_Put a0 r) (σ : Sto) (hs2 : Sl (kI .u64) σ v1 a0) :
    Does Tryz.prog 58 [v1] σ [] (fun v τ gs => ∃ (v42 : Value) (g43 : Grp), gs = [g43] ∧ v42 = v ∧ Ow (kI .u8) 5 τ v42 r g43) := by
 refine call_of Tryz.func58 Tryz.ntmps58 rfl rfl (fun cs fs => ?_)
 refine Z 9 rfl ?_
 refine st_cut (fun ρ τ3 gs => ∃ (s3 : List Int) (v4 : Value) (g5 : Grp), ref01_Put_j1 s3 r ∧ σ.Le τ3 ∧ ESub ρ [(2, .slice none 0 0), (3, v4)] ∧ gs = [g5] ∧ Ow (kI .u8) 5 τ3 v4 s3 g5) ?_ (fun hk3 => ?_)
 ·rintro ρ3 τ3 gs3 ⟨s3, v4, g5, h, hl3, hρ, rfl, ho6⟩
  refine st_es hρ ?_
  refine Z 5 rfl ?_
  obtain rfl := Eq.symm h
  exact st_ret (gs' := [g5]) Tryz.func58 rfl (List.Sublist.refl _) hl3 ⟨_, _, rfl, rfl, ho6⟩
 refine Z 4 rfl ?_
 obtain ⟨e7, hL7, hA7⟩ := h
 refine st_addNil ?_
 refine st_loop hL7 (fun (s7 : List Int × Int) ρ τ7 gs => σ.Le τ7 ∧ ∃ (v8 : Value) (g9 : Grp), ESub ρ [(0, v1), (2, .slice none 0 0), (3, v8), (4, .int .i64 s7.2)] ∧ gs = [g9] ∧ Ow (kI .u8) 5 τ7 v8 s7.1 g9) ⟨Sto.Le.refl _, _, _, rfl, rfl, Ow.nil⟩ ?_
 rintro s7 o7 h he7 ρ7 τ7 gs7 ⟨hl7, v8, g9, hρ, rfl, ho10⟩ hn7
 refine st_es hρ ?_
 refine Z 5 rfl ?_
 refine o_lenI rfl rfl rfl z_slT112 rfl (hs2.up hl7) ?_
 refine Z 2 rfl ?_
 refine st_if rfl h (fun h => ?_) (fun h => ?_)
 ·refine Z 7 rfl ?_
  obtain ⟨q11, hf12, h⟩ := h
  refine o_index rfl rfl rfl z_slT112 rfl rfl (hs2.up hl7) rfl hf12 (fun b13 of14 vs hc15 hrep => ?_)
  obtain rfl := hrep
  refine o_loadI (v := .int .u64 q11) rfl rfl rfl z_sc77 rfl (hc15 0 _ rfl) ?_
  refine Z 3 rfl ?_
  refine st_cut (fun ρ τ16 gs => ∃ (s16 : List Int × Int) (v17 : Value) (g18 : Grp), ref01_Put_j3 s7 s16 o7 ∧ τ7.Le τ16 ∧ ESub ρ [(0, v1), (2, .slice none 0 0), (3, v17), (4, .int .i64 s7.2), (5, .int .u64 s16.2)] ∧ gs = [g18] ∧ Ow (kI .u8) 5 τ16 v17 s16.1 g18) ?_ (fun hk16 => ?_)
  ·rintro ρ16 τ16 gs16 ⟨s16, v17, g18, h, hl16, hρ, rfl, ho19⟩
   refine st_es hρ ?_
   refine Z 4 rfl ?_
   refine o_litE (eI .u8) [(IntKind.u8.wrap s16.2)] rfl rfl rfl z_slT42 z_zero5 ⟨rfl, ⟨_, rfl, rfl⟩, trivial⟩ rfl rfl rfl rfl (fun v20 g21 ho22 => ?_)
   obtain ⟨hf26, hf27, h⟩ := h
   refine st_ord [1, 0] _ rfl ?_
   refine o_append (dk := (kI .u8)) (xs := s16.1) (ys := [(IntKind.u8.wrap s16.2)]) rfl rfl rfl rfl z_slT42 rfl ho19 rfl (Ow.src (j := 1) ho22 rfl) hf26 hf27 (fun v23 g24 ho25 => ?_)
   refine Z 8 rfl ?_
   refine st_ord [0] _ rfl ?_
   exact hn7 _ _ _ _ h ⟨(hl7.trans hl16), _, _, rfl, rfl, ho25⟩
  obtain ⟨e28, hL28, hA28⟩ := h
  refine st_loop hL28 (fun (s28 : List Int × Int) ρ τ28 gs => τ7.Le τ28 ∧ ∃ (v29 : Value) (g30 : Grp), ESub ρ [(0, v1), (2, .slice none 0 0), (3, v29), (4, .int .i64 s7.2), (5, .int .u64 s28.2)] ∧ gs = [g30] ∧ Ow (kI .u8) 5 τ28 v29 s28.1 g30) ⟨Sto.Le.refl _, _, _, rfl, rfl, ho10⟩ ?_
  rintro s28 o28 h he28 ρ28 τ28 gs28 ⟨hl28, v29, g30, hρ, rfl, ho31⟩ hn28
  refine st_es hρ ?_
  refine Z 6 rfl ?_
  refine st_if rfl h (fun h => ?_) (fun h => ?_)
  ·refine Z 9 rfl ?_
   refine o_litE (eI .u8) [(IntKind.u8.wrap (IntKind.u64.wrap (128 + (s28.2.tmod 128))))] rfl rfl rfl z_slT42 z_zero5 ⟨rfl, ⟨_, rfl, rfl⟩, trivial⟩ rfl rfl rfl rfl (fun v32 g33 ho34 => ?_)
   obtain ⟨hf38, hf39, h⟩ := h
   refine st_ord [1, 0] _ rfl ?_
   refine o_append (dk := (kI .u8)) (xs := s28.1) (ys := [(IntKind.u8.wrap (IntKind.u64.wrap (128 + (s28.2.tmod 128))))]) rfl rfl rfl rfl z_slT42 rfl ho31 rfl (Ow.src (j := 1) ho34 rfl) hf38 hf39 (fun v35 g36 ho37 => ?_)
   refine Z 8 rfl ?_
   refine st_ord [0] _ rfl ?_
   exact hn28 _ _ _ _ h ⟨hl28, _, _, rfl, rfl, ho37⟩
  ·refine st_exit rfl ?_
   obtain rfl := he28 _ h
   replace h := hA28
   exact hk16 _ _ _ ⟨(s28.1, s28.2), _, _, h, hl28, rfl, rfl, ho31⟩
 ·refine st_exit rfl ?_
  obtain rfl := he7 _ h
  replace h := hA7
  exact hk3 _ _ _ ⟨s7.1, _, _, h, hl7, rfl, rfl, ho10⟩
theorem ref18_plain_own_ok {a0 : Int} {r : List Int} (h : ref18_plain a0 r) (σ : Sto)  :
    Does Tryz.prog 74 [.int .i64 a0] σ [] (fun v τ gs => ∃ (v15 : Value) (g16 : Grp), gs = [g16] ∧ v15 = v ∧ Ow (kI .u8) 5 τ v15 r g16) := by
 refine call_of Tryz.func74 Tryz.ntmps74 rfl rfl (fun cs fs => ?_)
 refine Z 8 rfl ?_
 refine o_litE (eI .u64) [(IntKind.u64.wrap a0)] rfl rfl rfl z_slT112 z_zero77 ⟨rfl, ⟨_, rfl, rfl⟩, trivial⟩ rfl rfl rfl rfl (fun v1 g2 ho3 => ?_)
 obtain ⟨r8, hr9, h⟩ := h
 refine st_freeze (fun τ4 hl5 hg6 => ?_)
 have hs7 := ho3.freeze hl5 hg6
 refine st_call (foot := []) rfl rfl rfl rfl rfl rfl (callV_fn z_en58 (ref01_Put_own_ok hr9 τ4 hs7)) ?_
 rintro vτ10 τ10 gsτ10 hl11 ⟨v12, g13, rfl, rfl, ho14⟩
 refine Z 2 rfl ?_
 obtain rfl := Eq.symm h
 exact st_ret (gs' := [g13]) Tryz.func74 rfl (List.Sublist.refl _) (hl5.trans hl11) ⟨_, _, rfl, rfl, ho14⟩
theorem ref18_Part_ok {a0 : Int × List Int × List (List Int) × List Int × ByteArray × ByteArray} {a1 : ByteArray × Int × Int × Int × Int × Int × Int} {v1 : Value} {v2 : Value} {r : List Int} (h : ref18_Part a0 a1 r) (σ : Sto) (hs3 : Sl (kA .i64 2) σ v1 a0.2.2.1) (hs4 : Sl (kI .i64) σ v2 a0.2.2.2.1) :
    Does Tryz.prog 57 [.agg [.int .i64 a0.1, .int .i64 (a0.2.1.getD 0 0), .int .i64 (a0.2.1.getD 1 0), .int .i64 (a0.2.1.getD 2 0), .int .i64 (a0.2.1.getD 3 0), .int .i64 (a0.2.1.getD 4 0), .int .i64 (a0.2.1.getD 5 0), v1, v2, .string a0.2.2.2.2.1, .string a0.2.2.2.2.2].toArray, .agg [.string a1.1, .int .i64 a1.2.1, .int .i64 a1.2.2.1, .int .i64 a1.2.2.2.1, .int .i64 a1.2.2.2.2.1, .int .i64 a1.2.2.2.2.2.1, .int .i64 a1.2.2.2.2.2.2].toArray] σ [] (fun v τ gs => ∃ (v185 : Value), gs = [] ∧ v185 = v ∧ Sl (kI .u8) τ v185 r) := by
 refine call_of Tryz.func57 Tryz.ntmps57 rfl rfl (fun cs fs => ?_)
 refine Z 2 rfl ?_
 refine o_box (cs := [.int .i64 a0.1, .int .i64 (a0.2.1.getD 0 0), .int .i64 (a0.2.1.getD 1 0), .int .i64 (a0.2.1.getD 2 0), .int .i64 (a0.2.1.getD 3 0), .int .i64 (a0.2.1.getD 4 0), .int .i64 (a0.2.1.getD 5 0), v1, v2, .string a0.2.2.2.2.1, .string a0.2.2.2.2.2]) rfl rfl rfl rfl rfl (fun b5 => ?_)
 refine o_boxC rfl rfl rfl rfl rfl rfl (fun b6 => ?_)
 refine Z 7 rfl ?_
 refine st_cut (fun ρ τ7 gs => ∃ (s7 : List Int) (v8 : Value) (g9 : Grp), ref18_Part_j1 s7 r ∧ σ.Le τ7 ∧ ESub ρ [(4, .slice none 0 0), (5, v8)] ∧ gs = [g9] ∧ Ow (kI .u8) 5 τ7 v8 s7 g9) ?_ (fun hk7 => ?_)
 ·rintro ρ7 τ7 gs7 ⟨s7, v8, g9, h, hl7, hρ, rfl, ho10⟩
  refine st_es hρ ?_
  refine Z 5 rfl ?_
  refine st_freeze (fun τ11 hl12 hg13 => ?_)
  have hs14 := ho10.freeze hl12 hg13
  obtain rfl := Eq.symm h
  exact st_ret (gs' := []) Tryz.func57 rfl (List.Sublist.refl _) (hl7.trans hl12) ⟨_, rfl, rfl, hs14⟩
 refine ZZ 11 [0] rfl rfl ?_
 refine st_if rfl h (fun h => ?_) (fun h => ?_)
 ·refine ZZ 5 [0] rfl rfl ?_
  obtain ⟨hf17, hf18, h⟩ := h
  refine o_indexA rfl rfl rfl z_arr26 rfl rfl hf17 hf18 ?_
  refine o_loadV (j := 1) (a1.2.2.1.toNat) (f := (Value.int .i64)) (zz := 0) (l := 6) (xs := a0.2.1) [.int .i64 a0.1] [v1, v2, .string a0.2.2.2.2.1, .string a0.2.2.2.2.2] rfl rfl rfl z_sc3 rfl rfl (by simp only [List.length_cons, List.length_nil] <;> omega) (by omega) ?_
  obtain ⟨r19, hr20, h⟩ := h
  refine st_call (foot := []) rfl rfl rfl rfl rfl rfl (callV_fn z_en74 (ref18_plain_ok hr20 σ)) ?_
  rintro vτ21 τ21 gsτ21 hl22 ⟨v23, rfl, rfl, hs24⟩
  refine Z 2 rfl ?_
  refine st_ord [] _ rfl ?_
  obtain rfl := Eq.symm h
  exact st_ret (gs' := []) Tryz.func57 rfl (List.Sublist.refl _) hl22 ⟨_, rfl, rfl, hs24⟩
 ·refine Z 5 rfl ?_
  refine st_if rfl h (fun h => ?_) (fun h => ?_)
  ·refine ZZ 5 [0] rfl rfl ?_
   obtain ⟨hf25, hf26, h⟩ := h
   refine o_indexA rfl rfl rfl z_arr26 rfl rfl hf25 hf26 ?_
   refine o_loadV (j := 1) (a1.2.2.1.toNat) (f := (Value.int .i64)) (zz := 0) (l := 6) (xs := a0.2.1) [.int .i64 a0.1] [v1, v2, .string a0.2.2.2.2.1, .string a0.2.2.2.2.2] rfl rfl rfl z_sc3 rfl rfl (by simp only [List.length_cons, List.length_nil] <;> omega) (by omega) ?_
   obtain ⟨r27, hr28, h⟩ := h
   refine st_call (foot := []) rfl rfl rfl rfl rfl rfl (callV_fn z_en75 (ref18_zig_ok hr28 σ)) ?_
   rintro vτ29 τ29 gsτ29 hl30 ⟨v31, rfl, rfl, hs32⟩
   refine Z 2 rfl ?_
   refine st_ord [] _ rfl ?_
   obtain rfl := Eq.symm h
   exact st_ret (gs' := []) Tryz.func57 rfl (List.Sublist.refl _) hl30 ⟨_, rfl, rfl, hs32⟩
  ·refine Z 5 rfl ?_
   refine st_if rfl h (fun h => ?_) (fun h => ?_)
   ·refine ZZ 4 [1] rfl rfl ?_
    refine o_lenI rfl rfl rfl z_slT34 rfl hs3 ?_
    obtain ⟨r33, hr34, h⟩ := h
    refine st_call (foot := []) rfl rfl rfl rfl rfl rfl (callV_fn z_en74 (ref18_plain_own_ok hr34 σ)) ?_
    rintro vτ35 τ35 gsτ35 hl36 ⟨v37, g38, rfl, rfl, ho39⟩
    refine Z 6 rfl ?_
    obtain ⟨e40, hL40, hA40⟩ := h
    refine st_ord [2, 0] _ rfl ?_
    refine st_loop hL40 (fun (s40 : List Int × Int) ρ τ40 gs => τ35.Le τ40 ∧ ∃ (v41 : Value) (g42 : Grp), ESub ρ [(2, .pointer (some ⟨b5, 0, none⟩)), (4, .slice none 0 0), (5, v41), (6, .int .i64 s40.2)] ∧ gs = [[(b5, .cells #[.int .i64 a0.1, .int .i64 (a0.2.1.getD 0 0), .int .i64 (a0.2.1.getD 1 0), .int .i64 (a0.2.1.getD 2 0), .int .i64 (a0.2.1.getD 3 0), .int .i64 (a0.2.1.getD 4 0), .int .i64 (a0.2.1.getD 5 0), v1, v2, .string a0.2.2.2.2.1, .string a0.2.2.2.2.2] 36 (0, 0))], g42] ∧ Ow (kI .u8) 5 τ40 v41 s40.1 g42) ⟨Sto.Le.refl _, _, _, rfl, rfl, ho39⟩ ?_
    rintro s40 o40 h he40 ρ40 τ40 gs40 ⟨hl40, v41, g42, hρ, rfl, ho43⟩ hn40
    refine st_es hρ ?_
    refine ZZ 6 [0] rfl rfl ?_
    refine o_lenI rfl rfl rfl z_slT34 rfl (hs3.up (hl36.trans hl40)) ?_
    refine Z 2 rfl ?_
    refine st_if rfl h (fun h => ?_) (fun h => ?_)
    ·refine Z 4 rfl ?_
     obtain ⟨q44, hf45, q49, hf50, h⟩ := h
     refine st_draw 13 (dl [.v (.pointer (some ⟨b5, 7, none⟩)), .v (v1), .v (.int .i64 s40.2), .t fun τ v => ∃ (b46 : Nat) (of47 : Nat) (vsb46 : List Value), (.pointer (some ⟨b46, of47, none⟩) : Value) = v ∧ CelN τ ⟨b46, of47, none⟩ vsb46 ∧ (kA .i64 2).rep τ vsb46 q44, .t fun τ v => ∃ (b46 : Nat) (of47 : Nat) (vsb46 : List Value), (.pointer (some ⟨b46, of47 + (0 : Int).toNat * 1, none⟩) : Value) = v ∧ CelN τ ⟨b46, of47, none⟩ vsb46 ∧ (kA .i64 2).rep τ vsb46 q44, .v (.int .i64 (q44.getD 0 0)), .v (.pointer (some ⟨b5, 7, none⟩)), .v (v1), .v (.int .i64 s40.2), .t fun τ v => ∃ (b51 : Nat) (of52 : Nat) (vsb51 : List Value), (.pointer (some ⟨b51, of52, none⟩) : Value) = v ∧ CelN τ ⟨b51, of52, none⟩ vsb51 ∧ (kA .i64 2).rep τ vsb51 q49, .t fun τ v => ∃ (b51 : Nat) (of52 : Nat) (vsb51 : List Value), (.pointer (some ⟨b51, of52 + (1 : Int).toNat * 1, none⟩) : Value) = v ∧ CelN τ ⟨b51, of52, none⟩ vsb51 ∧ (kA .i64 2).rep τ vsb51 q49, .v (.int .i64 (q49.getD 1 0)), .v (.int .i64 (q44.getD 0 0))]) (fun _ _ => []) z_mix rfl (dl_mono ⟨fun _ _ _ hl ⟨b46, of47, vsb46, hv, hc48, hrepb46⟩ => ⟨b46, of47, vsb46, hv, hc48.up hl, Kd.mono _ hl hrepb46⟩, ⟨fun _ _ _ hl ⟨b46, of47, vsb46, hv, hc48, hrepb46⟩ => ⟨b46, of47, vsb46, hv, hc48.up hl, Kd.mono _ hl hrepb46⟩, ⟨fun _ _ _ hl ⟨b51, of52, vsb51, hv, hc53, hrepb51⟩ => ⟨b51, of52, vsb51, hv, hc53.up hl, Kd.mono _ hl hrepb51⟩, ⟨fun _ _ _ hl ⟨b51, of52, vsb51, hv, hc53, hrepb51⟩ => ⟨b51, of52, vsb51, hv, hc53.up hl, Kd.mono _ hl hrepb51⟩, trivial⟩⟩⟩⟩) (allB_cons (allB_cons (allB_cons (allB_cons (allB_cons (allB_cons (allB_cons (allB_cons (allB_cons (allB_cons (allB_cons (allB_cons (allB_cons allB_nil (p1 dA)) ?_) (p1 dA)) ?_) ?_) ?_) (p1 dA)) ?_) (p1 dA)) ?_) ?_) ?_) (p1 dA)) ?_
     ·intro ρ' τ pool rs hl hd hout hk
      obtain ⟨_, e0, rfl⟩ := hd 0 rfl
      refine o_load (j := 0) (v := v1) rfl rfl rfl z_sc34 e0 rfl rfl ?_
      exact st_addNil (hk _ _ (Sto.Le.refl _) rfl)
     ·intro ρ' τ pool rs hl hd hout hk
      obtain ⟨_, e1, rfl⟩ := hd 1 rfl
      obtain ⟨_, e2, rfl⟩ := hd 2 rfl
      refine o_index rfl rfl rfl z_slT34 rfl e1 (hs3.up ((hl36.trans hl40).trans hl)) e2 hf45 (fun b46 of47 vsb46 hc48 hrepb46 => ?_)
      exact st_addNil (hk _ _ (Sto.Le.refl _) ⟨b46, of47, _, rfl, hc48, hrepb46⟩)
     ·intro ρ' τ pool rs hl hd hout hk
      obtain ⟨_, e3, b46, of47, vsb46, rfl, hc48, hrepb46⟩ := hd 3 rfl
      have hrepb46 := hrepb46
      obtain rfl := hrepb46
      refine o_indexA rfl rfl rfl z_arr85 e3 rfl (by decide) (by decide) ?_
      exact st_addNil (hk _ _ (Sto.Le.refl _) ⟨b46, of47, _, rfl, hc48, hrepb46⟩)
     ·intro ρ' τ pool rs hl hd hout hk
      obtain ⟨_, e4, b46, of47, vsb46, rfl, hc48, hrepb46⟩ := hd 4 rfl
      have hrepb46 := hrepb46
      obtain rfl := hrepb46
      refine o_loadI (v := .int .i64 (q44.getD 0 0)) rfl rfl rfl z_sc3 e4 (cel_arr (f := (Value.int .i64)) (zz := 0) (n := 2) (xs := q44) (p := 0) (q := 0) hc48 rfl (by omega) (by omega)) ?_
      exact st_addNil (hk _ _ (Sto.Le.refl _) rfl)
     ·intro ρ' τ pool rs hl hd hout hk
      obtain ⟨_, e6, rfl⟩ := hd 6 rfl
      refine o_load (j := 0) (v := v1) rfl rfl rfl z_sc34 e6 rfl rfl ?_
      exact st_addNil (hk _ _ (Sto.Le.refl _) rfl)
     ·intro ρ' τ pool rs hl hd hout hk
      obtain ⟨_, e7, rfl⟩ := hd 7 rfl
      obtain ⟨_, e8, rfl⟩ := hd 8 rfl
      refine o_index rfl rfl rfl z_slT34 rfl e7 (hs3.up ((hl36.trans hl40).trans hl)) e8 hf50 (fun b51 of52 vsb51 hc53 hrepb51 => ?_)
      exact st_addNil (hk _ _ (Sto.Le.refl _) ⟨b51, of52, _, rfl, hc53, hrepb51⟩)
     ·intro ρ' τ pool rs hl hd hout hk
      obtain ⟨_, e9, b51, of52, vsb51, rfl, hc53, hrepb51⟩ := hd 9 rfl
      have hrepb51 := hrepb51
      obtain rfl := hrepb51
      refine o_indexA rfl rfl rfl z_arr85 e9 rfl (by decide) (by decide) ?_
      exact st_addNil (hk _ _ (Sto.Le.refl _) ⟨b51, of52, _, rfl, hc53, hrepb51⟩)
     ·intro ρ' τ pool rs hl hd hout hk
      obtain ⟨_, e10, b51, of52, vsb51, rfl, hc53, hrepb51⟩ := hd 10 rfl
      have hrepb51 := hrepb51
      obtain rfl := hrepb51
      refine o_loadI (v := .int .i64 (q49.getD 1 0)) rfl rfl rfl z_sc3 e10 (cel_arr (f := (Value.int .i64)) (zz := 0) (n := 2) (xs := q49) (p := 0) (q := 1) hc53 rfl (by omega) (by omega)) ?_
      exact st_addNil (hk _ _ (Sto.Le.refl _) rfl)
     intro ρ' τ54 vals hl54 hv hout
     refine st_ord [0, 0] _ rfl ?_
     refine st_env (ρ' := [(52, .int .i64 (q49.getD 1 0)), (7, .int .i64 (q44.getD 0 0)), (2, .pointer (some ⟨b5, 0, none⟩)), (4, .slice none 0 0), (5, v41), (6, .int .i64 s40.2)]) ⟨(lv1 hv 11 rfl rfl), (lv1 hv 12 rfl rfl), (hout 2 rfl).trans rfl, (hout 4 rfl).trans rfl, (hout 5 rfl).trans rfl, (hout 6 rfl).trans rfl, trivial⟩ ?_
     refine Z 3 rfl ?_
     refine st_cut (fun ρ τ55 gs => ∃ (s55 : Int × Int), ref18_Part_j3 s40 s55 o40 ∧ τ54.Le τ55 ∧ ESub ρ [(7, .int .i64 s55.1), (2, .pointer (some ⟨b5, 0, none⟩)), (4, .slice none 0 0), (5, v41), (6, .int .i64 s40.2), (8, .int .i64 s55.2)] ∧ gs = [[(b5, .cells #[.int .i64 a0.1, .int .i64 (a0.2.1.getD 0 0), .int .i64 (a0.2.1.getD 1 0), .int .i64 (a0.2.1.getD 2 0), .int .i64 (a0.2.1.getD 3 0), .int .i64 (a0.2.1.getD 4 0), .int .i64 (a0.2.1.getD 5 0), v1, v2, .string a0.2.2.2.2.1, .string a0.2.2.2.2.2] 36 (0, 0))], g42]) ?_ (fun hk55 => ?_)
     ·rintro ρ55 τ55 gs55 ⟨s55, h, hl55, hρ, rfl⟩
      refine st_es hρ ?_
      refine Z 3 rfl ?_
      obtain ⟨r56, hr57, h⟩ := h
      refine st_call (foot := []) rfl rfl rfl rfl rfl rfl (callV_fn z_en75 (ref18_zig_ok hr57 τ55)) ?_
      rintro vτ58 τ58 gsτ58 hl59 ⟨v60, rfl, rfl, hs61⟩
      obtain ⟨hf65, hf66, h⟩ := h
      refine st_ord [1, 0] _ rfl ?_
      refine o_append (dk := (kI .u8)) (xs := s40.1) (ys := r56) rfl rfl rfl rfl z_slT42 rfl (ho43.up ((hl54.trans hl55).trans hl59)) rfl (Sl.src hs61) hf65 hf66 (fun v62 g63 ho64 => ?_)
      refine o_move rfl rfl rfl rfl ?_
      obtain ⟨r67, hr68, h⟩ := h
      refine st_call (foot := []) rfl rfl rfl rfl rfl rfl (callV_fn z_en75 (ref18_zig_ok hr68 τ58)) ?_
      rintro vτ69 τ69 gsτ69 hl70 ⟨v71, rfl, rfl, hs72⟩
      obtain ⟨hf76, hf77, h⟩ := h
      refine o_append (dk := (kI .u8)) (xs := (s40.1 ++ r56)) (ys := r67) rfl rfl rfl rfl z_slT42 rfl (ho64.up hl70) rfl (Sl.src hs72) hf76 hf77 (fun v73 g74 ho75 => ?_)
      refine Z 8 rfl ?_
      refine st_ord [1, 0] _ rfl ?_
      exact hn40 _ _ _ _ h ⟨((((hl40.trans hl54).trans hl55).trans hl59).trans hl70), _, _, rfl, rfl, ho75⟩
     refine Z 5 rfl ?_
     refine st_if rfl h (fun h => ?_) (fun h => ?_)
     ·obtain ⟨q78, hf79, q83, hf84, h⟩ := h
      refine st_d40 19 [.v (.int .i64 (q44.getD 0 0)), .v (.pointer (some ⟨b5, 7, none⟩)), .v (v1), .v (.int .i64 s40.2), .v (.int .i64 (IntKind.i64.wrap (s40.2 - 1))), .t fun τ v => ∃ (b80 : Nat) (of81 : Nat) (vsb80 : List Value), (.pointer (some ⟨b80, of81, none⟩) : Value) = v ∧ CelN τ ⟨b80, of81, none⟩ vsb80 ∧ (kA .i64 2).rep τ vsb80 q78, .t fun τ v => ∃ (b80 : Nat) (of81 : Nat) (vsb80 : List Value), (.pointer (some ⟨b80, of81 + (0 : Int).toNat * 1, none⟩) : Value) = v ∧ CelN τ ⟨b80, of81, none⟩ vsb80 ∧ (kA .i64 2).rep τ vsb80 q78, .v (.int .i64 (q78.getD 0 0)), .v (.int .i64 (IntKind.i64.wrap ((q44.getD 0 0) - (q78.getD 0 0)))), .v (.int .i64 (q49.getD 1 0)), .v (.pointer (some ⟨b5, 7, none⟩)), .v (v1), .v (.int .i64 s40.2), .v (.int .i64 (IntKind.i64.wrap (s40.2 - 1))), .t fun τ v => ∃ (b85 : Nat) (of86 : Nat) (vsb85 : List Value), (.pointer (some ⟨b85, of86, none⟩) : Value) = v ∧ CelN τ ⟨b85, of86, none⟩ vsb85 ∧ (kA .i64 2).rep τ vsb85 q83, .t fun τ v => ∃ (b85 : Nat) (of86 : Nat) (vsb85 : List Value), (.pointer (some ⟨b85, of86 + (1 : Int).toNat * 1, none⟩) : Value) = v ∧ CelN τ ⟨b85, of86, none⟩ vsb85 ∧ (kA .i64 2).rep τ vsb85 q83, .v (.int .i64 (q83.getD 1 0)), .v (.int .i64 (IntKind.i64.wrap ((q49.getD 1 0) - (q83.getD 1 0)))), .v (.int .i64 (IntKind.i64.wrap ((q44.getD 0 0) - (q78.getD 0 0))))] z_mix rfl ⟨fun _ _ _ hl ⟨b80, of81, vsb80, hv, hc82, hrepb80⟩ => ⟨b80, of81, vsb80, hv, hc82.up hl, Kd.mono _ hl hrepb80⟩, ⟨fun _ _ _ hl ⟨b80, of81, vsb80, hv, hc82, hrepb80⟩ => ⟨b80, of81, vsb80, hv, hc82.up hl, Kd.mono _ hl hrepb80⟩, ⟨fun _ _ _ hl ⟨b85, of86, vsb85, hv, hc87, hrepb85⟩ => ⟨b85, of86, vsb85, hv, hc87.up hl, Kd.mono _ hl hrepb85⟩, ⟨fun _ _ _ hl ⟨b85, of86, vsb85, hv, hc87, hrepb85⟩ => ⟨b85, of86, vsb85, hv, hc87.up hl, Kd.mono _ hl hrepb85⟩, trivial⟩⟩⟩⟩ (allB_cons (allB_cons (allB_cons (allB_cons (allB_cons (allB_cons (allB_cons (allB_cons (allB_cons (allB_cons (allB_cons (allB_cons (allB_cons (allB_cons (allB_cons (allB_cons (allB_cons (allB_cons (allB_cons allB_nil ?_) (p4 dA)) ?_) (p4 dA)) (p4 dA)) ?_) ?_) ?_) (p4 dA)) (p4 dA)) (p4 dA)) ?_) (p4 dA)) (p4 dA)) ?_) ?_) ?_) (p4 dA)) (p4 dA)) ?_
      ·intro ρ' τ pool rs hl hd hout hw hk
       refine o_move rfl rfl rfl ((hw 18 (by decide) rfl _ rfl).trans rfl) ?_
       exact hk _ _ (Sto.Le.refl _) rfl
      ·intro ρ' τ pool rs hl hd hout hw hk
       obtain ⟨_, e1, rfl⟩ := hd 1 rfl _ rfl
       refine o_load (j := 0) (v := v1) rfl rfl rfl z_sc34 e1 rfl rfl ?_
       exact hk _ _ (Sto.Le.refl _) rfl
      ·intro ρ' τ pool rs hl hd hout hw hk
       obtain ⟨_, e2, rfl⟩ := hd 2 rfl _ rfl
       obtain ⟨_, e4, rfl⟩ := hd 4 rfl _ rfl
       refine o_index rfl rfl rfl z_slT34 rfl e2 (hs3.up (((hl36.trans hl40).trans hl54).trans hl)) e4 hf79 (fun b80 of81 vsb80 hc82 hrepb80 => ?_)
       exact hk _ _ (Sto.Le.refl _) ⟨b80, of81, _, rfl, hc82, hrepb80⟩
      ·intro ρ' τ pool rs hl hd hout hw hk
       obtain ⟨_, e5, b80, of81, vsb80, rfl, hc82, hrepb80⟩ := hd 5 rfl _ rfl
       have hrepb80 := hrepb80
       obtain rfl := hrepb80
       refine o_indexA rfl rfl rfl z_arr85 e5 rfl (by decide) (by decide) ?_
       exact hk _ _ (Sto.Le.refl _) ⟨b80, of81, _, rfl, hc82, hrepb80⟩
      ·intro ρ' τ pool rs hl hd hout hw hk
       obtain ⟨_, e6, b80, of81, vsb80, rfl, hc82, hrepb80⟩ := hd 6 rfl _ rfl
       have hrepb80 := hrepb80
       obtain rfl := hrepb80
       refine o_loadI (v := .int .i64 (q78.getD 0 0)) rfl rfl rfl z_sc3 e6 (cel_arr (f := (Value.int .i64)) (zz := 0) (n := 2) (xs := q78) (p := 0) (q := 0) hc82 rfl (by omega) (by omega)) ?_
       exact hk _ _ (Sto.Le.refl _) rfl
      ·intro ρ' τ pool rs hl hd hout hw hk
       obtain ⟨_, e10, rfl⟩ := hd 10 rfl _ rfl
       refine o_load (j := 0) (v := v1) rfl rfl rfl z_sc34 e10 rfl rfl ?_
       exact hk _ _ (Sto.Le.refl _) rfl
      ·intro ρ' τ pool rs hl hd hout hw hk
       obtain ⟨_, e11, rfl⟩ := hd 11 rfl _ rfl
       obtain ⟨_, e13, rfl⟩ := hd 13 rfl _ rfl
       refine o_index rfl rfl rfl z_slT34 rfl e11 (hs3.up (((hl36.trans hl40).trans hl54).trans hl)) e13 hf84 (fun b85 of86 vsb85 hc87 hrepb85 => ?_)
       exact hk _ _ (Sto.Le.refl _) ⟨b85, of86, _, rfl, hc87, hrepb85⟩
      ·intro ρ' τ pool rs hl hd hout hw hk
       obtain ⟨_, e14, b85, of86, vsb85, rfl, hc87, hrepb85⟩ := hd 14 rfl _ rfl
       have hrepb85 := hrepb85
       obtain rfl := hrepb85
       refine o_indexA rfl rfl rfl z_arr85 e14 rfl (by decide) (by decide) ?_
       exact hk _ _ (Sto.Le.refl _) ⟨b85, of86, _, rfl, hc87, hrepb85⟩
      ·intro ρ' τ pool rs hl hd hout hw hk
       obtain ⟨_, e15, b85, of86, vsb85, rfl, hc87, hrepb85⟩ := hd 15 rfl _ rfl
       have hrepb85 := hrepb85
       obtain rfl := hrepb85
       refine o_loadI (v := .int .i64 (q83.getD 1 0)) rfl rfl rfl z_sc3 e15 (cel_arr (f := (Value.int .i64)) (zz := 0) (n := 2) (xs := q83) (p := 0) (q := 1) hc87 rfl (by omega) (by omega)) ?_
       exact hk _ _ (Sto.Le.refl _) rfl
      intro ρ' τ88 vals hl88 hv hout
      refine st_env (ρ' := [(72, .int .i64 (IntKind.i64.wrap ((q49.getD 1 0) - (q83.getD 1 0)))), (7, .int .i64 (IntKind.i64.wrap ((q44.getD 0 0) - (q78.getD 0 0)))), (2, .pointer (some ⟨b5, 0, none⟩)), (4, .slice none 0 0), (5, v41), (6, .int .i64 s40.2)]) ⟨(lv4 hv 17 rfl rfl rfl), (lv4 hv 18 rfl rfl rfl), (hout 2 rfl).trans rfl, (hout 4 rfl).trans rfl, (hout 5 rfl).trans rfl, (hout 6 rfl).trans rfl, trivial⟩ ?_
      refine Z 2 rfl ?_
      exact hk55 _ _ _ ⟨((IntKind.i64.wrap ((q44.getD 0 0) - (q78.getD 0 0))), (IntKind.i64.wrap ((q49.getD 1 0) - (q83.getD 1 0)))), h, hl88, rfl, rfl⟩
     ·refine st_skip ?_
      exact hk55 _ _ _ ⟨((q44.getD 0 0), (q49.getD 1 0)), h, (Sto.Le.refl _), rfl, rfl⟩
    ·refine Z 2 rfl ?_
     obtain rfl := he40 _ h
     replace h := hA40
     refine st_ord [1] _ rfl ?_
     exact hk7 _ _ _ ⟨s40.1, _, _, h, (hl36.trans hl40), rfl, rfl, ho43⟩
   ·refine Z 5 rfl ?_
    refine st_if rfl h (fun h => ?_) (fun h => ?_)
    ·refine ZZ 4 [1] rfl rfl ?_
     refine o_lenI rfl rfl rfl z_slT28 rfl hs4 ?_
     obtain ⟨r90, hr91, h⟩ := h
     refine st_call (foot := []) rfl rfl rfl rfl rfl rfl (callV_fn z_en74 (ref18_plain_own_ok hr91 σ)) ?_
     rintro vτ92 τ92 gsτ92 hl93 ⟨v94, g95, rfl, rfl, ho96⟩
     refine Z 6 rfl ?_
     obtain ⟨e97, hL97, hA97⟩ := h
     refine st_ord [2, 0] _ rfl ?_
     refine st_loop hL97 (fun (s97 : List Int × Int) ρ τ97 gs => τ92.Le τ97 ∧ ∃ (v98 : Value) (g99 : Grp), ESub ρ [(2, .pointer (some ⟨b5, 0, none⟩)), (4, .slice none 0 0), (5, v98), (9, .int .i64 s97.2)] ∧ gs = [[(b5, .cells #[.int .i64 a0.1, .int .i64 (a0.2.1.getD 0 0), .int .i64 (a0.2.1.getD 1 0), .int .i64 (a0.2.1.getD 2 0), .int .i64 (a0.2.1.getD 3 0), .int .i64 (a0.2.1.getD 4 0), .int .i64 (a0.2.1.getD 5 0), v1, v2, .string a0.2.2.2.2.1, .string a0.2.2.2.2.2] 36 (0, 0))], g99] ∧ Ow (kI .u8) 5 τ97 v98 s97.1 g99) ⟨Sto.Le.refl _, _, _, rfl, rfl, ho96⟩ ?_
     rintro s97 o97 h he97 ρ97 τ97 gs97 ⟨hl97, v98, g99, hρ, rfl, ho100⟩ hn97
     refine st_es hρ ?_
     refine ZZ 6 [0] rfl rfl ?_
     refine o_lenI rfl rfl rfl z_slT28 rfl (hs4.up (hl93.trans hl97)) ?_
     refine Z 2 rfl ?_
     refine st_if rfl h (fun h => ?_) (fun h => ?_)
     ·refine Z 2 rfl ?_
      refine st_cut (fun ρ τ101 gs => ∃ (s101 : List Int) (v102 : Value) (g103 : Grp), ref18_Part_j5 s97 s101 o97 ∧ τ97.Le τ101 ∧ ESub ρ [(2, .pointer (some ⟨b5, 0, none⟩)), (4, .slice none 0 0), (5, v102), (9, .int .i64 s97.2)] ∧ gs = [[(b5, .cells #[.int .i64 a0.1, .int .i64 (a0.2.1.getD 0 0), .int .i64 (a0.2.1.getD 1 0), .int .i64 (a0.2.1.getD 2 0), .int .i64 (a0.2.1.getD 3 0), .int .i64 (a0.2.1.getD 4 0), .int .i64 (a0.2.1.getD 5 0), v1, v2, .string a0.2.2.2.2.1, .string a0.2.2.2.2.2] 36 (0, 0))], g103] ∧ Ow (kI .u8) 5 τ101 v102 s101 g103) ?_ (fun hk101 => ?_)
      ·rintro ρ101 τ101 gs101 ⟨s101, v102, g103, h, hl101, hρ, rfl, ho104⟩
       refine st_es hρ ?_
       refine Z 5 rfl ?_
       exact hn97 _ _ _ _ h ⟨(hl97.trans hl101), _, _, rfl, rfl, ho104⟩
      refine Z 6 rfl ?_
      refine st_if rfl h (fun h => ?_) (fun h => ?_)
      ·refine ZZ 4 [0] rfl rfl ?_
       obtain ⟨q105, hf106, h⟩ := h
       refine o_index rfl rfl rfl z_slT28 rfl rfl (hs4.up (hl93.trans hl97)) rfl hf106 (fun b107 of108 vs hc109 hrep => ?_)
       obtain rfl := hrep
       refine o_loadI (v := .int .i64 q105) rfl rfl rfl z_sc3 rfl (hc109 0 _ rfl) ?_
       obtain ⟨r110, hr111, h⟩ := h
       refine st_call (foot := []) rfl rfl rfl rfl rfl rfl (callV_fn z_en74 (ref18_plain_ok hr111 τ97)) ?_
       rintro vτ112 τ112 gsτ112 hl113 ⟨v114, rfl, rfl, hs115⟩
       obtain ⟨hf119, hf120, h⟩ := h
       refine st_ord [1, 0] _ rfl ?_
       refine o_append (dk := (kI .u8)) (xs := s97.1) (ys := r110) rfl rfl rfl rfl z_slT42 rfl (ho100.up hl113) rfl (Sl.src hs115) hf119 hf120 (fun v116 g117 ho118 => ?_)
       refine Z 3 rfl ?_
       refine st_ord [1, 0] _ rfl ?_
       exact hk101 _ _ _ ⟨(s97.1 ++ r110), _, _, h, hl113, rfl, rfl, ho118⟩
      ·obtain ⟨q121, hf122, q126, hf127, r131, hr132, hf140, hf141, h⟩ := h
       refine st_d41 [[(b5, .cells #[.int .i64 a0.1, .int .i64 (a0.2.1.getD 0 0), .int .i64 (a0.2.1.getD 1 0), .int .i64 (a0.2.1.getD 2 0), .int .i64 (a0.2.1.getD 3 0), .int .i64 (a0.2.1.getD 4 0), .int .i64 (a0.2.1.getD 5 0), v1, v2, .string a0.2.2.2.2.1, .string a0.2.2.2.2.2] 36 (0, 0))]] [g99] 16 1 [none, none, none, none, none, none, none, none, none, none, none, none, none, none, none, some (0, 0)] [none, none, none, none, none, none, none, none, none, none, none, none, none, none, none, none] [[none, some 117]] [.v (v98), .v (.pointer (some ⟨b5, 8, none⟩)), .v (v2), .v (.int .i64 s97.2), .t fun τ v => ∃ (b123 : Nat) (of124 : Nat) (vsb123 : List Value), (.pointer (some ⟨b123, of124, none⟩) : Value) = v ∧ CelN τ ⟨b123, of124, none⟩ vsb123 ∧ (kI .i64).rep τ vsb123 q121, .v (.int .i64 q121), .v (.pointer (some ⟨b5, 8, none⟩)), .v (v2), .v (.int .i64 s97.2), .v (.int .i64 (IntKind.i64.wrap (s97.2 - 1))), .t fun τ v => ∃ (b128 : Nat) (of129 : Nat) (vsb128 : List Value), (.pointer (some ⟨b128, of129, none⟩) : Value) = v ∧ CelN τ ⟨b128, of129, none⟩ vsb128 ∧ (kI .i64).rep τ vsb128 q126, .v (.int .i64 q126), .v (.int .i64 (IntKind.i64.wrap (q121 - q126))), .v (.int .i64 (IntKind.i64.wrap ((IntKind.i64.wrap (q121 - q126)) - 1))), .t fun τ v => ∃ (v135 : Value), (v135 : Value) = v ∧ Sl (kI .u8) τ v135 r131, .t fun _ _ => True] [[fun τ u F => F = [g99], fun τ u F => ∃ (v142 : Value) (g143 : Grp), F = [g143] ∧ v142 = u ∧ Ow (kI .u8) 5 τ v142 (s97.1 ++ r131) g143]] rfl z_mix rfl ⟨fun _ _ _ hl ⟨b123, of124, vsb123, hv, hc125, hrepb123⟩ => ⟨b123, of124, vsb123, hv, hc125.up hl, Kd.mono _ hl hrepb123⟩, ⟨fun _ _ _ hl ⟨b128, of129, vsb128, hv, hc130, hrepb128⟩ => ⟨b128, of129, vsb128, hv, hc130.up hl, Kd.mono _ hl hrepb128⟩, ⟨fun _ _ _ hl ⟨v135, hv, hs136⟩ => ⟨v135, hv, hs136.up hl⟩, ⟨fun _ _ _ _ _ => trivial, trivial⟩⟩⟩⟩ ⟨⟨fun _ _ _ _ hl h => h, ⟨fun _ _ _ _ hl h => (let ⟨v142, g143, hF, hU, ho144⟩ := h; ⟨v142, g143, hF, hU, ho144.up hl⟩), trivial⟩⟩, trivial⟩ rfl rfl ?_ (allB_cons (allB_cons (allB_cons (allB_cons (allB_cons (allB_cons (allB_cons (allB_cons (allB_cons (allB_cons (allB_cons (allB_cons (allB_cons (allB_cons (allB_cons (allB_cons allB_nil (p4 dA)) (p4 dA)) ?_) (p4 dA)) ?_) ?_) (p4 dA)) ?_) (p4 dA)) (p4 dA)) ?_) ?_) (p4 dA)) (p4 dA)) ?_) ?_) ?_
       ·exact rfl
       ·intro ρ' τ pool rs hl hd hout hw hk
        obtain ⟨_, e1, rfl⟩ := hd 1 rfl _ rfl
        refine o_load (j := 0) (v := v2) rfl rfl rfl z_sc28 e1 rfl rfl ?_
        exact hk _ _ (Sto.Le.refl _) rfl
       ·intro ρ' τ pool rs hl hd hout hw hk
        obtain ⟨_, e2, rfl⟩ := hd 2 rfl _ rfl
        obtain ⟨_, e3, rfl⟩ := hd 3 rfl _ rfl
        refine o_index rfl rfl rfl z_slT28 rfl e2 (hs4.up ((hl93.trans hl97).trans hl)) e3 hf122 (fun b123 of124 vsb123 hc125 hrepb123 => ?_)
        exact hk _ _ (Sto.Le.refl _) ⟨b123, of124, _, rfl, hc125, hrepb123⟩
       ·intro ρ' τ pool rs hl hd hout hw hk
        obtain ⟨_, e4, b123, of124, vsb123, rfl, hc125, hrepb123⟩ := hd 4 rfl _ rfl
        have hrepb123 := hrepb123
        obtain rfl := hrepb123
        refine o_loadI (v := .int .i64 q121) rfl rfl rfl z_sc3 e4 (hc125 0 _ rfl) ?_
        exact hk _ _ (Sto.Le.refl _) rfl
       ·intro ρ' τ pool rs hl hd hout hw hk
        obtain ⟨_, e6, rfl⟩ := hd 6 rfl _ rfl
        refine o_load (j := 0) (v := v2) rfl rfl rfl z_sc28 e6 rfl rfl ?_
        exact hk _ _ (Sto.Le.refl _) rfl
       ·intro ρ' τ pool rs hl hd hout hw hk
        obtain ⟨_, e7, rfl⟩ := hd 7 rfl _ rfl
        obtain ⟨_, e9, rfl⟩ := hd 9 rfl _ rfl
        refine o_index rfl rfl rfl z_slT28 rfl e7 (hs4.up ((hl93.trans hl97).trans hl)) e9 hf127 (fun b128 of129 vsb128 hc130 hrepb128 => ?_)
        exact hk _ _ (Sto.Le.refl _) ⟨b128, of129, _, rfl, hc130, hrepb128⟩
       ·intro ρ' τ pool rs hl hd hout hw hk
        obtain ⟨_, e10, b128, of129, vsb128, rfl, hc130, hrepb128⟩ := hd 10 rfl _ rfl
        have hrepb128 := hrepb128
        obtain rfl := hrepb128
        refine o_loadI (v := .int .i64 q126) rfl rfl rfl z_sc3 e10 (hc130 0 _ rfl) ?_
        exact hk _ _ (Sto.Le.refl _) rfl
       ·intro ρ' τ pool rs hl hd hout hw hk
        obtain ⟨_, e13, rfl⟩ := hd 13 rfl _ rfl
        refine st_call (foot := []) rfl rfl rfl rfl (evs_cons e13 rfl) rfl (callV_fn z_en74 (ref18_plain_ok hr132 τ)) ?_
        rintro vτ133 τ133 gsτ133 hl134 ⟨v135, rfl, rfl, hs136⟩
        exact hk _ _ hl134 ⟨v135, rfl, hs136⟩
       ·intro ρ' τ u Fv pool rs hl hI hu hd hout hw hk
        obtain ⟨_, e0, rfl⟩ := hd 0 rfl _ rfl
        obtain ⟨_, e14, v135, rfl, hs136⟩ := hd 14 rfl _ rfl
        have hI0 := hI
        obtain rfl := hI
        refine st_gs [[(b5, .cells #[.int .i64 a0.1, .int .i64 (a0.2.1.getD 0 0), .int .i64 (a0.2.1.getD 1 0), .int .i64 (a0.2.1.getD 2 0), .int .i64 (a0.2.1.getD 3 0), .int .i64 (a0.2.1.getD 4 0), .int .i64 (a0.2.1.getD 5 0), v1, v2, .string a0.2.2.2.2.1, .string a0.2.2.2.2.2] 36 (0, 0))], g99, pool] rfl ?_
        refine st_ord [1, 0, 0] _ rfl ?_
        refine o_append (dk := (kI .u8)) (xs := s97.1) (ys := r131) rfl rfl rfl rfl z_slT42 e0 (ho100.up hl) e14 (Sl.src hs136) hf140 hf141 (fun v137 g138 ho139 => ?_)
        refine st_ord [1, 0, 0] _ rfl ?_
        exact hk _ _ [g138] (Sto.Le.refl _) trivial (by exact ⟨v137, g138, rfl, rfl, ho139⟩)
       intro ρ' τ145 vals u Fv hl145 hI hu hv hout
       obtain ⟨v142, g143, rfl, rfl, ho144⟩ := hI
       refine st_gs [[(b5, .cells #[.int .i64 a0.1, .int .i64 (a0.2.1.getD 0 0), .int .i64 (a0.2.1.getD 1 0), .int .i64 (a0.2.1.getD 2 0), .int .i64 (a0.2.1.getD 3 0), .int .i64 (a0.2.1.getD 4 0), .int .i64 (a0.2.1.getD 5 0), v1, v2, .string a0.2.2.2.2.1, .string a0.2.2.2.2.2] 36 (0, 0))], g143] rfl ?_
       refine st_env (ρ' := [(2, .pointer (some ⟨b5, 0, none⟩)), (4, .slice none 0 0), (9, .int .i64 s97.2), (117, v142)]) ⟨(hout 2 rfl).trans rfl, (hout 4 rfl).trans rfl, (hout 9 rfl).trans rfl, (by exact hu _ rfl), trivial⟩ ?_
       refine Z 3 rfl ?_
       exact hk101 _ _ _ ⟨(s97.1 ++ r131), _, _, h, hl145, rfl, rfl, ho144⟩
     ·refine Z 2 rfl ?_
      obtain rfl := he97 _ h
      replace h := hA97
      refine st_ord [1] _ rfl ?_
      exact hk7 _ _ _ ⟨s97.1, _, _, h, (hl93.trans hl97), rfl, rfl, ho100⟩
    ·refine Z 5 rfl ?_
     refine st_if rfl h (fun h => ?_) (fun h => ?_)
     ·obtain ⟨r147, hr148, hf160, hf161, h⟩ := h
      refine st_d41 [[(b6, .cells #[.string a1.1, .int .i64 a1.2.1, .int .i64 a1.2.2.1, .int .i64 a1.2.2.2.1, .int .i64 a1.2.2.2.2.1, .int .i64 a1.2.2.2.2.2.1, .int .i64 a1.2.2.2.2.2.2] 98 (0, 0))], [(b5, .cells #[.int .i64 a0.1, .int .i64 (a0.2.1.getD 0 0), .int .i64 (a0.2.1.getD 1 0), .int .i64 (a0.2.1.getD 2 0), .int .i64 (a0.2.1.getD 3 0), .int .i64 (a0.2.1.getD 4 0), .int .i64 (a0.2.1.getD 5 0), v1, v2, .string a0.2.2.2.2.1, .string a0.2.2.2.2.2] 36 (0, 0))]] [] 7 2 [none, none, none, some (0, 0), none, none, some (0, 1)] [none, none, none, none, none, none, none] [[none, some 123, some 126]] [.v (.pointer (some ⟨b5, 9, none⟩)), .v (.string a0.2.2.2.2.1), .v (.int .i64 (a0.2.2.2.2.1.size : Int)), .t fun _ _ => True, .v (.pointer (some ⟨b5, 9, none⟩)), .v (.string a0.2.2.2.2.1), .t fun _ _ => True] [[fun τ u F => F = [], fun τ u F => ∃ (v154 : Value) (g155 : Grp), F = [g155] ∧ v154 = u ∧ Ow (kI .u8) 5 τ v154 r147 g155, fun τ u F => ∃ (v162 : Value) (g163 : Grp), F = [g163] ∧ v162 = u ∧ Ow (kI .u8) 5 τ v162 (r147 ++ bints a0.2.2.2.2.1) g163]] rfl z_mix rfl ⟨fun _ _ _ _ _ => trivial, ⟨fun _ _ _ _ _ => trivial, trivial⟩⟩ ⟨⟨fun _ _ _ _ hl h => h, ⟨fun _ _ _ _ hl h => (let ⟨v154, g155, hF, hU, ho156⟩ := h; ⟨v154, g155, hF, hU, ho156.up hl⟩), ⟨fun _ _ _ _ hl h => (let ⟨v162, g163, hF, hU, ho164⟩ := h; ⟨v162, g163, hF, hU, ho164.up hl⟩), trivial⟩⟩⟩, trivial⟩ rfl rfl ?_ (allB_cons (allB_cons (allB_cons (allB_cons (allB_cons (allB_cons (allB_cons allB_nil (p4 dA)) ?_) (p4 dA)) ?_) (p4 dA)) ?_) ?_) ?_
      ·exact rfl
      ·intro ρ' τ pool rs hl hd hout hw hk
       obtain ⟨_, e0, rfl⟩ := hd 0 rfl _ rfl
       refine o_load (j := 1) (v := .string a0.2.2.2.2.1) rfl rfl rfl z_sc9 e0 rfl rfl ?_
       exact hk _ _ (Sto.Le.refl _) rfl
      ·intro ρ' τ u Fv pool rs hl hI hu hd hout hw hk
       obtain ⟨_, e2, rfl⟩ := hd 2 rfl _ rfl
       have hI0 := hI
       obtain rfl := hI
       refine st_gs [[(b6, .cells #[.string a1.1, .int .i64 a1.2.1, .int .i64 a1.2.2.1, .int .i64 a1.2.2.2.1, .int .i64 a1.2.2.2.2.1, .int .i64 a1.2.2.2.2.2.1, .int .i64 a1.2.2.2.2.2.2] 98 (0, 0))], [(b5, .cells #[.int .i64 a0.1, .int .i64 (a0.2.1.getD 0 0), .int .i64 (a0.2.1.getD 1 0), .int .i64 (a0.2.1.getD 2 0), .int .i64 (a0.2.1.getD 3 0), .int .i64 (a0.2.1.getD 4 0), .int .i64 (a0.2.1.getD 5 0), v1, v2, .string a0.2.2.2.2.1, .string a0.2.2.2.2.2] 36 (0, 0))], pool] rfl ?_
       refine st_call (foot := []) rfl rfl rfl rfl (evs_cons e2 rfl) rfl (callV_fn z_en74 (ref18_plain_own_ok hr148 τ)) ?_
       rintro vτ149 τ149 gsτ149 hl150 ⟨v151, g152, rfl, rfl, ho153⟩
       refine st_ord [1, 1, 0, 0] _ rfl ?_
       exact hk _ _ [g152] hl150 trivial (by exact ⟨v151, g152, rfl, rfl, ho153⟩)
      ·intro ρ' τ pool rs hl hd hout hw hk
       obtain ⟨_, e4, rfl⟩ := hd 4 rfl _ rfl
       refine o_load (j := 1) (v := .string a0.2.2.2.2.1) rfl rfl rfl z_sc9 e4 rfl rfl ?_
       exact hk _ _ (Sto.Le.refl _) rfl
      ·intro ρ' τ u Fv pool rs hl hI hu hd hout hw hk
       obtain ⟨_, e5, rfl⟩ := hd 5 rfl _ rfl
       obtain ⟨v154, g155, rfl, rfl, ho156⟩ := hI
       refine st_gs [[(b6, .cells #[.string a1.1, .int .i64 a1.2.1, .int .i64 a1.2.2.1, .int .i64 a1.2.2.2.1, .int .i64 a1.2.2.2.2.1, .int .i64 a1.2.2.2.2.2.1, .int .i64 a1.2.2.2.2.2.2] 98 (0, 0))], [(b5, .cells #[.int .i64 a0.1, .int .i64 (a0.2.1.getD 0 0), .int .i64 (a0.2.1.getD 1 0), .int .i64 (a0.2.1.getD 2 0), .int .i64 (a0.2.1.getD 3 0), .int .i64 (a0.2.1.getD 4 0), .int .i64 (a0.2.1.getD 5 0), v1, v2, .string a0.2.2.2.2.1, .string a0.2.2.2.2.2] 36 (0, 0))], g155, pool] rfl ?_
       refine st_ord [2, 0, 0, 0] _ rfl ?_
       refine o_appendS (xs := r147) (s := a0.2.2.2.2.1) rfl rfl rfl rfl z_slT42 Tryz.underlying9 (hu (by decide) _ rfl) ho156 e5 hf160 hf161 (fun v157 g158 ho159 => ?_)
       refine st_ord [1, 1, 0, 0] _ rfl ?_
       exact hk _ _ [g158] (Sto.Le.refl _) trivial (by exact ⟨v157, g158, rfl, rfl, ho159⟩)
      intro ρ' τ165 vals u Fv hl165 hI hu hv hout
      obtain ⟨v162, g163, rfl, rfl, ho164⟩ := hI
      refine st_gs [[(b6, .cells #[.string a1.1, .int .i64 a1.2.1, .int .i64 a1.2.2.1, .int .i64 a1.2.2.2.1, .int .i64 a1.2.2.2.2.1, .int .i64 a1.2.2.2.2.2.1, .int .i64 a1.2.2.2.2.2.2] 98 (0, 0))], [(b5, .cells #[.int .i64 a0.1, .int .i64 (a0.2.1.getD 0 0), .int .i64 (a0.2.1.getD 1 0), .int .i64 (a0.2.1.getD 2 0), .int .i64 (a0.2.1.getD 3 0), .int .i64 (a0.2.1.getD 4 0), .int .i64 (a0.2.1.getD 5 0), v1, v2, .string a0.2.2.2.2.1, .string a0.2.2.2.2.2] 36 (0, 0))], g163] rfl ?_
      refine st_env (ρ' := [(4, .slice none 0 0), (126, v162)]) ⟨(hout 4 rfl).trans rfl, (by exact hu _ rfl), trivial⟩ ?_
      refine Z 3 rfl ?_
      refine st_ord [2] _ rfl ?_
      exact hk7 _ _ _ ⟨(r147 ++ bints a0.2.2.2.2.1), _, _, h, hl165, rfl, rfl, ho164⟩
     ·refine Z 5 rfl ?_
      refine st_if rfl h (fun h => ?_) (fun h => ?_)
      ·obtain ⟨r166, hr167, hf179, hf180, h⟩ := h
       refine st_d41 [[(b6, .cells #[.string a1.1, .int .i64 a1.2.1, .int .i64 a1.2.2.1, .int .i64 a1.2.2.2.1, .int .i64 a1.2.2.2.2.1, .int .i64 a1.2.2.2.2.2.1, .int .i64 a1.2.2.2.2.2.2] 98 (0, 0))], [(b5, .cells #[.int .i64 a0.1, .int .i64 (a0.2.1.getD 0 0), .int .i64 (a0.2.1.getD 1 0), .int .i64 (a0.2.1.getD 2 0), .int .i64 (a0.2.1.getD 3 0), .int .i64 (a0.2.1.getD 4 0), .int .i64 (a0.2.1.getD 5 0), v1, v2, .string a0.2.2.2.2.1, .string a0.2.2.2.2.2] 36 (0, 0))]] [] 7 2 [none, none, none, some (0, 0), none, none, some (0, 1)] [none, none, none, none, none, none, none] [[none, some 132, some 135]] [.v (.pointer (some ⟨b5, 10, none⟩)), .v (.string a0.2.2.2.2.2), .v (.int .i64 (a0.2.2.2.2.2.size : Int)), .t fun _ _ => True, .v (.pointer (some ⟨b5, 10, none⟩)), .v (.string a0.2.2.2.2.2), .t fun _ _ => True] [[fun τ u F => F = [], fun τ u F => ∃ (v173 : Value) (g174 : Grp), F = [g174] ∧ v173 = u ∧ Ow (kI .u8) 5 τ v173 r166 g174, fun τ u F => ∃ (v181 : Value) (g182 : Grp), F = [g182] ∧ v181 = u ∧ Ow (kI .u8) 5 τ v181 (r166 ++ bints a0.2.2.2.2.2) g182]] rfl z_mix rfl ⟨fun _ _ _ _ _ => trivial, ⟨fun _ _ _ _ _ => trivial, trivial⟩⟩ ⟨⟨fun _ _ _ _ hl h => h, ⟨fun _ _ _ _ hl h => (let ⟨v173, g174, hF, hU, ho175⟩ := h; ⟨v173, g174, hF, hU, ho175.up hl⟩), ⟨fun _ _ _ _ hl h => (let ⟨v181, g182, hF, hU, ho183⟩ := h; ⟨v181, g182, hF, hU, ho183.up hl⟩), trivial⟩⟩⟩, trivial⟩ rfl rfl ?_ (allB_cons (allB_cons (allB_cons (allB_cons (allB_cons (allB_cons (allB_cons allB_nil (p4 dA)) ?_) (p4 dA)) ?_) (p4 dA)) ?_) ?_) ?_
       ·exact rfl
       ·intro ρ' τ pool rs hl hd hout hw hk
        obtain ⟨_, e0, rfl⟩ := hd 0 rfl _ rfl
        refine o_load (j := 1) (v := .string a0.2.2.2.2.2) rfl rfl rfl z_sc9 e0 rfl rfl ?_
        exact hk _ _ (Sto.Le.refl _) rfl
       ·intro ρ' τ u Fv pool rs hl hI hu hd hout hw hk
        obtain ⟨_, e2, rfl⟩ := hd 2 rfl _ rfl
        have hI0 := hI
        obtain rfl := hI
        refine st_gs [[(b6, .cells #[.string a1.1, .int .i64 a1.2.1, .int .i64 a1.2.2.1, .int .i64 a1.2.2.2.1, .int .i64 a1.2.2.2.2.1, .int .i64 a1.2.2.2.2.2.1, .int .i64 a1.2.2.2.2.2.2] 98 (0, 0))], [(b5, .cells #[.int .i64 a0.1, .int .i64 (a0.2.1.getD 0 0), .int .i64 (a0.2.1.getD 1 0), .int .i64 (a0.2.1.getD 2 0), .int .i64 (a0.2.1.getD 3 0), .int .i64 (a0.2.1.getD 4 0), .int .i64 (a0.2.1.getD 5 0), v1, v2, .string a0.2.2.2.2.1, .string a0.2.2.2.2.2] 36 (0, 0))], pool] rfl ?_
        refine st_call (foot := []) rfl rfl rfl rfl (evs_cons e2 rfl) rfl (callV_fn z_en74 (ref18_plain_own_ok hr167 τ)) ?_
        rintro vτ168 τ168 gsτ168 hl169 ⟨v170, g171, rfl, rfl, ho172⟩
        refine st_ord [1, 1, 0, 0] _ rfl ?_
        exact hk _ _ [g171] hl169 trivial (by exact ⟨v170, g171, rfl, rfl, ho172⟩)
       ·intro ρ' τ pool rs hl hd hout hw hk
        obtain ⟨_, e4, rfl⟩ := hd 4 rfl _ rfl
        refine o_load (j := 1) (v := .string a0.2.2.2.2.2) rfl rfl rfl z_sc9 e4 rfl rfl ?_
        exact hk _ _ (Sto.Le.refl _) rfl
       ·intro ρ' τ u Fv pool rs hl hI hu hd hout hw hk
        obtain ⟨_, e5, rfl⟩ := hd 5 rfl _ rfl
        obtain ⟨v173, g174, rfl, rfl, ho175⟩ := hI
        refine st_gs [[(b6, .cells #[.string a1.1, .int .i64 a1.2.1, .int .i64 a1.2.2.1, .int .i64 a1.2.2.2.1, .int .i64 a1.2.2.2.2.1, .int .i64 a1.2.2.2.2.2.1, .int .i64 a1.2.2.2.2.2.2] 98 (0, 0))], [(b5, .cells #[.int .i64 a0.1, .int .i64 (a0.2.1.getD 0 0), .int .i64 (a0.2.1.getD 1 0), .int .i64 (a0.2.1.getD 2 0), .int .i64 (a0.2.1.getD 3 0), .int .i64 (a0.2.1.getD 4 0), .int .i64 (a0.2.1.getD 5 0), v1, v2, .string a0.2.2.2.2.1, .string a0.2.2.2.2.2] 36 (0, 0))], g174, pool] rfl ?_
        refine st_ord [2, 0, 0, 0] _ rfl ?_
        refine o_appendS (xs := r166) (s := a0.2.2.2.2.2) rfl rfl rfl rfl z_slT42 Tryz.underlying9 (hu (by decide) _ rfl) ho175 e5 hf179 hf180 (fun v176 g177 ho178 => ?_)
        refine st_ord [1, 1, 0, 0] _ rfl ?_
        exact hk _ _ [g177] (Sto.Le.refl _) trivial (by exact ⟨v176, g177, rfl, rfl, ho178⟩)
       intro ρ' τ184 vals u Fv hl184 hI hu hv hout
       obtain ⟨v181, g182, rfl, rfl, ho183⟩ := hI
       refine st_gs [[(b6, .cells #[.string a1.1, .int .i64 a1.2.1, .int .i64 a1.2.2.1, .int .i64 a1.2.2.2.1, .int .i64 a1.2.2.2.2.1, .int .i64 a1.2.2.2.2.2.1, .int .i64 a1.2.2.2.2.2.2] 98 (0, 0))], [(b5, .cells #[.int .i64 a0.1, .int .i64 (a0.2.1.getD 0 0), .int .i64 (a0.2.1.getD 1 0), .int .i64 (a0.2.1.getD 2 0), .int .i64 (a0.2.1.getD 3 0), .int .i64 (a0.2.1.getD 4 0), .int .i64 (a0.2.1.getD 5 0), v1, v2, .string a0.2.2.2.2.1, .string a0.2.2.2.2.2] 36 (0, 0))], g182] rfl ?_
       refine st_env (ρ' := [(4, .slice none 0 0), (135, v181)]) ⟨(hout 4 rfl).trans rfl, (by exact hu _ rfl), trivial⟩ ?_
       refine Z 3 rfl ?_
       refine st_ord [2] _ rfl ?_
       exact hk7 _ _ _ ⟨(r166 ++ bints a0.2.2.2.2.2), _, _, h, hl184, rfl, rfl, ho183⟩
      ·refine Z 2 rfl ?_
       refine st_addNil ?_
       refine st_ord [0] _ rfl ?_
       exact hk7 _ _ _ ⟨[], _, _, h, (Sto.Le.refl _), rfl, rfl, Ow.nil⟩
theorem ref18_Encode_ok {a0 : Int × List Int × List (List Int) × List Int × ByteArray × ByteArray} {a1 : Int} {v1 : Value} {v2 : Value} {r : List Int × Int} (h : ref18_Encode a0 a1 r) (σ : Sto) (hs3 : Sl (kA .i64 2) σ v1 a0.2.2.1) (hs4 : Sl (kI .i64) σ v2 a0.2.2.2.1) :
    Does Tryz.prog 29 [.agg [.int .i64 a0.1, .int .i64 (a0.2.1.getD 0 0), .int .i64 (a0.2.1.getD 1 0), .int .i64 (a0.2.1.getD 2 0), .int .i64 (a0.2.1.getD 3 0), .int .i64 (a0.2.1.getD 4 0), .int .i64 (a0.2.1.getD 5 0), v1, v2, .string a0.2.2.2.2.1, .string a0.2.2.2.2.2].toArray, .int .i64 a1] σ [] (fun v τ gs => ∃ (v65 : Value), gs = [] ∧ .tuple [v65, .int .i64 r.2].toArray = v ∧ Sl (kI .u8) τ v65 r.1) := by
 refine call_of Tryz.func29 Tryz.ntmps29 rfl rfl (fun cs fs => ?_)
 refine Z 2 rfl ?_
 refine o_box (cs := [.int .i64 a0.1, .int .i64 (a0.2.1.getD 0 0), .int .i64 (a0.2.1.getD 1 0), .int .i64 (a0.2.1.getD 2 0), .int .i64 (a0.2.1.getD 3 0), .int .i64 (a0.2.1.getD 4 0), .int .i64 (a0.2.1.getD 5 0), v1, v2, .string a0.2.2.2.2.1, .string a0.2.2.2.2.2]) rfl rfl rfl rfl rfl (fun b5 => ?_)
 refine Z 5 rfl ?_
 refine st_cut (fun ρ τ6 gs => ∃ (s6 : Bool), ref18_Encode_j1 a0 a1 s6 r ∧ σ.Le τ6 ∧ ESub ρ [(1, .int .i64 a1), (2, .pointer (some ⟨b5, 0, none⟩)), (4, .slice none 0 0), (5, .int .i64 0), (14, .bool s6)] ∧ gs = [[(b5, .cells #[.int .i64 a0.1, .int .i64 (a0.2.1.getD 0 0), .int .i64 (a0.2.1.getD 1 0), .int .i64 (a0.2.1.getD 2 0), .int .i64 (a0.2.1.getD 3 0), .int .i64 (a0.2.1.getD 4 0), .int .i64 (a0.2.1.getD 5 0), v1, v2, .string a0.2.2.2.2.1, .string a0.2.2.2.2.2] 36 (0, 0))]]) ?_ (fun hk6 => ?_)
 ·rintro ρ6 τ6 gs6 ⟨s6, h, hl6, hρ, rfl⟩
  refine st_es hρ ?_
  refine st_if rfl h (fun h => ?_) (fun h => ?_)
  ·refine Z 5 rfl ?_
   refine st_ord [] _ rfl ?_
   obtain rfl := Eq.symm h
   exact st_ret (gs' := []) Tryz.func29 rfl (List.Sublist.refl _) hl6 ⟨_, rfl, rfl, Sl.nil⟩
  ·refine ZZ 5 [0] rfl rfl ?_
   obtain ⟨r7, hr8, h⟩ := h
   refine st_call (foot := []) rfl rfl rfl rfl rfl rfl (callV_fn z_en24 (ref17_Check_ok hr8 τ6 (hs3.up hl6) (hs4.up hl6))) ?_
   rintro vτ9 τ9 gsτ9 hl10 ⟨rfl, rfl⟩
   refine Z 2 rfl ?_
   refine st_if rfl h (fun h => ?_) (fun h => ?_)
   ·refine ZZ 3 [0] rfl rfl ?_
    obtain ⟨r11, hr12, h⟩ := h
    refine st_call (foot := []) rfl rfl rfl rfl rfl rfl (callV_fn z_en24 (ref17_Check_ok hr12 τ9 (hs3.up (hl6.trans hl10)) (hs4.up (hl6.trans hl10)))) ?_
    rintro vτ13 τ13 gsτ13 hl14 ⟨rfl, rfl⟩
    refine Z 3 rfl ?_
    refine st_ord [] _ rfl ?_
    obtain rfl := Eq.symm h
    exact st_ret (gs' := []) Tryz.func29 rfl (List.Sublist.refl _) ((hl6.trans hl10).trans hl14) ⟨_, rfl, rfl, Sl.nil⟩
   ·refine ZZ 5 [0] rfl rfl ?_
    obtain ⟨r15, hr16, h⟩ := h
    refine st_call (foot := []) rfl rfl rfl rfl rfl rfl (callV_fn z_en45 (ref16_All_ok hr16 τ9)) ?_
    rintro vτ17 τ17 gsτ17 hl18 ⟨v19, rfl, rfl, hs20⟩
    refine Z 7 rfl ?_
    refine st_cut (fun ρ τ21 gs => ∃ (s21 : List Int) (v22 : Value) (g23 : Grp), ref18_Encode_j2 s21 r ∧ τ17.Le τ21 ∧ ESub ρ [(4, .slice none 0 0), (5, .int .i64 0), (7, v22)] ∧ gs = [g23] ∧ Ow (kI .u8) 5 τ21 v22 s21 g23) ?_ (fun hk21 => ?_)
    ·rintro ρ21 τ21 gs21 ⟨s21, v22, g23, h, hl21, hρ, rfl, ho24⟩
     refine st_es hρ ?_
     refine Z 6 rfl ?_
     refine st_freeze (fun τ25 hl26 hg27 => ?_)
     have hs28 := ho24.freeze hl26 hg27
     obtain rfl := Eq.symm h
     exact st_ret (gs' := []) Tryz.func29 rfl (List.Sublist.refl _) ((((hl6.trans hl10).trans hl18).trans hl21).trans hl26) ⟨_, rfl, rfl, hs28⟩
    refine Z 4 rfl ?_
    obtain ⟨e31, hL31, hA31⟩ := h
    refine st_addNil ?_
    refine st_ord [1, 0] _ rfl ?_
    refine st_loop hL31 (fun (s31 : List Int × Int) ρ τ31 gs => τ17.Le τ31 ∧ ∃ (v32 : Value) (g33 : Grp), ESub ρ [(1, .int .i64 a1), (2, .pointer (some ⟨b5, 0, none⟩)), (4, .slice none 0 0), (5, .int .i64 0), (6, v19), (7, v32), (8, .int .i64 s31.2)] ∧ gs = [[(b5, .cells #[.int .i64 a0.1, .int .i64 (a0.2.1.getD 0 0), .int .i64 (a0.2.1.getD 1 0), .int .i64 (a0.2.1.getD 2 0), .int .i64 (a0.2.1.getD 3 0), .int .i64 (a0.2.1.getD 4 0), .int .i64 (a0.2.1.getD 5 0), v1, v2, .string a0.2.2.2.2.1, .string a0.2.2.2.2.2] 36 (0, 0))], g33] ∧ Ow (kI .u8) 5 τ31 v32 s31.1 g33) ⟨Sto.Le.refl _, _, _, rfl, rfl, Ow.nil⟩ ?_
    rintro s31 o31 h he31 ρ31 τ31 gs31 ⟨hl31, v32, g33, hρ, rfl, ho34⟩ hn31
    refine st_es hρ ?_
    refine Z 5 rfl ?_
    refine o_lenI rfl rfl rfl z_slT94 rfl (hs20.up hl31) ?_
    refine Z 2 rfl ?_
    refine st_if rfl h (fun h => ?_) (fun h => ?_)
    ·refine Z 2 rfl ?_
     refine st_cut (fun ρ τ35 gs => ∃ (s35 : List Int) (v36 : Value) (g37 : Grp), ref18_Encode_j4 s31 s35 o31 ∧ τ31.Le τ35 ∧ ESub ρ [(1, .int .i64 a1), (2, .pointer (some ⟨b5, 0, none⟩)), (4, .slice none 0 0), (5, .int .i64 0), (6, v19), (8, .int .i64 s31.2), (7, v36)] ∧ gs = [[(b5, .cells #[.int .i64 a0.1, .int .i64 (a0.2.1.getD 0 0), .int .i64 (a0.2.1.getD 1 0), .int .i64 (a0.2.1.getD 2 0), .int .i64 (a0.2.1.getD 3 0), .int .i64 (a0.2.1.getD 4 0), .int .i64 (a0.2.1.getD 5 0), v1, v2, .string a0.2.2.2.2.1, .string a0.2.2.2.2.2] 36 (0, 0))], g37] ∧ Ow (kI .u8) 5 τ35 v36 s35 g37) ?_ (fun hk35 => ?_)
     ·rintro ρ35 τ35 gs35 ⟨s35, v36, g37, h, hl35, hρ, rfl, ho38⟩
      refine st_es hρ ?_
      refine Z 5 rfl ?_
      exact hn31 _ _ _ _ h ⟨(hl31.trans hl35), _, _, rfl, rfl, ho38⟩
     refine Z 5 rfl ?_
     obtain ⟨q39, hf40, h⟩ := h
     refine o_index rfl rfl rfl z_slT94 rfl rfl (hs20.up hl31) rfl hf40 (fun b41 of42 vs hc43 hrep => ?_)
     obtain ⟨_, _, rfl, rfl, ⟨_, _, rfl, rfl, ⟨_, _, rfl, rfl, ⟨_, _, rfl, rfl, ⟨_, _, rfl, rfl, ⟨_, _, rfl, rfl, rfl⟩⟩⟩⟩⟩⟩ := hrep
     refine o_fieldAddr rfl rfl rfl z_field98_5 rfl ?_
     refine o_loadI (v := .int .i64 q39.2.2.2.2.2.1) rfl rfl rfl z_sc3 rfl (hc43 5 _ rfl) ?_
     refine Z 3 rfl ?_
     refine st_if rfl h (fun h => ?_) (fun h => ?_)
     ·obtain ⟨q44, hf45, r49, hr50, hf58, hf59, h⟩ := h
      refine st_d41 [[(b5, .cells #[.int .i64 a0.1, .int .i64 (a0.2.1.getD 0 0), .int .i64 (a0.2.1.getD 1 0), .int .i64 (a0.2.1.getD 2 0), .int .i64 (a0.2.1.getD 3 0), .int .i64 (a0.2.1.getD 4 0), .int .i64 (a0.2.1.getD 5 0), v1, v2, .string a0.2.2.2.2.1, .string a0.2.2.2.2.2] 36 (0, 0))]] [g33] 8 1 [none, none, none, none, none, none, none, some (0, 0)] [none, none, none, none, none, none, none, none] [[none, some 43]] [.v (v32), .v (.agg #[.int .i64 a0.1, .int .i64 (a0.2.1.getD 0 0), .int .i64 (a0.2.1.getD 1 0), .int .i64 (a0.2.1.getD 2 0), .int .i64 (a0.2.1.getD 3 0), .int .i64 (a0.2.1.getD 4 0), .int .i64 (a0.2.1.getD 5 0), v1, v2, .string a0.2.2.2.2.1, .string a0.2.2.2.2.2]), .v (v19), .v (.int .i64 s31.2), .t fun τ v => ∃ (b46 : Nat) (of47 : Nat) (vsb46 : List Value), (.pointer (some ⟨b46, of47, none⟩) : Value) = v ∧ CelN τ ⟨b46, of47, none⟩ vsb46 ∧ (kP kS (kP (kI .i64) (kP (kI .i64) (kP (kI .i64) (kP (kI .i64) (kP (kI .i64) (kI .i64))))))).rep τ vsb46 q44, .v (.agg #[.string q44.1, .int .i64 q44.2.1, .int .i64 q44.2.2.1, .int .i64 q44.2.2.2.1, .int .i64 q44.2.2.2.2.1, .int .i64 q44.2.2.2.2.2.1, .int .i64 q44.2.2.2.2.2.2]), .t fun τ v => ∃ (v53 : Value), (v53 : Value) = v ∧ Sl (kI .u8) τ v53 r49, .t fun _ _ => True] [[fun τ u F => F = [g33], fun τ u F => ∃ (v60 : Value) (g61 : Grp), F = [g61] ∧ v60 = u ∧ Ow (kI .u8) 5 τ v60 (s31.1 ++ r49) g61]] rfl z_mix rfl ⟨fun _ _ _ hl ⟨b46, of47, vsb46, hv, hc48, hrepb46⟩ => ⟨b46, of47, vsb46, hv, hc48.up hl, Kd.mono _ hl hrepb46⟩, ⟨fun _ _ _ hl ⟨v53, hv, hs54⟩ => ⟨v53, hv, hs54.up hl⟩, ⟨fun _ _ _ _ _ => trivial, trivial⟩⟩⟩ ⟨⟨fun _ _ _ _ hl h => h, ⟨fun _ _ _ _ hl h => (let ⟨v60, g61, hF, hU, ho62⟩ := h; ⟨v60, g61, hF, hU, ho62.up hl⟩), trivial⟩⟩, trivial⟩ rfl rfl ?_ (allB_cons (allB_cons (allB_cons (allB_cons (allB_cons (allB_cons (allB_cons (allB_cons allB_nil (p4 dA)) ?_) (p4 dA)) (p4 dA)) ?_) ?_) ?_) ?_) ?_
      ·exact rfl
      ·intro ρ' τ pool rs hl hd hout hw hk
       refine o_loadN (j := 0) (vs := [.int .i64 a0.1, .int .i64 (a0.2.1.getD 0 0), .int .i64 (a0.2.1.getD 1 0), .int .i64 (a0.2.1.getD 2 0), .int .i64 (a0.2.1.getD 3 0), .int .i64 (a0.2.1.getD 4 0), .int .i64 (a0.2.1.getD 5 0), v1, v2, .string a0.2.2.2.2.1, .string a0.2.2.2.2.2]) rfl rfl rfl z_agg36 ((hout 2 rfl).trans rfl) rfl rfl ?_
       exact hk _ _ (Sto.Le.refl _) rfl
      ·intro ρ' τ pool rs hl hd hout hw hk
       obtain ⟨_, e2, rfl⟩ := hd 2 rfl _ rfl
       obtain ⟨_, e3, rfl⟩ := hd 3 rfl _ rfl
       refine o_index rfl rfl rfl z_slT94 rfl e2 (hs20.up (hl31.trans hl)) e3 hf45 (fun b46 of47 vsb46 hc48 hrepb46 => ?_)
       exact hk _ _ (Sto.Le.refl _) ⟨b46, of47, _, rfl, hc48, hrepb46⟩
      ·intro ρ' τ pool rs hl hd hout hw hk
       obtain ⟨_, e4, b46, of47, vsb46, rfl, hc48, hrepb46⟩ := hd 4 rfl _ rfl
       have hrepb46 := hrepb46
       obtain ⟨_, _, rfl, rfl, ⟨_, _, rfl, rfl, ⟨_, _, rfl, rfl, ⟨_, _, rfl, rfl, ⟨_, _, rfl, rfl, ⟨_, _, rfl, rfl, rfl⟩⟩⟩⟩⟩⟩ := hrepb46
       refine o_loadIN (vs := [.string q44.1, .int .i64 q44.2.1, .int .i64 q44.2.2.1, .int .i64 q44.2.2.2.1, .int .i64 q44.2.2.2.2.1, .int .i64 q44.2.2.2.2.2.1, .int .i64 q44.2.2.2.2.2.2]) rfl rfl rfl z_agg98 e4 rfl (celn_part 0 rfl hc48) ?_
       exact hk _ _ (Sto.Le.refl _) rfl
      ·intro ρ' τ pool rs hl hd hout hw hk
       obtain ⟨_, e1, rfl⟩ := hd 1 rfl _ rfl
       obtain ⟨_, e5, rfl⟩ := hd 5 rfl _ rfl
       refine st_call (foot := []) rfl rfl rfl rfl (evs_cons e1 (evs_cons e5 rfl)) rfl (callV_fn z_en57 (ref18_Part_ok hr50 τ (hs3.up ((((hl6.trans hl10).trans hl18).trans hl31).trans hl)) (hs4.up ((((hl6.trans hl10).trans hl18).trans hl31).trans hl)))) ?_
       rintro vτ51 τ51 gsτ51 hl52 ⟨v53, rfl, rfl, hs54⟩
       exact hk _ _ hl52 ⟨v53, rfl, hs54⟩
      ·intro ρ' τ u Fv pool rs hl hI hu hd hout hw hk
       obtain ⟨_, e0, rfl⟩ := hd 0 rfl _ rfl
       obtain ⟨_, e6, v53, rfl, hs54⟩ := hd 6 rfl _ rfl
       have hI0 := hI
       obtain rfl := hI
       refine st_gs [[(b5, .cells #[.int .i64 a0.1, .int .i64 (a0.2.1.getD 0 0), .int .i64 (a0.2.1.getD 1 0), .int .i64 (a0.2.1.getD 2 0), .int .i64 (a0.2.1.getD 3 0), .int .i64 (a0.2.1.getD 4 0), .int .i64 (a0.2.1.getD 5 0), v1, v2, .string a0.2.2.2.2.1, .string a0.2.2.2.2.2] 36 (0, 0))], g33, pool] rfl ?_
       refine st_ord [1, 0, 0] _ rfl ?_
       refine o_append (dk := (kI .u8)) (xs := s31.1) (ys := r49) rfl rfl rfl rfl z_slT42 e0 (ho34.up hl) e6 (Sl.src hs54) hf58 hf59 (fun v55 g56 ho57 => ?_)
       refine st_ord [1, 0, 0] _ rfl ?_
       exact hk _ _ [g56] (Sto.Le.refl _) trivial (by exact ⟨v55, g56, rfl, rfl, ho57⟩)
      intro ρ' τ63 vals u Fv hl63 hI hu hv hout
      obtain ⟨v60, g61, rfl, rfl, ho62⟩ := hI
      refine st_gs [[(b5, .cells #[.int .i64 a0.1, .int .i64 (a0.2.1.getD 0 0), .int .i64 (a0.2.1.getD 1 0), .int .i64 (a0.2.1.getD 2 0), .int .i64 (a0.2.1.getD 3 0), .int .i64 (a0.2.1.getD 4 0), .int .i64 (a0.2.1.getD 5 0), v1, v2, .string a0.2.2.2.2.1, .string a0.2.2.2.2.2] 36 (0, 0))], g61] rfl ?_
      refine st_env (ρ' := [(1, .int .i64 a1), (2, .pointer (some ⟨b5, 0, none⟩)), (4, .slice none 0 0), (5, .int .i64 0), (6, v19), (8, .int .i64 s31.2), (43, v60)]) ⟨(hout 1 rfl).trans rfl, (hout 2 rfl).trans rfl, (hout 4 rfl).trans rfl, (hout 5 rfl).trans rfl, (hout 6 rfl).trans rfl, (hout 8 rfl).trans rfl, (by exact hu _ rfl), trivial⟩ ?_
      refine Z 3 rfl ?_
      exact hk35 _ _ _ ⟨(s31.1 ++ r49), _, _, h, hl63, rfl, rfl, ho62⟩
     ·refine Z 2 rfl ?_
      exact hk35 _ _ _ ⟨s31.1, _, _, h, (Sto.Le.refl _), rfl, rfl, ho34⟩
    ·refine st_exit rfl ?_
     obtain rfl := he31 _ h
     replace h := hA31
     refine st_ord [1] _ rfl ?_
     exact hk21 _ _ _ ⟨s31.1, _, _, h, hl31, rfl, rfl, ho34⟩
 refine Z 3 rfl ?_
 refine o_mif rfl rfl rfl rfl h (fun h => ?_) (fun h => ?_)
 ·refine Z 4 rfl ?_
  exact hk6 _ _ _ ⟨(!(decide (a1 = 2))), h, (Sto.Le.refl _), rfl, rfl⟩
 ·refine Z 4 rfl ?_
  exact hk6 _ _ _ ⟨false, h, (Sto.Le.refl _), rfl, rfl⟩
theorem ref02_Field_ok {a0 : List Int} {v1 : Value} {r : List Int} (h : ref02_Field a0 r) (σ : Sto) (hs2 : Sl (kI .u8) σ v1 a0) :
    Does Tryz.prog 30 [v1] σ [] (fun v τ gs => ∃ (v27 : Value), gs = [] ∧ v27 = v ∧ Sl (kI .u8) τ v27 r) := by
 refine call_of Tryz.func30 Tryz.ntmps30 rfl rfl (fun cs fs => ?_)
 refine Z 7 rfl ?_
 refine o_lenI rfl rfl rfl z_slT42 rfl hs2 ?_
 refine o_conv rfl rfl rfl Tryz.underlying3 Tryz.underlying77 rfl ?_
 refine o_litE (eI .u64) [(IntKind.u64.wrap (a0.length : Int))] rfl rfl rfl z_slT112 z_zero77 ⟨rfl, ⟨_, rfl, rfl⟩, trivial⟩ rfl rfl rfl rfl (fun v3 g4 ho5 => ?_)
 obtain ⟨r10, hr11, h⟩ := h
 refine st_freeze (fun τ6 hl7 hg8 => ?_)
 have hs9 := ho5.freeze hl7 hg8
 refine st_call (foot := []) rfl rfl rfl rfl rfl rfl (callV_fn z_en58 (ref01_Put_own_ok hr11 τ6 hs9)) ?_
 rintro vτ12 τ12 gsτ12 hl13 ⟨v14, g15, rfl, rfl, ho16⟩
 refine o_move rfl rfl rfl rfl ?_
 obtain ⟨hf20, hf21, h⟩ := h
 refine o_append (dk := (kI .u8)) (xs := r10) (ys := a0) rfl rfl rfl rfl z_slT42 rfl ho16 rfl (Sl.src (hs2.up (hl7.trans hl13))) hf20 hf21 (fun v17 g18 ho19 => ?_)
 refine Z 2 rfl ?_
 refine st_freeze (fun τ22 hl23 hg24 => ?_)
 have hs25 := ho19.freeze hl23 hg24
 obtain rfl := Eq.symm h
 exact st_ret (gs' := []) Tryz.func30 rfl (List.Sublist.refl _) ((hl7.trans hl13).trans hl23) ⟨_, rfl, rfl, hs25⟩
theorem ref34_Bytes_ok {a0 : List (Int × Int × Int × Int × (Int × List Int × List (List Int) × List Int × ByteArray × ByteArray))} {v1 : Value} {r : List Int × Int} (h : ref34_Bytes a0 r) (σ : Sto) (hs2 : Sl (kP (kI .i64) (kP (kI .u32) (kP (kI .i64) (kP (kI .i64) (kP (kI .i64) (kP (kA .i64 6) (kP (kSl (kA .i64 2)) (kP (kSl (kI .i64)) (kP kS kS))))))))) σ v1 a0) :
    Does Tryz.prog 10 [v1] σ [] (fun v τ gs => ∃ (v109 : Value), gs = [] ∧ .tuple [v109, .int .i64 r.2].toArray = v ∧ Sl (kI .u8) τ v109 r.1) := by
 refine call_of Tryz.func10 Tryz.ntmps10 rfl rfl (fun cs fs => ?_)
 refine Z 10 rfl ?_
 refine st_cut (fun ρ τ3 gs => ∃ (s3 : List Int) (v4 : Value) (g5 : Grp), ref34_Bytes_j1 s3 r ∧ σ.Le τ3 ∧ ESub ρ [(2, .slice none 0 0), (3, .int .i64 0), (4, v4)] ∧ gs = [g5] ∧ Ow (kI .u8) 5 τ3 v4 s3 g5) ?_ (fun hk3 => ?_)
 ·rintro ρ3 τ3 gs3 ⟨s3, v4, g5, h, hl3, hρ, rfl, ho6⟩
  refine st_es hρ ?_
  refine Z 6 rfl ?_
  refine st_freeze (fun τ7 hl8 hg9 => ?_)
  have hs10 := ho6.freeze hl8 hg9
  obtain rfl := Eq.symm h
  exact st_ret (gs' := []) Tryz.func10 rfl (List.Sublist.refl _) (hl3.trans hl8) ⟨_, rfl, rfl, hs10⟩
 refine Z 4 rfl ?_
 obtain ⟨e13, hL13, hA13⟩ := h
 refine st_addNil ?_
 refine st_loop hL13 (fun (s13 : List Int × Int) ρ τ13 gs => σ.Le τ13 ∧ ∃ (v14 : Value) (g15 : Grp), ESub ρ [(0, v1), (2, .slice none 0 0), (3, .int .i64 0), (4, v14), (5, .int .i64 s13.2)] ∧ gs = [g15] ∧ Ow (kI .u8) 5 τ13 v14 s13.1 g15) ⟨Sto.Le.refl _, _, _, rfl, rfl, Ow.nil⟩ ?_
 rintro s13 o13 h he13 ρ13 τ13 gs13 ⟨hl13, v14, g15, hρ, rfl, ho16⟩ hn13
 refine st_es hρ ?_
 refine Z 5 rfl ?_
 refine o_lenI rfl rfl rfl z_slT23 rfl (hs2.up hl13) ?_
 refine Z 2 rfl ?_
 refine st_if rfl h (fun h => ?_) (fun h => ?_)
 ·refine Z 7 rfl ?_
  obtain ⟨q17, hf18, h⟩ := h
  refine o_index rfl rfl rfl z_slT23 rfl rfl (hs2.up hl13) rfl hf18 (fun b19 of20 vs hc23 hrep => ?_)
  obtain ⟨_, _, rfl, rfl, ⟨_, _, rfl, rfl, ⟨_, _, rfl, rfl, ⟨_, _, rfl, rfl, ⟨_, _, rfl, rfl, ⟨_, _, rfl, rfl, ⟨_, _, rfl, ⟨v21, rfl, hs24⟩, ⟨_, _, rfl, ⟨v22, rfl, hs25⟩, ⟨_, _, rfl, rfl, rfl⟩⟩⟩⟩⟩⟩⟩⟩⟩ := hrep
  refine o_loadIN (vs := [.int .i64 q17.1, .int .u32 q17.2.1, .int .i64 q17.2.2.1, .int .i64 q17.2.2.2.1, .int .i64 q17.2.2.2.2.1, .int .i64 (q17.2.2.2.2.2.1.getD 0 0), .int .i64 (q17.2.2.2.2.2.1.getD 1 0), .int .i64 (q17.2.2.2.2.2.1.getD 2 0), .int .i64 (q17.2.2.2.2.2.1.getD 3 0), .int .i64 (q17.2.2.2.2.2.1.getD 4 0), .int .i64 (q17.2.2.2.2.2.1.getD 5 0), v21, v22, .string q17.2.2.2.2.2.2.2.2.1, .string q17.2.2.2.2.2.2.2.2.2]) rfl rfl rfl z_agg38 rfl rfl (celn_part 0 rfl hc23) ?_
  refine o_alloc rfl rfl rfl z_zero38 (fun b26 => ?_)
  refine o_store (j := 0) (vs := [.int .i64 q17.1, .int .u32 q17.2.1, .int .i64 q17.2.2.1, .int .i64 q17.2.2.2.1, .int .i64 q17.2.2.2.2.1, .int .i64 (q17.2.2.2.2.2.1.getD 0 0), .int .i64 (q17.2.2.2.2.2.1.getD 1 0), .int .i64 (q17.2.2.2.2.2.1.getD 2 0), .int .i64 (q17.2.2.2.2.2.1.getD 3 0), .int .i64 (q17.2.2.2.2.2.1.getD 4 0), .int .i64 (q17.2.2.2.2.2.1.getD 5 0), v21, v22, .string q17.2.2.2.2.2.2.2.2.1, .string q17.2.2.2.2.2.2.2.2.2]) (cs' := [.int .i64 q17.1, .int .u32 q17.2.1, .int .i64 q17.2.2.1, .int .i64 q17.2.2.2.1, .int .i64 q17.2.2.2.2.1, .int .i64 (q17.2.2.2.2.2.1.getD 0 0), .int .i64 (q17.2.2.2.2.2.1.getD 1 0), .int .i64 (q17.2.2.2.2.2.1.getD 2 0), .int .i64 (q17.2.2.2.2.2.1.getD 3 0), .int .i64 (q17.2.2.2.2.2.1.getD 4 0), .int .i64 (q17.2.2.2.2.2.1.getD 5 0), v21, v22, .string q17.2.2.2.2.2.2.2.2.1, .string q17.2.2.2.2.2.2.2.2.2]) rfl rfl rfl z_size38 rfl rfl rfl (ones_cons rfl (ones_cons rfl (ones_cons rfl (ones_cons rfl (ones_cons rfl (ones_cons rfl (ones_cons rfl (ones_cons rfl (ones_cons rfl (ones_cons rfl (ones_cons rfl (ones_cons hs24.one' (ones_cons hs25.one' (ones_cons rfl (ones_cons rfl ones_nil))))))))))))))) rfl rfl rfl ?_
  refine st_gs [[(b26, .cells #[.int .i64 q17.1, .int .u32 q17.2.1, .int .i64 q17.2.2.1, .int .i64 q17.2.2.2.1, .int .i64 q17.2.2.2.2.1, .int .i64 (q17.2.2.2.2.2.1.getD 0 0), .int .i64 (q17.2.2.2.2.2.1.getD 1 0), .int .i64 (q17.2.2.2.2.2.1.getD 2 0), .int .i64 (q17.2.2.2.2.2.1.getD 3 0), .int .i64 (q17.2.2.2.2.2.1.getD 4 0), .int .i64 (q17.2.2.2.2.2.1.getD 5 0), v21, v22, .string q17.2.2.2.2.2.2.2.2.1, .string q17.2.2.2.2.2.2.2.2.2] 38 (0, 0))], g15] rfl ?_
  refine ZZ 5 [0] rfl rfl ?_
  obtain ⟨r27, hr28, h⟩ := h
  refine st_call (foot := []) rfl rfl rfl rfl rfl rfl (callV_fn z_en8 (ref34_Check_ok hr28 τ13 hs24 hs25)) ?_
  rintro vτ29 τ29 gsτ29 hl30 ⟨rfl, rfl⟩
  refine Z 2 rfl ?_
  refine st_if rfl h (fun h => ?_) (fun h => ?_)
  ·refine ZZ 3 [0] rfl rfl ?_
   obtain ⟨r31, hr32, h⟩ := h
   refine st_call (foot := []) rfl rfl rfl rfl rfl rfl (callV_fn z_en8 (ref34_Check_ok hr32 τ29 (hs24.up hl30) (hs25.up hl30))) ?_
   rintro vτ33 τ33 gsτ33 hl34 ⟨rfl, rfl⟩
   refine Z 3 rfl ?_
   refine st_ord [] _ rfl ?_
   obtain rfl := he13 _ h
   replace h := hA13
   obtain rfl := Eq.symm h
   exact st_ret (gs' := []) Tryz.func10 rfl (List.Sublist.refl _) ((hl13.trans hl30).trans hl34) ⟨_, rfl, rfl, Sl.nil⟩
  ·refine Z 2 rfl ?_
   obtain ⟨r41, hr42, hf50, hf51, h⟩ := h
   refine st_d41 [[(b26, .cells #[.int .i64 q17.1, .int .u32 q17.2.1, .int .i64 q17.2.2.1, .int .i64 q17.2.2.2.1, .int .i64 q17.2.2.2.2.1, .int .i64 (q17.2.2.2.2.2.1.getD 0 0), .int .i64 (q17.2.2.2.2.2.1.getD 1 0), .int .i64 (q17.2.2.2.2.2.1.getD 2 0), .int .i64 (q17.2.2.2.2.2.1.getD 3 0), .int .i64 (q17.2.2.2.2.2.1.getD 4 0), .int .i64 (q17.2.2.2.2.2.1.getD 5 0), v21, v22, .string q17.2.2.2.2.2.2.2.2.1, .string q17.2.2.2.2.2.2.2.2.2] 38 (0, 0))], g15] [] 8 2 [none, none, none, some (0, 0), none, none, none, some (0, 1)] [none, none, none, none, none, none, none, none] [[none, some 28, some 32]] [.v (.pointer (some ⟨b26, 0, none⟩)), .v (.int .i64 q17.1), .v (.int .u8 (IntKind.u8.wrap q17.1)), .t fun _ _ => True, .v (.pointer (some ⟨b26, 1, none⟩)), .v (.int .u32 q17.2.1), .t fun τ v => ∃ (v45 : Value), (v45 : Value) = v ∧ Sl (kI .u8) τ v45 r41, .t fun _ _ => True] [[fun τ u F => F = [], fun τ u F => ∃ (v38 : Value) (g39 : Grp), F = [g39] ∧ v38 = u ∧ Ow (kI .u8) 5 τ v38 [(IntKind.u8.wrap q17.1)] g39, fun τ u F => ∃ (v52 : Value) (g53 : Grp), F = [g53] ∧ v52 = u ∧ Ow (kI .u8) 5 τ v52 ([(IntKind.u8.wrap q17.1)] ++ r41) g53]] rfl z_mix rfl ⟨fun _ _ _ _ _ => trivial, ⟨fun _ _ _ hl ⟨v45, hv, hs46⟩ => ⟨v45, hv, hs46.up hl⟩, ⟨fun _ _ _ _ _ => trivial, trivial⟩⟩⟩ ⟨⟨fun _ _ _ _ hl h => h, ⟨fun _ _ _ _ hl h => (let ⟨v38, g39, hF, hU, ho40⟩ := h; ⟨v38, g39, hF, hU, ho40.up hl⟩), ⟨fun _ _ _ _ hl h => (let ⟨v52, g53, hF, hU, ho54⟩ := h; ⟨v52, g53, hF, hU, ho54.up hl⟩), trivial⟩⟩⟩, trivial⟩ rfl rfl ?_ (allB_cons (allB_cons (allB_cons (allB_cons (allB_cons (allB_cons (allB_cons (allB_cons allB_nil (p4 dA)) ?_) (p4 dA)) ?_) (p4 dA)) ?_) ?_) ?_) ?_
   ·exact rfl
   ·intro ρ' τ pool rs hl hd hout hw hk
    obtain ⟨_, e0, rfl⟩ := hd 0 rfl _ rfl
    refine o_load (j := 0) (v := .int .i64 q17.1) rfl rfl rfl z_sc3 e0 rfl rfl ?_
    exact hk _ _ (Sto.Le.refl _) rfl
   ·intro ρ' τ u Fv pool rs hl hI hu hd hout hw hk
    obtain ⟨_, e2, rfl⟩ := hd 2 rfl _ rfl
    have hI0 := hI
    obtain rfl := hI
    refine st_gs [[(b26, .cells #[.int .i64 q17.1, .int .u32 q17.2.1, .int .i64 q17.2.2.1, .int .i64 q17.2.2.2.1, .int .i64 q17.2.2.2.2.1, .int .i64 (q17.2.2.2.2.2.1.getD 0 0), .int .i64 (q17.2.2.2.2.2.1.getD 1 0), .int .i64 (q17.2.2.2.2.2.1.getD 2 0), .int .i64 (q17.2.2.2.2.2.1.getD 3 0), .int .i64 (q17.2.2.2.2.2.1.getD 4 0), .int .i64 (q17.2.2.2.2.2.1.getD 5 0), v21, v22, .string q17.2.2.2.2.2.2.2.2.1, .string q17.2.2.2.2.2.2.2.2.2] 38 (0, 0))], g15, pool] rfl ?_
    refine o_litE (eI .u8) [(IntKind.u8.wrap q17.1)] rfl rfl rfl z_slT42 z_zero5 ⟨rfl, ⟨_, e2, rfl⟩, trivial⟩ rfl rfl rfl rfl (fun v35 g36 ho37 => ?_)
    refine st_ord [1, 1, 0, 0] _ rfl ?_
    exact hk _ _ [g36] (Sto.Le.refl _) trivial (by exact ⟨v35, g36, rfl, rfl, ho37⟩)
   ·intro ρ' τ pool rs hl hd hout hw hk
    obtain ⟨_, e4, rfl⟩ := hd 4 rfl _ rfl
    refine o_load (j := 0) (v := .int .u32 q17.2.1) rfl rfl rfl z_sc24 e4 rfl rfl ?_
    exact hk _ _ (Sto.Le.refl _) rfl
   ·intro ρ' τ pool rs hl hd hout hw hk
    obtain ⟨_, e5, rfl⟩ := hd 5 rfl _ rfl
    refine st_call (foot := []) rfl rfl rfl rfl (evs_cons e5 (evs_cons rfl rfl)) rfl (callV_fn z_en28 (ref02_Word_ok hr42 τ)) ?_
    rintro vτ43 τ43 gsτ43 hl44 ⟨v45, rfl, rfl, hs46⟩
    exact hk _ _ hl44 ⟨v45, rfl, hs46⟩
   ·intro ρ' τ u Fv pool rs hl hI hu hd hout hw hk
    obtain ⟨_, e6, v45, rfl, hs46⟩ := hd 6 rfl _ rfl
    obtain ⟨v38, g39, rfl, rfl, ho40⟩ := hI
    refine st_gs [[(b26, .cells #[.int .i64 q17.1, .int .u32 q17.2.1, .int .i64 q17.2.2.1, .int .i64 q17.2.2.2.1, .int .i64 q17.2.2.2.2.1, .int .i64 (q17.2.2.2.2.2.1.getD 0 0), .int .i64 (q17.2.2.2.2.2.1.getD 1 0), .int .i64 (q17.2.2.2.2.2.1.getD 2 0), .int .i64 (q17.2.2.2.2.2.1.getD 3 0), .int .i64 (q17.2.2.2.2.2.1.getD 4 0), .int .i64 (q17.2.2.2.2.2.1.getD 5 0), v21, v22, .string q17.2.2.2.2.2.2.2.2.1, .string q17.2.2.2.2.2.2.2.2.2] 38 (0, 0))], g15, g39, pool] rfl ?_
    refine st_ord [2, 0, 0, 0] _ rfl ?_
    refine o_append (dk := (kI .u8)) (xs := [(IntKind.u8.wrap q17.1)]) (ys := r41) rfl rfl rfl rfl z_slT42 (hu (by decide) _ rfl) ho40 e6 (Sl.src hs46) hf50 hf51 (fun v47 g48 ho49 => ?_)
    refine st_ord [1, 1, 0, 0] _ rfl ?_
    exact hk _ _ [g48] (Sto.Le.refl _) trivial (by exact ⟨v47, g48, rfl, rfl, ho49⟩)
   intro ρ' τ55 vals u Fv hl55 hI hu hv hout
   obtain ⟨v52, g53, rfl, rfl, ho54⟩ := hI
   refine st_gs [[(b26, .cells #[.int .i64 q17.1, .int .u32 q17.2.1, .int .i64 q17.2.2.1, .int .i64 q17.2.2.2.1, .int .i64 q17.2.2.2.2.1, .int .i64 (q17.2.2.2.2.2.1.getD 0 0), .int .i64 (q17.2.2.2.2.2.1.getD 1 0), .int .i64 (q17.2.2.2.2.2.1.getD 2 0), .int .i64 (q17.2.2.2.2.2.1.getD 3 0), .int .i64 (q17.2.2.2.2.2.1.getD 4 0), .int .i64 (q17.2.2.2.2.2.1.getD 5 0), v21, v22, .string q17.2.2.2.2.2.2.2.2.1, .string q17.2.2.2.2.2.2.2.2.2] 38 (0, 0))], g15, g53] rfl ?_
   refine st_env (ρ' := [(0, v1), (2, .slice none 0 0), (3, .int .i64 0), (4, v14), (5, .int .i64 s13.2), (6, .pointer (some ⟨b26, 0, none⟩)), (32, v52)]) ⟨(hout 0 rfl).trans rfl, (hout 2 rfl).trans rfl, (hout 3 rfl).trans rfl, (hout 4 rfl).trans rfl, (hout 5 rfl).trans rfl, (hout 6 rfl).trans rfl, (by exact hu _ rfl), trivial⟩ ?_
   refine Z 3 rfl ?_
   refine st_cut (fun ρ τ56 gs => ∃ (s56 : List Int) (v57 : Value) (g58 : Grp), ref34_Bytes_j3 s13 q17 s56 o13 ∧ τ55.Le τ56 ∧ ESub ρ [(0, v1), (2, .slice none 0 0), (3, .int .i64 0), (4, v14), (5, .int .i64 s13.2), (6, .pointer (some ⟨b26, 0, none⟩)), (7, v57)] ∧ gs = [[(b26, .cells #[.int .i64 q17.1, .int .u32 q17.2.1, .int .i64 q17.2.2.1, .int .i64 q17.2.2.2.1, .int .i64 q17.2.2.2.2.1, .int .i64 (q17.2.2.2.2.2.1.getD 0 0), .int .i64 (q17.2.2.2.2.2.1.getD 1 0), .int .i64 (q17.2.2.2.2.2.1.getD 2 0), .int .i64 (q17.2.2.2.2.2.1.getD 3 0), .int .i64 (q17.2.2.2.2.2.1.getD 4 0), .int .i64 (q17.2.2.2.2.2.1.getD 5 0), v21, v22, .string q17.2.2.2.2.2.2.2.2.1, .string q17.2.2.2.2.2.2.2.2.2] 38 (0, 0))], g15, g58] ∧ Ow (kI .u8) 5 τ56 v57 s56 g58) ?_ (fun hk56 => ?_)
   ·rintro ρ56 τ56 gs56 ⟨s56, v57, g58, h, hl56, hρ, rfl, ho59⟩
    refine st_es hρ ?_
    refine st_seq ?_
    refine st_cut (fun ρ τ60 gs => ∃ (s60 : List Int) (v61 : Value) (g62 : Grp), ref34_Bytes_j4 s13 s60 o13 ∧ τ56.Le τ60 ∧ ESub ρ [(0, v1), (2, .slice none 0 0), (3, .int .i64 0), (4, v14), (5, .int .i64 s13.2), (7, v61)] ∧ gs = [g15, g62] ∧ Ow (kI .u8) 5 τ60 v61 s60 g62) ?_ (fun hk60 => ?_)
    ·rintro ρ60 τ60 gs60 ⟨s60, v61, g62, h, hl60, hρ, rfl, ho63⟩
     refine st_es hρ ?_
     refine Z 3 rfl ?_
     obtain ⟨r69, hr70, h⟩ := h
     refine st_ord [1, 0] _ rfl ?_
     refine st_freeze (fun τ64 hl65 hg66 => ?_)
     have hs67 := ho63.freeze hl65 hg66
     refine st_call (foot := []) rfl rfl rfl rfl rfl rfl (callV_fn z_en30 (ref02_Field_ok hr70 τ64 hs67)) ?_
     rintro vτ71 τ71 gsτ71 hl72 ⟨v73, rfl, rfl, hs74⟩
     obtain ⟨hf78, hf79, h⟩ := h
     refine o_append (dk := (kI .u8)) (xs := s13.1) (ys := r69) rfl rfl rfl rfl z_slT42 rfl (ho16.up (((((hl30.trans hl55).trans hl56).trans hl60).trans hl65).trans hl72)) rfl (Sl.src hs74) hf78 hf79 (fun v75 g76 ho77 => ?_)
     refine Z 8 rfl ?_
     exact hn13 _ _ _ _ h ⟨((((((hl13.trans hl30).trans hl55).trans hl56).trans hl60).trans hl65).trans hl72), _, _, rfl, rfl, ho77⟩
    refine ZZ 6 [0] rfl rfl ?_
    refine st_if rfl h (fun h => ?_) (fun h => ?_)
    ·refine ZZ 5 [0] rfl rfl ?_
     refine o_litE (eI .u8) [(IntKind.u8.wrap q17.2.2.2.1)] rfl rfl rfl z_slT42 z_zero5 ⟨rfl, ⟨_, rfl, rfl⟩, trivial⟩ rfl rfl rfl rfl (fun v80 g81 ho82 => ?_)
     obtain ⟨hf86, hf87, h⟩ := h
     refine st_ord [3, 0, 0, 0] _ rfl ?_
     refine o_append (dk := (kI .u8)) (xs := s56) (ys := [(IntKind.u8.wrap q17.2.2.2.1)]) rfl rfl rfl rfl z_slT42 rfl ho59 rfl (Ow.src (j := 1) ho82 rfl) hf86 hf87 (fun v83 g84 ho85 => ?_)
     refine Z 2 rfl ?_
     refine st_ord [3, 0] _ rfl ?_
     exact hk60 _ _ _ ⟨(s56 ++ [(IntKind.u8.wrap q17.2.2.2.1)]), _, _, h, (Sto.Le.refl _), rfl, rfl, ho85⟩
    ·refine st_skip ?_
     refine st_ord [1, 1] _ rfl ?_
     exact hk60 _ _ _ ⟨s56, _, _, h, (Sto.Le.refl _), rfl, rfl, ho59⟩
   refine ZZ 6 [0] rfl rfl ?_
   refine st_if rfl h (fun h => ?_) (fun h => ?_)
   ·refine ZZ 4 [0] rfl rfl ?_
    obtain ⟨r88, hr89, h⟩ := h
    refine st_call (foot := []) rfl rfl rfl rfl rfl rfl (callV_fn z_en29 (ref18_Encode_ok hr89 τ55 (hs24.up (hl30.trans hl55)) (hs25.up (hl30.trans hl55)))) ?_
    rintro vτ90 τ90 gsτ90 hl91 ⟨v92, rfl, rfl, hs93⟩
    refine ZZ 15 [0, 0] rfl rfl ?_
    refine o_litE (eI .u8) [(IntKind.u8.wrap q17.2.2.1), (IntKind.u8.wrap q17.2.2.2.2.1)] rfl rfl rfl z_slT42 z_zero5 ⟨rfl, ⟨_, rfl, rfl⟩, ⟨rfl, ⟨_, rfl, rfl⟩, trivial⟩⟩ rfl rfl rfl rfl (fun v94 g95 ho96 => ?_)
    obtain ⟨hf100, hf101, h⟩ := h
    refine st_ord [3, 0, 0, 0] _ rfl ?_
    refine o_append (dk := (kI .u8)) (xs := ([(IntKind.u8.wrap q17.1)] ++ r41)) (ys := [(IntKind.u8.wrap q17.2.2.1), (IntKind.u8.wrap q17.2.2.2.2.1)]) rfl rfl rfl rfl z_slT42 rfl (ho54.up hl91) rfl (Ow.src (j := 1) ho96 rfl) hf100 hf101 (fun v97 g98 ho99 => ?_)
    refine o_move rfl rfl rfl rfl ?_
    obtain ⟨hf105, hf106, h⟩ := h
    refine o_append (dk := (kI .u8)) (xs := (([(IntKind.u8.wrap q17.1)] ++ r41) ++ [(IntKind.u8.wrap q17.2.2.1), (IntKind.u8.wrap q17.2.2.2.2.1)])) (ys := r88.1) rfl rfl rfl rfl z_slT42 rfl ho99 rfl (Sl.src hs93) hf105 hf106 (fun v102 g103 ho104 => ?_)
    refine Z 2 rfl ?_
    refine st_ord [2, 2, 0] _ rfl ?_
    exact hk56 _ _ _ ⟨((([(IntKind.u8.wrap q17.1)] ++ r41) ++ [(IntKind.u8.wrap q17.2.2.1), (IntKind.u8.wrap q17.2.2.2.2.1)]) ++ r88.1), _, _, h, hl91, rfl, rfl, ho104⟩
   ·refine st_skip ?_
    exact hk56 _ _ _ ⟨([(IntKind.u8.wrap q17.1)] ++ r41), _, _, h, (Sto.Le.refl _), rfl, rfl, ho54⟩
 ·refine st_exit rfl ?_
  obtain rfl := he13 _ h
  replace h := hA13
  exact hk3 _ _ _ ⟨s13.1, _, _, h, hl13, rfl, rfl, ho16⟩
theorem ref01_Same_ok {a0 : List Int} {a1 : List Int} {v1 : Value} {v3 : Value} {r : Bool} (h : ref01_Same a0 a1 r) (σ : Sto) (hs2 : Sl (kI .u8) σ v1 a0) (hs4 : Sl (kI .u8) σ v3 a1) :
    Does Tryz.prog 11 [v1, v3] σ [] (fun v τ gs => gs = [] ∧ .bool r = v) := by
 refine call_of Tryz.func11 Tryz.ntmps11 rfl rfl (fun cs fs => ?_)
 refine Z 8 rfl ?_
 refine o_lenI rfl rfl rfl z_slT42 rfl hs2 ?_
 refine o_move rfl rfl rfl rfl ?_
 refine o_lenI rfl rfl rfl z_slT42 rfl hs4 ?_
 refine Z 2 rfl ?_
 refine st_if rfl h (fun h => ?_) (fun h => ?_)
 ·refine Z 4 rfl ?_
  obtain rfl := Eq.symm h
  exact st_ret (gs' := []) Tryz.func11 rfl (List.Sublist.refl _) (Sto.Le.refl _) ⟨rfl, rfl⟩
 ·refine Z 2 rfl ?_
  refine st_cut (fun ρ τ5 gs => ∃ (s5 : Unit), ref01_Same_j1 s5 r ∧ σ.Le τ5 ∧ ESub ρ [(4, .bool false)] ∧ gs = []) ?_ (fun hk5 => ?_)
  ·rintro ρ5 τ5 gs5 ⟨s5, h, hl5, hρ, rfl⟩
   refine st_es hρ ?_
   refine Z 4 rfl ?_
   obtain rfl := Eq.symm h
   exact st_ret (gs' := []) Tryz.func11 rfl (List.Sublist.refl _) hl5 ⟨rfl, rfl⟩
  refine Z 4 rfl ?_
  obtain ⟨e6, hL6, hA6⟩ := h
  refine st_loop hL6 (fun (s6 : Int) ρ τ6 gs => σ.Le τ6 ∧ ESub ρ [(0, v1), (1, v3), (4, .bool false), (5, .int .i64 s6)] ∧ gs = []) ⟨Sto.Le.refl _, rfl, rfl⟩ ?_
  rintro s6 o6 h he6 ρ6 τ6 gs6 ⟨hl6, hρ, rfl⟩ hn6
  refine st_es hρ ?_
  refine Z 5 rfl ?_
  refine o_lenI rfl rfl rfl z_slT42 rfl (hs2.up hl6) ?_
  refine Z 2 rfl ?_
  refine st_if rfl h (fun h => ?_) (fun h => ?_)
  ·refine Z 4 rfl ?_
   obtain ⟨q7, hf8, q12, hf13, h⟩ := h
   refine st_draw 9 (dl [.v (v1), .v (.int .i64 s6), .t fun τ v => ∃ (b9 : Nat) (of10 : Nat) (vsb9 : List Value), (.pointer (some ⟨b9, of10, none⟩) : Value) = v ∧ CelN τ ⟨b9, of10, none⟩ vsb9 ∧ (kI .u8).rep τ vsb9 q7, .v (.int .u8 q7), .v (v3), .v (.int .i64 s6), .t fun τ v => ∃ (b14 : Nat) (of15 : Nat) (vsb14 : List Value), (.pointer (some ⟨b14, of15, none⟩) : Value) = v ∧ CelN τ ⟨b14, of15, none⟩ vsb14 ∧ (kI .u8).rep τ vsb14 q12, .v (.int .u8 q12), .v (.bool (!(decide (q7 = q12))))]) (fun _ _ => []) z_mix rfl (dl_mono ⟨fun _ _ _ hl ⟨b9, of10, vsb9, hv, hc11, hrepb9⟩ => ⟨b9, of10, vsb9, hv, hc11.up hl, Kd.mono _ hl hrepb9⟩, ⟨fun _ _ _ hl ⟨b14, of15, vsb14, hv, hc16, hrepb14⟩ => ⟨b14, of15, vsb14, hv, hc16.up hl, Kd.mono _ hl hrepb14⟩, trivial⟩⟩) (allB_cons (allB_cons (allB_cons (allB_cons (allB_cons (allB_cons (allB_cons (allB_cons (allB_cons allB_nil (p1 dA)) (p1 dA)) ?_) ?_) (p1 dA)) (p1 dA)) ?_) ?_) (p1 dA)) ?_
   ·intro ρ' τ pool rs hl hd hout hk
    obtain ⟨_, e0, rfl⟩ := hd 0 rfl
    obtain ⟨_, e1, rfl⟩ := hd 1 rfl
    refine o_index rfl rfl rfl z_slT42 rfl e0 (hs2.up (hl6.trans hl)) e1 hf8 (fun b9 of10 vsb9 hc11 hrepb9 => ?_)
    exact st_addNil (hk _ _ (Sto.Le.refl _) ⟨b9, of10, _, rfl, hc11, hrepb9⟩)
   ·intro ρ' τ pool rs hl hd hout hk
    obtain ⟨_, e2, b9, of10, vsb9, rfl, hc11, hrepb9⟩ := hd 2 rfl
    have hrepb9 := hrepb9
    obtain rfl := hrepb9
    refine o_loadI (v := .int .u8 q7) rfl rfl rfl z_sc5 e2 (hc11 0 _ rfl) ?_
    exact st_addNil (hk _ _ (Sto.Le.refl _) rfl)
   ·intro ρ' τ pool rs hl hd hout hk
    obtain ⟨_, e4, rfl⟩ := hd 4 rfl
    obtain ⟨_, e5, rfl⟩ := hd 5 rfl
    refine o_index rfl rfl rfl z_slT42 rfl e4 (hs4.up (hl6.trans hl)) e5 hf13 (fun b14 of15 vsb14 hc16 hrepb14 => ?_)
    exact st_addNil (hk _ _ (Sto.Le.refl _) ⟨b14, of15, _, rfl, hc16, hrepb14⟩)
   ·intro ρ' τ pool rs hl hd hout hk
    obtain ⟨_, e6, b14, of15, vsb14, rfl, hc16, hrepb14⟩ := hd 6 rfl
    have hrepb14 := hrepb14
    obtain rfl := hrepb14
    refine o_loadI (v := .int .u8 q12) rfl rfl rfl z_sc5 e6 (hc16 0 _ rfl) ?_
    exact st_addNil (hk _ _ (Sto.Le.refl _) rfl)
   intro ρ' τ17 vals hl17 hv hout
   refine st_ord [] _ rfl ?_
   refine st_env (ρ' := [(25, .bool (!(decide (q7 = q12)))), (0, v1), (1, v3), (4, .bool false), (5, .int .i64 s6)]) ⟨(lv1 hv 8 rfl rfl), (hout 0 rfl).trans rfl, (hout 1 rfl).trans rfl, (hout 4 rfl).trans rfl, (hout 5 rfl).trans rfl, trivial⟩ ?_
   refine st_end ?_
   refine st_if rfl h (fun h => ?_) (fun h => ?_)
   ·refine Z 4 rfl ?_
    obtain rfl := he6 _ h
    replace h := hA6
    obtain rfl := Eq.symm h
    exact st_ret (gs' := []) Tryz.func11 rfl (List.Sublist.refl _) (hl6.trans hl17) ⟨rfl, rfl⟩
   ·refine Z 7 rfl ?_
    exact hn6 _ _ _ _ h ⟨(hl6.trans hl17), rfl, rfl⟩
  ·refine st_exit rfl ?_
   obtain rfl := he6 _ h
   replace h := hA6
   exact hk5 _ _ _ ⟨(), h, hl6, rfl, rfl⟩
theorem event_Eviction_ok {a0 : Int} {r : (Int × Int × Int × Int × (Int × List Int × List (Int × Int) × List Int × ByteArray × ByteArray))} (h : event_Eviction a0 r) (σ : Sto)  :
    Does Tryz.prog 31 [.int .u32 a0] σ [] (fun v τ gs => ∃ (v2 : Value) (v3 : Value), gs = [] ∧ .agg [.int .i64 r.1, .int .u32 r.2.1, .int .i64 r.2.2.1, .int .i64 r.2.2.2.1, .int .i64 r.2.2.2.2.1, .int .i64 (r.2.2.2.2.2.1.getD 0 0), .int .i64 (r.2.2.2.2.2.1.getD 1 0), .int .i64 (r.2.2.2.2.2.1.getD 2 0), .int .i64 (r.2.2.2.2.2.1.getD 3 0), .int .i64 (r.2.2.2.2.2.1.getD 4 0), .int .i64 (r.2.2.2.2.2.1.getD 5 0), v2, v3, .string r.2.2.2.2.2.2.2.2.1, .string r.2.2.2.2.2.2.2.2.2].toArray = v ∧ Sl (kP (kI .i64) (kI .i64)) τ v2 r.2.2.2.2.2.2.1 ∧ Sl (kI .i64) τ v3 r.2.2.2.2.2.2.2.1) := by
 refine call_of Tryz.func31 Tryz.ntmps31 rfl rfl (fun cs fs => ?_)
 refine Z 2 rfl ?_
 refine o_alloc rfl rfl rfl z_zero32 (fun b1 => ?_)
 refine ZZ 7 [0] rfl rfl ?_
 obtain rfl := Eq.symm h
 exact st_retC (gs' := []) [.agg #[.int .i64 3, .int .u32 a0, .int .i64 0, .int .i64 0, .int .i64 0, .int .i64 0, .int .i64 0, .int .i64 0, .int .i64 0, .int .i64 0, .int .i64 0, .slice none 0 0, .slice none 0 0, .string (bstr []), .string (bstr [])]] Tryz.func31 ⟨⟨_, _, _, _, rfl, mem_flat 0 rfl, fun w hw => cellOfN (vs := [.int .i64 3, .int .u32 a0, .int .i64 0, .int .i64 0, .int .i64 0, .int .i64 0, .int .i64 0, .int .i64 0, .int .i64 0, .int .i64 0, .int .i64 0, .slice none 0 0, .slice none 0 0, .string (bstr []), .string (bstr [])]) z_agg32 rfl w hw⟩, trivial⟩ (by simp) (Sto.Le.refl _) ⟨_, _, rfl, rfl, Sl.nil, Sl.nil⟩
theorem event_Rejection_ok {a0 : Int} {a1 : Int} {r : (Int × Int × Int × Int × (Int × List Int × List (Int × Int) × List Int × ByteArray × ByteArray))} (h : event_Rejection a0 a1 r) (σ : Sto)  :
    Does Tryz.prog 32 [.int .u32 a0, .int .i64 a1] σ [] (fun v τ gs => ∃ (v2 : Value) (v3 : Value), gs = [] ∧ .agg [.int .i64 r.1, .int .u32 r.2.1, .int .i64 r.2.2.1, .int .i64 r.2.2.2.1, .int .i64 r.2.2.2.2.1, .int .i64 (r.2.2.2.2.2.1.getD 0 0), .int .i64 (r.2.2.2.2.2.1.getD 1 0), .int .i64 (r.2.2.2.2.2.1.getD 2 0), .int .i64 (r.2.2.2.2.2.1.getD 3 0), .int .i64 (r.2.2.2.2.2.1.getD 4 0), .int .i64 (r.2.2.2.2.2.1.getD 5 0), v2, v3, .string r.2.2.2.2.2.2.2.2.1, .string r.2.2.2.2.2.2.2.2.2].toArray = v ∧ Sl (kP (kI .i64) (kI .i64)) τ v2 r.2.2.2.2.2.2.1 ∧ Sl (kI .i64) τ v3 r.2.2.2.2.2.2.2.1) := by
 refine call_of Tryz.func32 Tryz.ntmps32 rfl rfl (fun cs fs => ?_)
 refine Z 2 rfl ?_
 refine o_alloc rfl rfl rfl z_zero32 (fun b1 => ?_)
 refine ZZ 8 [0] rfl rfl ?_
 obtain rfl := Eq.symm h
 exact st_retC (gs' := []) [.agg #[.int .i64 2, .int .u32 a0, .int .i64 0, .int .i64 a1, .int .i64 0, .int .i64 0, .int .i64 0, .int .i64 0, .int .i64 0, .int .i64 0, .int .i64 0, .slice none 0 0, .slice none 0 0, .string (bstr []), .string (bstr [])]] Tryz.func32 ⟨⟨_, _, _, _, rfl, mem_flat 0 rfl, fun w hw => cellOfN (vs := [.int .i64 2, .int .u32 a0, .int .i64 0, .int .i64 a1, .int .i64 0, .int .i64 0, .int .i64 0, .int .i64 0, .int .i64 0, .int .i64 0, .int .i64 0, .slice none 0 0, .slice none 0 0, .string (bstr []), .string (bstr [])]) z_agg32 rfl w hw⟩, trivial⟩ (by simp) (Sto.Le.refl _) ⟨_, _, rfl, rfl, Sl.nil, Sl.nil⟩
theorem law34_known_ok  {r : Bool} (h : law34_known r) (σ : Sto)  :
    Does Tryz.prog 12 [] σ [] (fun v τ gs => gs = [] ∧ .bool r = v) := by
 refine call_of Tryz.func12 Tryz.ntmps12 rfl rfl (fun cs fs => ?_)
 refine Z 6 rfl ?_
 obtain ⟨r1, hr2, h⟩ := h
 refine st_call (foot := []) rfl rfl rfl rfl rfl rfl (callV_fn z_en31 (event_Eviction_ok hr2 σ)) ?_
 rintro vτ3 τ3 gsτ3 hl4 ⟨v5, v6, rfl, rfl, hs7, hs8⟩
 refine o_lit (dk := (kP (kI .i64) (kP (kI .u32) (kP (kI .i64) (kP (kI .i64) (kP (kI .i64) (kP (kA .i64 6) (kP (kSl (kP (kI .i64) (kI .i64))) (kP (kSl (kI .i64)) (kP kS kS)))))))))) (xs := [r1]) (ps := [(0, [.int .i64 r1.1, .int .u32 r1.2.1, .int .i64 r1.2.2.1, .int .i64 r1.2.2.2.1, .int .i64 r1.2.2.2.2.1, .int .i64 (r1.2.2.2.2.2.1.getD 0 0), .int .i64 (r1.2.2.2.2.2.1.getD 1 0), .int .i64 (r1.2.2.2.2.2.1.getD 2 0), .int .i64 (r1.2.2.2.2.2.1.getD 3 0), .int .i64 (r1.2.2.2.2.2.1.getD 4 0), .int .i64 (r1.2.2.2.2.2.1.getD 5 0), v5, v6, .string r1.2.2.2.2.2.2.2.2.1, .string r1.2.2.2.2.2.2.2.2.2])]) (cs := [.int .i64 r1.1, .int .u32 r1.2.1, .int .i64 r1.2.2.1, .int .i64 r1.2.2.2.1, .int .i64 r1.2.2.2.2.1, .int .i64 (r1.2.2.2.2.2.1.getD 0 0), .int .i64 (r1.2.2.2.2.2.1.getD 1 0), .int .i64 (r1.2.2.2.2.2.1.getD 2 0), .int .i64 (r1.2.2.2.2.2.1.getD 3 0), .int .i64 (r1.2.2.2.2.2.1.getD 4 0), .int .i64 (r1.2.2.2.2.2.1.getD 5 0), v5, v6, .string r1.2.2.2.2.2.2.2.2.1, .string r1.2.2.2.2.2.2.2.2.2]) rfl rfl rfl z_slT22 z_zero32 ⟨rfl, ⟨_, rfl, rfl⟩, trivial⟩ rfl rfl rfl rfl (Kd.Many.cons (d := (kP (kI .i64) (kP (kI .u32) (kP (kI .i64) (kP (kI .i64) (kP (kI .i64) (kP (kA .i64 6) (kP (kSl (kP (kI .i64) (kI .i64))) (kP (kSl (kI .i64)) (kP kS kS)))))))))) (x := r1) (a := [.int .i64 r1.1, .int .u32 r1.2.1, .int .i64 r1.2.2.1, .int .i64 r1.2.2.2.1, .int .i64 r1.2.2.2.2.1, .int .i64 (r1.2.2.2.2.2.1.getD 0 0), .int .i64 (r1.2.2.2.2.2.1.getD 1 0), .int .i64 (r1.2.2.2.2.2.1.getD 2 0), .int .i64 (r1.2.2.2.2.2.1.getD 3 0), .int .i64 (r1.2.2.2.2.2.1.getD 4 0), .int .i64 (r1.2.2.2.2.2.1.getD 5 0), v5, v6, .string r1.2.2.2.2.2.2.2.2.1, .string r1.2.2.2.2.2.2.2.2.2]) ⟨[.int .i64 r1.1], _, rfl, rfl, ⟨[.int .u32 r1.2.1], _, rfl, rfl, ⟨[.int .i64 r1.2.2.1], _, rfl, rfl, ⟨[.int .i64 r1.2.2.2.1], _, rfl, rfl, ⟨[.int .i64 r1.2.2.2.2.1], _, rfl, rfl, ⟨[.int .i64 (r1.2.2.2.2.2.1.getD 0 0), .int .i64 (r1.2.2.2.2.2.1.getD 1 0), .int .i64 (r1.2.2.2.2.2.1.getD 2 0), .int .i64 (r1.2.2.2.2.2.1.getD 3 0), .int .i64 (r1.2.2.2.2.2.1.getD 4 0), .int .i64 (r1.2.2.2.2.2.1.getD 5 0)], _, rfl, rfl, ⟨[v5], _, rfl, ⟨_, rfl, hs7⟩, ⟨[v6], _, rfl, ⟨_, rfl, hs8⟩, ⟨[.string r1.2.2.2.2.2.2.2.2.1], _, rfl, rfl, rfl⟩⟩⟩⟩⟩⟩⟩⟩⟩ Kd.Many.nil) (fun v9 g10 ho11 => ?_)
 obtain ⟨r16, hr17, h⟩ := h
 refine st_freeze (fun τ12 hl13 hg14 => ?_)
 have hs15 := ho11.freeze hl13 hg14
 refine st_call (foot := []) rfl rfl rfl rfl rfl rfl (callV_fn z_en9 (log_Bytes_ok hr17 τ12 hs15)) ?_
 rintro vτ18 τ18 gsτ18 hl19 ⟨v20, rfl, rfl, hs21⟩
 refine Z 8 rfl ?_
 obtain ⟨r22, hr23, h⟩ := h
 refine st_call (foot := []) rfl rfl rfl rfl rfl rfl (callV_fn z_en32 (event_Rejection_ok hr23 τ18)) ?_
 rintro vτ24 τ24 gsτ24 hl25 ⟨v26, v27, rfl, rfl, hs28, hs29⟩
 refine o_lit (dk := (kP (kI .i64) (kP (kI .u32) (kP (kI .i64) (kP (kI .i64) (kP (kI .i64) (kP (kA .i64 6) (kP (kSl (kP (kI .i64) (kI .i64))) (kP (kSl (kI .i64)) (kP kS kS)))))))))) (xs := [r22]) (ps := [(0, [.int .i64 r22.1, .int .u32 r22.2.1, .int .i64 r22.2.2.1, .int .i64 r22.2.2.2.1, .int .i64 r22.2.2.2.2.1, .int .i64 (r22.2.2.2.2.2.1.getD 0 0), .int .i64 (r22.2.2.2.2.2.1.getD 1 0), .int .i64 (r22.2.2.2.2.2.1.getD 2 0), .int .i64 (r22.2.2.2.2.2.1.getD 3 0), .int .i64 (r22.2.2.2.2.2.1.getD 4 0), .int .i64 (r22.2.2.2.2.2.1.getD 5 0), v26, v27, .string r22.2.2.2.2.2.2.2.2.1, .string r22.2.2.2.2.2.2.2.2.2])]) (cs := [.int .i64 r22.1, .int .u32 r22.2.1, .int .i64 r22.2.2.1, .int .i64 r22.2.2.2.1, .int .i64 r22.2.2.2.2.1, .int .i64 (r22.2.2.2.2.2.1.getD 0 0), .int .i64 (r22.2.2.2.2.2.1.getD 1 0), .int .i64 (r22.2.2.2.2.2.1.getD 2 0), .int .i64 (r22.2.2.2.2.2.1.getD 3 0), .int .i64 (r22.2.2.2.2.2.1.getD 4 0), .int .i64 (r22.2.2.2.2.2.1.getD 5 0), v26, v27, .string r22.2.2.2.2.2.2.2.2.1, .string r22.2.2.2.2.2.2.2.2.2]) rfl rfl rfl z_slT22 z_zero32 ⟨rfl, ⟨_, rfl, rfl⟩, trivial⟩ rfl rfl rfl rfl (Kd.Many.cons (d := (kP (kI .i64) (kP (kI .u32) (kP (kI .i64) (kP (kI .i64) (kP (kI .i64) (kP (kA .i64 6) (kP (kSl (kP (kI .i64) (kI .i64))) (kP (kSl (kI .i64)) (kP kS kS)))))))))) (x := r22) (a := [.int .i64 r22.1, .int .u32 r22.2.1, .int .i64 r22.2.2.1, .int .i64 r22.2.2.2.1, .int .i64 r22.2.2.2.2.1, .int .i64 (r22.2.2.2.2.2.1.getD 0 0), .int .i64 (r22.2.2.2.2.2.1.getD 1 0), .int .i64 (r22.2.2.2.2.2.1.getD 2 0), .int .i64 (r22.2.2.2.2.2.1.getD 3 0), .int .i64 (r22.2.2.2.2.2.1.getD 4 0), .int .i64 (r22.2.2.2.2.2.1.getD 5 0), v26, v27, .string r22.2.2.2.2.2.2.2.2.1, .string r22.2.2.2.2.2.2.2.2.2]) ⟨[.int .i64 r22.1], _, rfl, rfl, ⟨[.int .u32 r22.2.1], _, rfl, rfl, ⟨[.int .i64 r22.2.2.1], _, rfl, rfl, ⟨[.int .i64 r22.2.2.2.1], _, rfl, rfl, ⟨[.int .i64 r22.2.2.2.2.1], _, rfl, rfl, ⟨[.int .i64 (r22.2.2.2.2.2.1.getD 0 0), .int .i64 (r22.2.2.2.2.2.1.getD 1 0), .int .i64 (r22.2.2.2.2.2.1.getD 2 0), .int .i64 (r22.2.2.2.2.2.1.getD 3 0), .int .i64 (r22.2.2.2.2.2.1.getD 4 0), .int .i64 (r22.2.2.2.2.2.1.getD 5 0)], _, rfl, rfl, ⟨[v26], _, rfl, ⟨_, rfl, hs28⟩, ⟨[v27], _, rfl, ⟨_, rfl, hs29⟩, ⟨[.string r22.2.2.2.2.2.2.2.2.1], _, rfl, rfl, rfl⟩⟩⟩⟩⟩⟩⟩⟩⟩ Kd.Many.nil) (fun v30 g31 ho32 => ?_)
 obtain ⟨r37, hr38, h⟩ := h
 refine st_freeze (fun τ33 hl34 hg35 => ?_)
 have hs36 := ho32.freeze hl34 hg35
 refine st_call (foot := []) rfl rfl rfl rfl rfl rfl (callV_fn z_en9 (log_Bytes_ok hr38 τ33 hs36)) ?_
 rintro vτ39 τ39 gsτ39 hl40 ⟨v41, rfl, rfl, hs42⟩
 refine Z 7 rfl ?_
 refine st_cut (fun ρ τ43 gs => ∃ (s43 : Bool), law34_known_j1 s43 r ∧ τ39.Le τ43 ∧ ESub ρ [(0, .bool s43)] ∧ gs = []) ?_ (fun hk43 => ?_)
 ·rintro ρ43 τ43 gs43 ⟨s43, h, hl43, hρ, rfl⟩
  refine st_es hρ ?_
  obtain rfl := Eq.symm h
  exact st_ret (gs' := []) Tryz.func12 rfl (List.Sublist.refl _) ((((((hl4.trans hl13).trans hl19).trans hl25).trans hl34).trans hl40).trans hl43) ⟨rfl, rfl⟩
 refine Z 3 rfl ?_
 refine o_mif rfl rfl rfl rfl h (fun h => ?_) (fun h => ?_)
 ·refine Z 3 rfl ?_
  refine o_mif rfl rfl rfl rfl h (fun h => ?_) (fun h => ?_)
  ·refine o_move rfl rfl rfl rfl ?_
   refine o_litE (eI .u8) [5, 3, 7, 0, 0, 0] rfl rfl rfl z_slT42 z_zero5 ⟨rfl, ⟨_, rfl, rfl⟩, ⟨rfl, ⟨_, rfl, rfl⟩, ⟨rfl, ⟨_, rfl, rfl⟩, ⟨rfl, ⟨_, rfl, rfl⟩, ⟨rfl, ⟨_, rfl, rfl⟩, ⟨rfl, ⟨_, rfl, rfl⟩, trivial⟩⟩⟩⟩⟩⟩ rfl rfl rfl rfl (fun v44 g45 ho46 => ?_)
   obtain ⟨r51, hr52, h⟩ := h
   refine st_freeze (fun τ47 hl48 hg49 => ?_)
   have hs50 := ho46.freeze hl48 hg49
   refine st_call (foot := []) rfl rfl rfl rfl rfl rfl (callV_fn z_en11 (ref01_Same_ok hr52 τ47 (hs21.up (((hl25.trans hl34).trans hl40).trans hl48)) hs50)) ?_
   rintro vτ53 τ53 gsτ53 hl54 ⟨rfl, rfl⟩
   refine o_pick rfl rfl rfl rfl rfl ?_
   refine o_mif rfl rfl rfl rfl h (fun h => ?_) (fun h => ?_)
   ·refine o_move rfl rfl rfl rfl ?_
    refine o_litE (eI .u8) [6, 2, 0, 0, 0, 0, 11] rfl rfl rfl z_slT42 z_zero5 ⟨rfl, ⟨_, rfl, rfl⟩, ⟨rfl, ⟨_, rfl, rfl⟩, ⟨rfl, ⟨_, rfl, rfl⟩, ⟨rfl, ⟨_, rfl, rfl⟩, ⟨rfl, ⟨_, rfl, rfl⟩, ⟨rfl, ⟨_, rfl, rfl⟩, ⟨rfl, ⟨_, rfl, rfl⟩, trivial⟩⟩⟩⟩⟩⟩⟩ rfl rfl rfl rfl (fun v55 g56 ho57 => ?_)
    obtain ⟨r62, hr63, h⟩ := h
    refine st_freeze (fun τ58 hl59 hg60 => ?_)
    have hs61 := ho57.freeze hl59 hg60
    refine st_call (foot := []) rfl rfl rfl rfl rfl rfl (callV_fn z_en11 (ref01_Same_ok hr63 τ58 (hs42.up ((hl48.trans hl54).trans hl59)) hs61)) ?_
    rintro vτ64 τ64 gsτ64 hl65 ⟨rfl, rfl⟩
    refine Z 3 rfl ?_
    exact hk43 _ _ _ ⟨r62, h, (((hl48.trans hl54).trans hl59).trans hl65), rfl, rfl⟩
   ·refine Z 6 rfl ?_
    exact hk43 _ _ _ ⟨false, h, (hl48.trans hl54), rfl, rfl⟩
  ·refine Z 11 rfl ?_
   exact hk43 _ _ _ ⟨false, h, (Sto.Le.refl _), rfl, rfl⟩
 ·refine Z 15 rfl ?_
  exact hk43 _ _ _ ⟨false, h, (Sto.Le.refl _), rfl, rfl⟩
theorem lens_New_ok {a0 : List Int} {v1 : Value} {r : (List Int × Int × Int)} (h : lens_New a0 r) (σ : Sto) (hs2 : Sl (kI .u8) σ v1 a0) :
    Does Tryz.prog 59 [v1] σ [] (fun v τ gs => ∃ (b15 : Nat) (v16 : Value), gs = [[(b15, .cells [v16, .int .i64 r.2.1, .int .i64 r.2.2].toArray 137 (0, 0))]] ∧ .pointer (some ⟨b15, 0, none⟩) = v ∧ Sl (kI .u8) τ v16 r.1) := by
 refine call_of Tryz.func59 Tryz.ntmps59 rfl rfl (fun cs fs => ?_)
 refine Z 7 rfl ?_
 obtain ⟨hf6, hf7, h⟩ := h
 refine st_addNil ?_
 refine o_append (dk := (kI .u8)) (xs := ([] : List Int)) (ys := a0) rfl rfl rfl rfl z_slT42 rfl Ow.nil rfl (Sl.src hs2) hf6 hf7 (fun v3 g4 ho5 => ?_)
 refine o_build (ps := [(0, [v3])]) (cs := [v3, .int .i64 0, .int .i64 0]) rfl rfl rfl z_struct137 ⟨rfl, ⟨_, rfl, (oneL_ow ho5)⟩, trivial⟩ rfl ?_
 refine o_box (cs := [v3, .int .i64 0, .int .i64 0]) rfl rfl rfl rfl rfl (fun b8 => ?_)
 refine Z 2 rfl ?_
 refine st_ord [1, 0] _ rfl ?_
 refine st_freeze (fun τ9 hl10 hg11 => ?_)
 have hs12 := ho5.freeze hl10 hg11
 obtain rfl := Eq.symm h
 exact st_ret (gs' := [[(b8, .cells #[v3, .int .i64 0, .int .i64 0] 137 (0, 0))]]) Tryz.func59 rfl (List.Sublist.refl _) hl10 ⟨_, _, rfl, rfl, hs12⟩
theorem lens_Lens_left_ok {a0 : List Int × Int × Int} {ba0 : Nat} {v1 : Value} {r : List Int} (h : lens_Lens_left a0 r) (σ : Sto) (hs2 : Sl (kI .u8) σ v1 a0.1) :
    Does Tryz.prog 76 [.pointer (some ⟨ba0, 0, none⟩)] σ [[(ba0, .cells [v1, .int .i64 a0.2.1, .int .i64 a0.2.2].toArray 137 (0, 0))]] (fun v τ gs => ∃ (v11 : Value), gs = [[(ba0, .cells [v1, .int .i64 a0.2.1, .int .i64 a0.2.2].toArray 137 (0, 0))]] ∧ v11 = v ∧ Sl (kI .u8) τ v11 r) := by
 refine call_of Tryz.func76 Tryz.ntmps76 rfl rfl (fun cs fs => ?_)
 refine Z 5 rfl ?_
 obtain ⟨hf3, hf4, hf5, hf6, hf7, h⟩ := h
 refine st_draw 19 (dl [.v (.pointer (some ⟨ba0, 0, none⟩)), .v (.pointer (some ⟨ba0, 0, none⟩)), .v (.pointer (some ⟨ba0, 0, none⟩)), .v (v1), .v (.pointer (some ⟨ba0, 0, none⟩)), .v (.pointer (some ⟨ba0, 0, none⟩)), .v (.pointer (some ⟨ba0, 1, none⟩)), .v (.int .i64 a0.2.1), .v (.pointer (some ⟨ba0, 0, none⟩)), .v (.pointer (some ⟨ba0, 0, none⟩)), .v (.pointer (some ⟨ba0, 0, none⟩)), .v (v1), .v (.int .i64 (a0.1.length : Int)), .v (.pointer (some ⟨ba0, 0, none⟩)), .v (.pointer (some ⟨ba0, 0, none⟩)), .v (.pointer (some ⟨ba0, 0, none⟩)), .v (v1), .v (.int .i64 (a0.1.length : Int)), .t fun τ v => ∃ (v8 : Value), (v8 : Value) = v ∧ Sl (kI .u8) τ v8 ((a0.1.drop a0.2.1.toNat).take (((a0.1.length : Int) : Int) - a0.2.1).toNat)]) (fun _ _ => []) z_mix rfl (dl_mono ⟨fun _ _ _ hl ⟨v8, hv, hs9⟩ => ⟨v8, hv, hs9.up hl⟩, trivial⟩) (allB_cons (allB_cons (allB_cons (allB_cons (allB_cons (allB_cons (allB_cons (allB_cons (allB_cons (allB_cons (allB_cons (allB_cons (allB_cons (allB_cons (allB_cons (allB_cons (allB_cons (allB_cons (allB_cons allB_nil (p1 dA)) (p1 dA)) (p1 dA)) ?_) (p1 dA)) (p1 dA)) (p1 dA)) ?_) (p1 dA)) (p1 dA)) (p1 dA)) ?_) ?_) (p1 dA)) (p1 dA)) (p1 dA)) ?_) ?_) ?_) ?_
 ·intro ρ' τ pool rs hl hd hout hk
  obtain ⟨_, e2, rfl⟩ := hd 2 rfl
  refine o_load (j := 0) (v := v1) rfl rfl rfl z_sc42 e2 rfl rfl ?_
  exact st_addNil (hk _ _ (Sto.Le.refl _) rfl)
 ·intro ρ' τ pool rs hl hd hout hk
  obtain ⟨_, e6, rfl⟩ := hd 6 rfl
  refine o_load (j := 0) (v := .int .i64 a0.2.1) rfl rfl rfl z_sc3 e6 rfl rfl ?_
  exact st_addNil (hk _ _ (Sto.Le.refl _) rfl)
 ·intro ρ' τ pool rs hl hd hout hk
  obtain ⟨_, e10, rfl⟩ := hd 10 rfl
  refine o_load (j := 0) (v := v1) rfl rfl rfl z_sc42 e10 rfl rfl ?_
  exact st_addNil (hk _ _ (Sto.Le.refl _) rfl)
 ·intro ρ' τ pool rs hl hd hout hk
  obtain ⟨_, e11, rfl⟩ := hd 11 rfl
  refine o_lenI rfl rfl rfl z_slT42 e11 (hs2.up hl) ?_
  exact st_addNil (hk _ _ (Sto.Le.refl _) rfl)
 ·intro ρ' τ pool rs hl hd hout hk
  obtain ⟨_, e15, rfl⟩ := hd 15 rfl
  refine o_load (j := 0) (v := v1) rfl rfl rfl z_sc42 e15 rfl rfl ?_
  exact st_addNil (hk _ _ (Sto.Le.refl _) rfl)
 ·intro ρ' τ pool rs hl hd hout hk
  obtain ⟨_, e16, rfl⟩ := hd 16 rfl
  refine o_lenI rfl rfl rfl z_slT42 e16 (hs2.up hl) ?_
  exact st_addNil (hk _ _ (Sto.Le.refl _) rfl)
 ·intro ρ' τ pool rs hl hd hout hk
  obtain ⟨_, e3, rfl⟩ := hd 3 rfl
  obtain ⟨_, e7, rfl⟩ := hd 7 rfl
  obtain ⟨_, e12, rfl⟩ := hd 12 rfl
  obtain ⟨_, e17, rfl⟩ := hd 17 rfl
  refine o_slice (L := a0.2.1) (H := (a0.1.length : Int)) rfl rfl rfl z_slT42 rfl e3 (hs2.up hl) ⟨_, e7⟩ ⟨_, e12⟩ hf3 hf4 hf5 ⟨_, _, e17, hf6, hf7⟩ (by simp) (fun v8 hs9 => ?_)
  exact st_addNil (hk _ _ (Sto.Le.refl _) ⟨v8, rfl, hs9⟩)
 intro ρ' τ10 vals hl10 hv hout
 obtain ⟨l18, v8, t18, hs9⟩ := hv 18 (by decide)
 replace l18 : Eng.look ρ' 21 = some (v8) := l18.trans (congrArg some (Eq.symm t18))
 refine st_ord [0] _ rfl ?_
 refine st_env (ρ' := [(21, v8), (2, .slice none 0 0)]) ⟨l18, (hout 2 rfl).trans rfl, trivial⟩ ?_
 refine Z 2 rfl ?_
 obtain rfl := Eq.symm h
 exact st_ret (gs' := [[(ba0, .cells #[v1, .int .i64 a0.2.1, .int .i64 a0.2.2] 137 (0, 0))]]) Tryz.func76 rfl (List.Sublist.refl _) hl10 ⟨_, rfl, rfl, hs9⟩
theorem lens_Lens_Left_ok {a0 : List Int × Int × Int} {ba0 : Nat} {v1 : Value} {r : Int} (h : lens_Lens_Left a0 r) (σ : Sto) (hs2 : Sl (kI .u8) σ v1 a0.1) :
    Does Tryz.prog 60 [.pointer (some ⟨ba0, 0, none⟩)] σ [[(ba0, .cells [v1, .int .i64 a0.2.1, .int .i64 a0.2.2].toArray 137 (0, 0))]] (fun v τ gs => gs = [[(ba0, .cells [v1, .int .i64 a0.2.1, .int .i64 a0.2.2].toArray 137 (0, 0))]] ∧ .int .i64 r = v) := by
 refine call_of Tryz.func60 Tryz.ntmps60 rfl rfl (fun cs fs => ?_)
 refine Z 15 rfl ?_
 obtain ⟨r3, hr4, h⟩ := h
 refine st_call (foot := [[(ba0, .cells #[v1, .int .i64 a0.2.1, .int .i64 a0.2.2] 137 (0, 0))]]) rfl rfl rfl rfl rfl rfl (callV_fn z_en76 (lens_Lens_left_ok hr4 σ hs2)) ?_
 rintro vτ5 τ5 gsτ5 hl6 ⟨v7, rfl, rfl, hs8⟩
 refine o_lenI rfl rfl rfl z_slT42 rfl hs8 ?_
 refine Z 2 rfl ?_
 obtain rfl := Eq.symm h
 exact st_ret (gs' := [[(ba0, .cells #[v1, .int .i64 a0.2.1, .int .i64 a0.2.2] 137 (0, 0))]]) Tryz.func60 rfl (List.Sublist.refl _) hl6 ⟨rfl, rfl⟩
theorem lens_Lens_Place_ok {a0 : List Int × Int × Int} {ba0 : Nat} {v1 : Value} {r : Int} (h : lens_Lens_Place a0 r) (σ : Sto) (hs2 : Sl (kI .u8) σ v1 a0.1) :
    Does Tryz.prog 61 [.pointer (some ⟨ba0, 0, none⟩)] σ [[(ba0, .cells [v1, .int .i64 a0.2.1, .int .i64 a0.2.2].toArray 137 (0, 0))]] (fun v τ gs => gs = [[(ba0, .cells [v1, .int .i64 a0.2.1, .int .i64 a0.2.2].toArray 137 (0, 0))]] ∧ .int .i64 r = v) := by
 refine call_of Tryz.func61 Tryz.ntmps61 rfl rfl (fun cs fs => ?_)
 refine ZZ 20 [0] rfl rfl ?_
 obtain rfl := Eq.symm h
 exact st_ret (gs' := [[(ba0, .cells #[v1, .int .i64 a0.2.1, .int .i64 a0.2.2] 137 (0, 0))]]) Tryz.func61 rfl (List.Sublist.refl _) (Sto.Le.refl _) ⟨rfl, rfl⟩
theorem varint_Get_ok {a0 : List Int} {v1 : Value} {r : Int × Int × Int} (h : varint_Get a0 r) (σ : Sto) (hs2 : Sl (kI .u8) σ v1 a0) :
    Does Tryz.prog 79 [v1] σ [] (fun v τ gs => gs = [] ∧ .tuple [.int .u64 r.1, .int .i64 r.2.1, .int .i64 r.2.2].toArray = v) := by
 refine call_of Tryz.func79 Tryz.ntmps79 rfl rfl (fun cs fs => ?_)
 refine Z 14 rfl ?_
 refine st_cut (fun ρ τ3 gs => ∃ (s3 : Unit), varint_Get_j1 s3 r ∧ σ.Le τ3 ∧ ESub ρ [(2, .int .u64 0), (3, .int .i64 0), (4, .int .i64 0)] ∧ gs = []) ?_ (fun hk3 => ?_)
 ·rintro ρ3 τ3 gs3 ⟨s3, h, hl3, hρ, rfl⟩
  refine st_es hρ ?_
  refine Z 6 rfl ?_
  obtain rfl := Eq.symm h
  exact st_ret (gs' := []) Tryz.func79 rfl (List.Sublist.refl _) hl3 ⟨rfl, rfl⟩
 refine Z 4 rfl ?_
 obtain ⟨e4, hL4, hA4⟩ := h
 refine st_loop hL4 (fun (s4 : Int × Int) ρ τ4 gs => σ.Le τ4 ∧ ESub ρ [(0, v1), (2, .int .u64 0), (3, .int .i64 0), (4, .int .i64 0), (5, .int .u64 s4.1), (8, .int .i64 s4.2)] ∧ gs = []) ⟨Sto.Le.refl _, rfl, rfl⟩ ?_
 rintro s4 o4 h he4 ρ4 τ4 gs4 ⟨hl4, hρ, rfl⟩ hn4
 refine st_es hρ ?_
 refine Z 5 rfl ?_
 refine st_if rfl h (fun h => ?_) (fun h => ?_)
 ·refine Z 2 rfl ?_
  refine st_cut (fun ρ τ5 gs => ∃ (s5 : Int), varint_Get_j3 s4 s5 o4 ∧ τ4.Le τ5 ∧ ESub ρ [(0, v1), (2, .int .u64 0), (3, .int .i64 0), (4, .int .i64 0), (5, .int .u64 s5), (8, .int .i64 s4.2)] ∧ gs = []) ?_ (fun hk5 => ?_)
  ·rintro ρ5 τ5 gs5 ⟨s5, h, hl5, hρ, rfl⟩
   refine st_es hρ ?_
   refine Z 4 rfl ?_
   exact hn4 _ _ _ _ h ⟨(hl4.trans hl5), rfl, rfl⟩
  refine Z 11 rfl ?_
  refine o_lenI rfl rfl rfl z_slT42 rfl (hs2.up hl4) ?_
  refine Z 2 rfl ?_
  refine st_if rfl h (fun h => ?_) (fun h => ?_)
  ·refine Z 6 rfl ?_
   obtain rfl := he4 _ h
   replace h := hA4
   obtain rfl := Eq.symm h
   exact st_ret (gs' := []) Tryz.func79 rfl (List.Sublist.refl _) hl4 ⟨rfl, rfl⟩
  ·refine Z 5 rfl ?_
   obtain ⟨q6, hf7, h⟩ := h
   refine o_index rfl rfl rfl z_slT42 rfl rfl (hs2.up hl4) rfl hf7 (fun b8 of9 vs hc10 hrep => ?_)
   obtain rfl := hrep
   refine o_loadI (v := .int .u8 q6) rfl rfl rfl z_sc5 rfl (hc10 0 _ rfl) ?_
   refine Z 10 rfl ?_
   obtain ⟨hf11, h⟩ := h
   refine o_shl rfl rfl rfl rfl rfl hf11 ?_
   refine Z 8 rfl ?_
   obtain ⟨q12, hf13, h⟩ := h
   refine o_index rfl rfl rfl z_slT42 rfl rfl (hs2.up hl4) rfl hf13 (fun b14 of15 vs hc16 hrep => ?_)
   obtain rfl := hrep
   refine o_loadI (v := .int .u8 q12) rfl rfl rfl z_sc5 rfl (hc16 0 _ rfl) ?_
   refine Z 2 rfl ?_
   refine st_if rfl h (fun h => ?_) (fun h => ?_)
   ·refine st_exit rfl ?_
    exact hk5 _ _ _ ⟨(ior .u64 s4.1 (ishl .u64 (IntKind.u64.wrap (q6.tmod 128)) (IntKind.i64.wrap (7 * s4.2)))), h, (Sto.Le.refl _), rfl, rfl⟩
   ·refine Z 3 rfl ?_
    refine st_cut (fun ρ τ17 gs => ∃ (s17 : Bool), varint_Get_j4 s4 q6 s17 o4 ∧ τ4.Le τ17 ∧ ESub ρ [(0, v1), (2, .int .u64 0), (3, .int .i64 0), (4, .int .i64 0), (5, .int .u64 (ior .u64 s4.1 (ishl .u64 (IntKind.u64.wrap (q6.tmod 128)) (IntKind.i64.wrap (7 * s4.2))))), (8, .int .i64 s4.2), (6, .int .i64 s4.2), (48, .bool s17)] ∧ gs = []) ?_ (fun hk17 => ?_)
    ·rintro ρ17 τ17 gs17 ⟨s17, h, hl17, hρ, rfl⟩
     refine st_es hρ ?_
     refine st_if rfl h (fun h => ?_) (fun h => ?_)
     ·refine st_exit rfl ?_
      obtain rfl := he4 _ h
      replace h := hA4
      exact hk3 _ _ _ ⟨(), h, (hl4.trans hl17), rfl, rfl⟩
     ·refine Z 10 rfl ?_
      obtain rfl := he4 _ h
      replace h := hA4
      obtain rfl := Eq.symm h
      exact st_ret (gs' := []) Tryz.func79 rfl (List.Sublist.refl _) (hl4.trans hl17) ⟨rfl, rfl⟩
    refine Z 3 rfl ?_
    refine o_mif rfl rfl rfl rfl h (fun h => ?_) (fun h => ?_)
    ·refine Z 3 rfl ?_
     refine o_mif rfl rfl rfl rfl h (fun h => ?_) (fun h => ?_)
     ·refine Z 11 rfl ?_
      exact hk17 _ _ _ ⟨true, h, (Sto.Le.refl _), rfl, rfl⟩
     ·refine Z 3 rfl ?_
      obtain ⟨hf18, h⟩ := h
      refine o_shl rfl rfl rfl rfl rfl hf18 ?_
      refine Z 2 rfl ?_
      obtain ⟨hf19, h⟩ := h
      refine o_shr rfl rfl rfl rfl rfl hf19 ?_
      refine Z 4 rfl ?_
      exact hk17 _ _ _ ⟨(!(decide ((ishr .u64 (ishl .u64 (IntKind.u64.wrap (q6.tmod 128)) (IntKind.i64.wrap (7 * s4.2))) (IntKind.i64.wrap (7 * s4.2))) = (IntKind.u64.wrap (q6.tmod 128))))), h, (Sto.Le.refl _), rfl, rfl⟩
    ·refine Z 7 rfl ?_
     obtain ⟨hf20, h⟩ := h
     refine o_shl rfl rfl rfl rfl rfl hf20 ?_
     refine Z 2 rfl ?_
     obtain ⟨hf21, h⟩ := h
     refine o_shr rfl rfl rfl rfl rfl hf21 ?_
     refine Z 4 rfl ?_
     exact hk17 _ _ _ ⟨(!(decide ((ishr .u64 (ishl .u64 (IntKind.u64.wrap (q6.tmod 128)) (IntKind.i64.wrap (7 * s4.2))) (IntKind.i64.wrap (7 * s4.2))) = (IntKind.u64.wrap (q6.tmod 128))))), h, (Sto.Le.refl _), rfl, rfl⟩
 ·refine st_exit rfl ?_
  obtain rfl := he4 _ h
  replace h := hA4
  exact hk3 _ _ _ ⟨(), h, hl4, rfl, rfl⟩
theorem lens_Lens_Field_1_ok {a0 : List Int} {c0 : Int} {c1 : List Int} {v1 : Value} {bc0 : Nat} {bc1 : Nat} {v3 : Value} {g4 : Grp} {r : Int × Int × List Int} (h : lens_Lens_Field_1 a0 c0 c1 r) (σ : Sto) (hs2 : Sl (kI .u8) σ v1 a0) (ho5 : Ow (kI .u8) 5 σ v3 c1 g4) :
    Does Tryz.prog 78 [v1, .pointer (some ⟨bc0, 0, none⟩), .pointer (some ⟨bc1, 0, none⟩)] σ [[(bc0, .cells [.int .i64 c0].toArray 3 (0, 0))], [(bc1, .cells [v3].toArray 42 (0, 0))], g4] (fun v τ gs => ∃ (v26 : Value) (g27 : Grp), gs = [[(bc0, .cells [.int .i64 c0].toArray 3 (0, 0))], [(bc1, .cells [v26].toArray 42 (0, 0))], g27] ∧ .tuple [.int .i64 r.1, .int .i64 r.2.1].toArray = v ∧ Ow (kI .u8) 5 τ v26 r.2.2 g27) := by
 refine call_of Tryz.func78 Tryz.ntmps78 rfl rfl (fun cs fs => ?_)
 refine Z 8 rfl ?_
 obtain ⟨r6, hr7, h⟩ := h
 refine st_call (foot := []) rfl rfl rfl rfl rfl rfl (callV_fn z_en79 (varint_Get_ok hr7 σ hs2)) ?_
 rintro vτ8 τ8 gsτ8 hl9 ⟨rfl, rfl⟩
 refine Z 16 rfl ?_
 refine st_if rfl h (fun h => ?_) (fun h => ?_)
 ·refine Z 6 rfl ?_
  obtain rfl := Eq.symm h
  exact st_ret (gs' := [[(bc0, .cells #[.int .i64 c0] 3 (0, 0))], [(bc1, .cells #[v3] 42 (0, 0))], g4]) Tryz.func78 rfl (List.Sublist.refl _) hl9 ⟨_, _, rfl, rfl, (ho5.up hl9)⟩
 ·refine ZZ 9 [0] rfl rfl ?_
  refine st_if rfl h (fun h => ?_) (fun h => ?_)
  ·refine Z 5 rfl ?_
   obtain rfl := Eq.symm h
   exact st_ret (gs' := [[(bc0, .cells #[.int .i64 c0] 3 (0, 0))], [(bc1, .cells #[v3] 42 (0, 0))], g4]) Tryz.func78 rfl (List.Sublist.refl _) hl9 ⟨_, _, rfl, rfl, (ho5.up hl9)⟩
  ·refine Z 4 rfl ?_
   refine o_lenI rfl rfl rfl z_slT42 rfl (hs2.up hl9) ?_
   refine Z 6 rfl ?_
   refine st_if rfl h (fun h => ?_) (fun h => ?_)
   ·refine Z 5 rfl ?_
    obtain rfl := Eq.symm h
    exact st_ret (gs' := [[(bc0, .cells #[.int .i64 c0] 3 (0, 0))], [(bc1, .cells #[v3] 42 (0, 0))], g4]) Tryz.func78 rfl (List.Sublist.refl _) hl9 ⟨_, _, rfl, rfl, (ho5.up hl9)⟩
   ·refine Z 11 rfl ?_
    obtain ⟨hf10, hf11, hf12, hf13, hf14, hf20, hf21, h⟩ := h
    refine st_d41 [[(bc0, .cells #[.int .i64 c0] 3 (0, 0))]] [[(bc1, .cells #[v3] 42 (0, 0))], g4] 7 2 [some (0, 0), none, none, none, none, none, some (0, 1)] [none, none, none, none, none, none, none] [[none, some 38, some 44]] [.v (v3), .v (v1), .v (.int .i64 r6.2.1), .v (.int .i64 (IntKind.i64.wrap (r6.2.1 + (IntKind.i64.wrap r6.1)))), .v (.int .i64 (IntKind.i64.wrap (r6.2.1 + (IntKind.i64.wrap r6.1)))), .t fun τ v => ∃ (v15 : Value), (v15 : Value) = v ∧ Sl (kI .u8) τ v15 ((a0.drop r6.2.1.toNat).take (((IntKind.i64.wrap (r6.2.1 + (IntKind.i64.wrap r6.1))) : Int) - r6.2.1).toNat), .t fun _ _ => True] [[fun τ u F => F = [[(bc1, .cells #[v3] 42 (0, 0))], g4], fun τ u F => F = [[(bc1, .cells #[v3] 42 (0, 0))], g4], fun τ u F => ∃ (v22 : Value) (g23 : Grp), F = [g23, [(bc1, .cells #[v3] 42 (0, 0))]] ∧ v22 = u ∧ Ow (kI .u8) 5 τ v22 (c1 ++ ((a0.drop r6.2.1.toNat).take (((IntKind.i64.wrap (r6.2.1 + (IntKind.i64.wrap r6.1))) : Int) - r6.2.1).toNat)) g23]] rfl z_mix rfl ⟨fun _ _ _ hl ⟨v15, hv, hs16⟩ => ⟨v15, hv, hs16.up hl⟩, ⟨fun _ _ _ _ _ => trivial, trivial⟩⟩ ⟨⟨fun _ _ _ _ hl h => h, ⟨fun _ _ _ _ hl h => h, ⟨fun _ _ _ _ hl h => (let ⟨v22, g23, hF, hU, ho24⟩ := h; ⟨v22, g23, hF, hU, ho24.up hl⟩), trivial⟩⟩⟩, trivial⟩ rfl rfl ?_ (allB_cons (allB_cons (allB_cons (allB_cons (allB_cons (allB_cons (allB_cons allB_nil ?_) (p4 dA)) (p4 dA)) (p4 dA)) (p4 dA)) ?_) ?_) ?_
    ·exact rfl
    ·intro ρ' τ u Fv pool rs hl hI hu hd hout hw hk
     have hI0 := hI
     obtain rfl := hI
     refine st_gs [[(bc0, .cells #[.int .i64 c0] 3 (0, 0))], [(bc1, .cells #[v3] 42 (0, 0))], g4, pool] rfl ?_
     refine o_load (j := 1) (v := v3) rfl rfl rfl z_sc42 ((hout 2 rfl).trans rfl) rfl rfl ?_
     exact hk _ _ [[(bc1, .cells #[v3] 42 (0, 0))], g4] (Sto.Le.refl _) rfl (by exact hI0)
    ·intro ρ' τ pool rs hl hd hout hw hk
     obtain ⟨_, e1, rfl⟩ := hd 1 rfl _ rfl
     obtain ⟨_, e2, rfl⟩ := hd 2 rfl _ rfl
     obtain ⟨_, e3, rfl⟩ := hd 3 rfl _ rfl
     obtain ⟨_, e4, rfl⟩ := hd 4 rfl _ rfl
     refine o_slice (L := r6.2.1) (H := (IntKind.i64.wrap (r6.2.1 + (IntKind.i64.wrap r6.1)))) rfl rfl rfl z_slT42 rfl e1 (hs2.up (hl9.trans hl)) ⟨_, e2⟩ ⟨_, e3⟩ hf10 hf11 hf12 ⟨_, _, e4, hf13, hf14⟩ (by simp) (fun v15 hs16 => ?_)
     exact hk _ _ (Sto.Le.refl _) ⟨v15, rfl, hs16⟩
    ·intro ρ' τ u Fv pool rs hl hI hu hd hout hw hk
     obtain ⟨_, e0, rfl⟩ := hd 0 rfl _ rfl
     obtain ⟨_, e5, v15, rfl, hs16⟩ := hd 5 rfl _ rfl
     have hI0 := hI
     obtain rfl := hI
     refine st_gs [[(bc0, .cells #[.int .i64 c0] 3 (0, 0))], [(bc1, .cells #[v3] 42 (0, 0))], g4, pool] rfl ?_
     refine st_ord [2, 0, 0, 0] _ rfl ?_
     refine o_append (dk := (kI .u8)) (xs := c1) (ys := ((a0.drop r6.2.1.toNat).take (((IntKind.i64.wrap (r6.2.1 + (IntKind.i64.wrap r6.1))) : Int) - r6.2.1).toNat)) rfl rfl rfl rfl z_slT42 e0 (ho5.up (hl9.trans hl)) e5 (Sl.src hs16) hf20 hf21 (fun v17 g18 ho19 => ?_)
     refine st_ord [1, 0, 0, 0] _ rfl ?_
     exact hk _ _ [g18, [(bc1, .cells #[v3] 42 (0, 0))]] (Sto.Le.refl _) trivial (by exact ⟨v17, g18, rfl, rfl, ho19⟩)
    intro ρ' τ25 vals u Fv hl25 hI hu hv hout
    obtain ⟨v22, g23, rfl, rfl, ho24⟩ := hI
    refine st_gs [[(bc0, .cells #[.int .i64 c0] 3 (0, 0))], g23, [(bc1, .cells #[v3] 42 (0, 0))]] rfl ?_
    refine st_env (ρ' := [(2, .pointer (some ⟨bc1, 0, none⟩)), (4, .int .i64 0), (5, .int .i64 0), (9, .int .i64 (IntKind.i64.wrap (r6.2.1 + (IntKind.i64.wrap r6.1)))), (44, v22)]) ⟨(hout 2 rfl).trans rfl, (hout 4 rfl).trans rfl, (hout 5 rfl).trans rfl, (hout 9 rfl).trans rfl, (by exact hu _ rfl), trivial⟩ ?_
    refine o_store (j := 2) (vs := [v22]) (cs' := [v22]) rfl rfl rfl z_size42 rfl rfl (oneL_ow ho24) (ones_cons ho24.one' ones_nil) rfl rfl rfl ?_
    refine st_gs [[(bc0, .cells #[.int .i64 c0] 3 (0, 0))], g23, [(bc1, .cells #[v22] 42 (0, 0))]] rfl ?_
    refine Z 7 rfl ?_
    refine st_ord [0, 1, 0] _ rfl ?_
    obtain rfl := Eq.symm h
    exact st_ret (gs' := [[(bc0, .cells #[.int .i64 c0] 3 (0, 0))], [(bc1, .cells #[v22] 42 (0, 0))], g23]) Tryz.func78 rfl (List.Sublist.refl _) (hl9.trans hl25) ⟨_, _, rfl, rfl, ho24⟩
theorem lens_Lens_read__lens_Lens_Field_1_ok {a0 : List Int × Int × Int} {a1_0 : Int} {a1_1 : List Int} {ba0 : Nat} {v1 : Value} {ba1_0 : Nat} {ba1_1 : Nat} {v3 : Value} {g4 : Grp} {r : Bool × (List Int × Int × Int) × List Int} (h : lens_Lens_read__lens_Lens_Field_1 a0 a1_0 a1_1 r) (σ : Sto) (hs2 : Sl (kI .u8) σ v1 a0.1) (ho5 : Ow (kI .u8) 5 σ v3 a1_1 g4) :
    Does Tryz.prog 77 [.pointer (some ⟨ba0, 0, none⟩), .func (.func 78) #[] [.pointer (some ⟨ba1_0, 0, none⟩), .pointer (some ⟨ba1_1, 0, none⟩)].toArray] σ [[(ba0, .cells [v1, .int .i64 a0.2.1, .int .i64 a0.2.2].toArray 137 (0, 0))], [(ba1_0, .cells [.int .i64 a1_0].toArray 3 (0, 0))], [(ba1_1, .cells [v3].toArray 42 (0, 0))], g4] (fun v τ gs => ∃ (v19 : Value) (v21 : Value) (g22 : Grp), gs = [[(ba0, .cells [v19, .int .i64 r.2.1.2.1, .int .i64 r.2.1.2.2].toArray 137 (0, 0))], [(ba1_0, .cells [.int .i64 a1_0].toArray 3 (0, 0))], [(ba1_1, .cells [v21].toArray 42 (0, 0))], g22] ∧ .bool r.1 = v ∧ Sl (kI .u8) τ v19 r.2.1.1 ∧ Ow (kI .u8) 5 τ v21 r.2.2 g22) := by
 refine call_of Tryz.func77 Tryz.ntmps77 rfl rfl (fun cs fs => ?_)
 refine ZZ 17 [0] rfl rfl ?_
 refine st_if rfl h (fun h => ?_) (fun h => ?_)
 ·refine Z 4 rfl ?_
  obtain rfl := Eq.symm h
  exact st_ret (gs' := [[(ba0, .cells #[v1, .int .i64 a0.2.1, .int .i64 a0.2.2] 137 (0, 0))], [(ba1_0, .cells #[.int .i64 a1_0] 3 (0, 0))], [(ba1_1, .cells #[v3] 42 (0, 0))], g4]) Tryz.func77 rfl (List.Sublist.refl _) (Sto.Le.refl _) ⟨_, _, _, rfl, rfl, hs2, ho5⟩
 ·refine Z 5 rfl ?_
  obtain ⟨r6, hr7, h⟩ := h
  refine st_call (foot := [[(ba0, .cells #[v1, .int .i64 a0.2.1, .int .i64 a0.2.2] 137 (0, 0))]]) rfl rfl rfl rfl rfl rfl (callV_fn z_en76 (lens_Lens_left_ok hr7 σ hs2)) ?_
  rintro vτ8 τ8 gsτ8 hl9 ⟨v10, rfl, rfl, hs11⟩
  obtain ⟨r12, hr13, h⟩ := h
  refine st_ord [1, 1, 1, 0] _ rfl ?_
  refine st_call (foot := [[(ba1_0, .cells #[.int .i64 a1_0] 3 (0, 0))], [(ba1_1, .cells #[v3] 42 (0, 0))], g4]) rfl rfl rfl rfl rfl rfl (callV_of2 (caps := [.pointer (some ⟨ba1_0, 0, none⟩), .pointer (some ⟨ba1_1, 0, none⟩)]) z_en78 (lens_Lens_Field_1_ok hr13 τ8 hs11 (ho5.up hl9)) rfl) ?_
  rintro vτ14 τ14 gsτ14 hl15 ⟨v16, g17, rfl, rfl, ho18⟩
  refine Z 12 rfl ?_
  refine st_if rfl h (fun h => ?_) (fun h => ?_)
  ·refine ZZ 12 [3] rfl rfl ?_
   refine st_ord [3, 0, 0, 0] _ rfl ?_
   obtain rfl := Eq.symm h
   exact st_ret (gs' := [[(ba0, .cells #[v1, .int .i64 a0.2.1, .int .i64 r12.2.1] 137 (0, 0))], [(ba1_0, .cells #[.int .i64 a1_0] 3 (0, 0))], [(ba1_1, .cells #[v16] 42 (0, 0))], g17]) Tryz.func77 rfl (List.Sublist.refl _) (hl9.trans hl15) ⟨_, _, _, rfl, rfl, (hs2.up (hl9.trans hl15)), ho18⟩
  ·refine ZZ 17 [3, 3] rfl rfl ?_
   refine st_ord [3, 0, 0, 0] _ rfl ?_
   obtain rfl := Eq.symm h
   exact st_ret (gs' := [[(ba0, .cells #[v1, .int .i64 (IntKind.i64.wrap (a0.2.1 + r12.1)), .int .i64 a0.2.2] 137 (0, 0))], [(ba1_0, .cells #[.int .i64 a1_0] 3 (0, 0))], [(ba1_1, .cells #[v16] 42 (0, 0))], g17]) Tryz.func77 rfl (List.Sublist.refl _) (hl9.trans hl15) ⟨_, _, _, rfl, rfl, (hs2.up (hl9.trans hl15)), ho18⟩
theorem lens_Lens_Field_ok {a0 : List Int × Int × Int} {a1 : Int} {ba0 : Nat} {v1 : Value} {r : List Int × (List Int × Int × Int)} (h : lens_Lens_Field a0 a1 r) (σ : Sto) (hs2 : Sl (kI .u8) σ v1 a0.1) :
    Does Tryz.prog 62 [.pointer (some ⟨ba0, 0, none⟩), .int .i64 a1] σ [[(ba0, .cells [v1, .int .i64 a0.2.1, .int .i64 a0.2.2].toArray 137 (0, 0))]] (fun v τ gs => ∃ (v20 : Value) (v22 : Value), gs = [[(ba0, .cells [v22, .int .i64 r.2.2.1, .int .i64 r.2.2.2].toArray 137 (0, 0))]] ∧ v20 = v ∧ Sl (kI .u8) τ v20 r.1 ∧ Sl (kI .u8) τ v22 r.2.1) := by
 refine call_of Tryz.func62 Tryz.ntmps62 rfl rfl (fun cs fs => ?_)
 refine Z 2 rfl ?_
 refine o_boxC rfl rfl rfl rfl rfl rfl (fun b3 => ?_)
 refine Z 4 rfl ?_
 refine o_alloc rfl rfl rfl z_zero42 (fun b4 => ?_)
 refine Z 5 rfl ?_
 obtain ⟨r5, hr6, h⟩ := h
 refine st_addNil ?_
 refine st_ord [3, 2, 1, 0] _ rfl ?_
 refine st_call (foot := [[(ba0, .cells #[v1, .int .i64 a0.2.1, .int .i64 a0.2.2] 137 (0, 0))], [(b3, .cells #[.int .i64 a1] 3 (0, 0))], [(b4, .cells #[.slice none 0 0] 42 (0, 0))], []]) rfl rfl rfl rfl rfl rfl (callV_fn z_en77 (lens_Lens_read__lens_Lens_Field_1_ok hr6 σ hs2 Ow.nil)) ?_
 rintro vτ7 τ7 gsτ7 hl8 ⟨v9, v11, g12, rfl, rfl, hs10, ho13⟩
 refine ZZ 6 [2] rfl rfl ?_
 refine st_ord [3, 0, 0, 0] _ rfl ?_
 refine st_freeze (fun τ14 hl15 hg16 => ?_)
 have hs17 := ho13.freeze hl15 hg16
 refine st_ord [0] _ rfl ?_
 obtain rfl := Eq.symm h
 exact st_ret (gs' := [[(ba0, .cells #[v9, .int .i64 r5.2.1.2.1, .int .i64 r5.2.1.2.2] 137 (0, 0))]]) Tryz.func62 rfl (List.Sublist.refl _) (hl8.trans hl15) ⟨_, _, rfl, rfl, hs17, (hs10.up hl15)⟩
theorem lens_Lens_Err_ok {a0 : List Int × Int × Int} {ba0 : Nat} {v1 : Value} {r : Int} (h : lens_Lens_Err a0 r) (σ : Sto) (hs2 : Sl (kI .u8) σ v1 a0.1) :
    Does Tryz.prog 63 [.pointer (some ⟨ba0, 0, none⟩)] σ [[(ba0, .cells [v1, .int .i64 a0.2.1, .int .i64 a0.2.2].toArray 137 (0, 0))]] (fun v τ gs => gs = [[(ba0, .cells [v1, .int .i64 a0.2.1, .int .i64 a0.2.2].toArray 137 (0, 0))]] ∧ .int .i64 r = v) := by
 refine call_of Tryz.func63 Tryz.ntmps63 rfl rfl (fun cs fs => ?_)
 refine ZZ 20 [0] rfl rfl ?_
 obtain rfl := Eq.symm h
 exact st_ret (gs' := [[(ba0, .cells #[v1, .int .i64 a0.2.1, .int .i64 a0.2.2] 137 (0, 0))]]) Tryz.func63 rfl (List.Sublist.refl _) (Sto.Le.refl _) ⟨rfl, rfl⟩
theorem slices_Backward_byte_byte_1_ok {c0 : List Int} {bc0 : Nat} {v1 : Value} {σ0 : Sto} (hc0_0 : Cel σ0 ⟨bc0, 0, none⟩ (v1)) (hs2 : Sl (kI .u8) σ0 v1 c0) :
    IterV Tryz.prog (fun _ x vx => vx = [.int .i64 x.1, .int .u8 x.2]) (.func (.func 118) #[] [.pointer (some ⟨bc0, 0, none⟩)].toArray) σ0 [] (fun (_ : Unit) _ f => f = []) (slices_Backward_byte_byte_1 c0) := by
 intro S Y I y hyc hyo hIm hY s s' o hR σ g hle hIg
 obtain ⟨r, hr0⟩ : ∃ r, r = (s', o) := ⟨_, rfl⟩
 rw [← hr0] at hR
 have h := hR
 refine callV_of (caps := [.pointer (some ⟨bc0, 0, none⟩)]) z_en118 ?_
 refine call_of Tryz.func118 Tryz.ntmps118 rfl rfl (fun cs fs => ?_)
 refine st_ord [0] _ rfl ?_
 refine Z 2 rfl ?_
 refine o_loadI (v := v1) rfl rfl rfl z_sc42 rfl (Cel.up hc0_0 hle) ?_
 refine o_lenI rfl rfl rfl z_slT42 rfl (hs2.up hle) ?_
 refine Z 3 rfl ?_
 obtain ⟨e3, hL3, hA3⟩ := h
 refine st_loop hL3 (fun (s3 : S × Int) ρ τ3 gs => σ.Le τ3 ∧ ∃ (g4 : Grp), ESub ρ [(0, y), (1, .pointer (some ⟨bc0, 0, none⟩)), (3, .int .i64 s3.2)] ∧ gs = [g4] ∧ I s3.1 τ3 g4) ⟨Sto.Le.refl _, g, rfl, rfl, hIg⟩ ?_
 rintro s3 o3 h he3 ρ3 τ3 gs3 ⟨hl3, g4, hρ, rfl, hI5⟩ hn3
 refine st_es hρ ?_
 refine Z 6 rfl ?_
 refine st_if rfl h (fun h => ?_) (fun h => ?_)
 ·refine Z 7 rfl ?_
  refine o_loadI (v := v1) rfl rfl rfl z_sc42 rfl (Cel.up hc0_0 (hle.trans hl3)) ?_
  refine o_move rfl rfl rfl rfl ?_
  obtain ⟨q6, hf7, h⟩ := h
  refine o_index rfl rfl rfl z_slT42 rfl rfl (hs2.up (hle.trans hl3)) rfl hf7 (fun b8 of9 vs hc10 hrep => ?_)
  obtain rfl := hrep
  refine o_loadI (v := .int .u8 q6) rfl rfl rfl z_sc5 rfl (hc10 0 _ rfl) ?_
  obtain ⟨y11, u12, hy13, h⟩ := h
  refine st_call (foot := [g4]) rfl rfl rfl rfl rfl rfl (hY (s3.2, q6) s3.1 _ _ _ _ _ (hle.trans hl3) hy13 rfl hI5) ?_
  rintro vτ14 τ14 gsτ14 hl15 ⟨rfl, g16, rfl, hI17⟩
  refine Z 2 rfl ?_
  refine st_if rfl h (fun h => ?_) (fun h => ?_)
  ·obtain rfl := he3 _ h
   replace h := hA3
   obtain rfl := Eq.symm h
   cases hr0
   exact st_ret (gs' := [g16, []]) Tryz.func118 rfl (by simp) (hl3.trans hl15) ⟨g16, _, rfl, hI17, rfl⟩
  ·refine Z 7 rfl ?_
   exact hn3 _ _ _ _ h ⟨(hl3.trans hl15), g16, rfl, rfl, hI17⟩
 ·refine st_exit rfl ?_
  obtain rfl := he3 _ h
  replace h := hA3
  obtain rfl := Eq.symm h
  cases hr0
  exact st_fin (gs' := [g4, []]) Tryz.func118 rfl (by simp) hl3 ⟨g4, _, rfl, hI5, rfl⟩
theorem slices_Backward_byte_byte_ok {a0 : List Int} {v1 : Value} {r : (((S : Type) → ((Int × Int) → S → Bool × S → Prop) → S → S × Unit → Prop))} (h : slices_Backward_byte_byte a0 r) (σ : Sto) (hs2 : Sl (kI .u8) σ v1 a0) :
    Does Tryz.prog 108 [v1] σ [] (fun v τ gs => ∃ (f7 : Nat) (q8 : Array Value), gs = [] ∧ .func (.func f7) #[] q8 = v ∧ IterV Tryz.prog (fun _ x vx => vx = [.int .i64 x.1, .int .u8 x.2]) (.func (.func f7) #[] q8) τ [] (fun (_ : Unit) _ f => f = []) r) := by
 refine call_of Tryz.func108 Tryz.ntmps108 rfl rfl (fun cs fs => ?_)
 refine Z 2 rfl ?_
 refine o_box (cs := [v1]) rfl rfl rfl rfl (oneL_sl hs2) (fun b3 => ?_)
 refine Z 4 rfl ?_
 refine st_freeze (fun τ4 hl5 hg6 => ?_)
 refine Z 3 rfl ?_
 obtain rfl := Eq.symm h
 exact st_ret (gs' := []) Tryz.func108 rfl (List.Sublist.refl _) hl5 ⟨_, _, rfl, rfl, (slices_Backward_byte_byte_1_ok (cel_of hg6 rfl) (hs2.up hl5))⟩
theorem lens_Lens_word_1_ok {a0 : List Int} {c0 : Int} {c1 : Int} {v1 : Value} {bc0 : Nat} {bc1 : Nat} {r : Int × Int × Int} (h : lens_Lens_word_1 a0 c0 c1 r) (σ : Sto) (hs2 : Sl (kI .u8) σ v1 a0) :
    Does Tryz.prog 107 [v1, .pointer (some ⟨bc0, 0, none⟩), .pointer (some ⟨bc1, 0, none⟩)] σ [[(bc0, .cells [.int .i64 c0].toArray 3 (0, 0))], [(bc1, .cells [.int .u32 c1].toArray 24 (0, 0))]] (fun v τ gs => gs = [[(bc0, .cells [.int .i64 c0].toArray 3 (0, 0))], [(bc1, .cells [.int .u32 r.2.2].toArray 24 (0, 0))]] ∧ .tuple [.int .i64 r.1, .int .i64 r.2.1].toArray = v) := by
 refine call_of Tryz.func107 Tryz.ntmps107 rfl rfl (fun cs fs => ?_)
 refine Z 9 rfl ?_
 refine o_lenI rfl rfl rfl z_slT42 rfl hs2 ?_
 refine ZZ 3 [0] rfl rfl ?_
 refine st_if rfl h (fun h => ?_) (fun h => ?_)
 ·refine Z 5 rfl ?_
  obtain rfl := Eq.symm h
  exact st_ret (gs' := [[(bc0, .cells #[.int .i64 c0] 3 (0, 0))], [(bc1, .cells #[.int .u32 c1] 24 (0, 0))]]) Tryz.func107 rfl (List.Sublist.refl _) (Sto.Le.refl _) ⟨rfl, rfl⟩
 ·refine ZZ 6 [0] rfl rfl ?_
  obtain ⟨hf3, hf4, h⟩ := h
  refine o_slice (L := 0) (H := c0) rfl rfl rfl z_slT42 rfl rfl hs2 rfl ⟨_, rfl⟩ (by decide) hf3 hf4 trivial (by simp) (fun v5 hs6 => ?_)
  obtain ⟨r7, hr8, h⟩ := h
  refine st_call (foot := []) rfl rfl rfl rfl rfl rfl (callV_fn z_en108 (slices_Backward_byte_byte_ok hr8 σ hs6)) ?_
  rintro vτ9 τ9 gsτ9 hl10 ⟨f11, q12, rfl, rfl, hit13⟩
  refine Z 2 rfl ?_
  obtain ⟨t14, w14, hR14, hA14⟩ := h
  refine st_env (ρ' := [(1, .pointer (some ⟨bc0, 0, none⟩)), (2, .pointer (some ⟨bc1, 0, none⟩)), (4, .int .i64 0), (5, .int .i64 0), (15, .func (.func f11) #[] q12)]) ⟨rfl, rfl, rfl, rfl, rfl, trivial⟩ ?_
  refine st_addNil ?_
  refine st_range (B := lens_Lens_word_1_l1) (s0 := c1) ranges_fctx rfl hit13 (Sto.Le.refl _) hR14 rfl (fun _ _ _ h => by cases h; rfl) (fun (s14 : Int) τ14 gs => τ9.Le τ14 ∧ gs = [[(bc0, .cells #[.int .i64 c0] 3 (0, 0))], [(bc1, .cells #[.int .u32 s14] 24 (0, 0))]]) (fun _ _ _ _ => False) (fun _ _ _ _ hl ⟨hb, hg⟩ => ⟨hb.trans hl, hg⟩) (fun _ _ _ _ _ _ h => h.elim) ⟨Sto.Le.refl _, rfl⟩ ?_ ?_ ?_
  ·rintro x14 s14 o14 τ14 gs14 vx14 hl14 h rfl ⟨hb14, rfl⟩ l14 rc14 caller14 cs14 fs14
   refine Z 3 rfl ?_
   refine st_begin ?_
   refine ZZ 10 [1, 1] rfl rfl ?_
   exact st_rend (List.Sublist.refl _) (Sto.Le.refl _) ⟨_, h, hl14, rfl⟩
  ·rintro p15 τ16 gs14 f14 ht hl17 ⟨hb, rfl⟩ rfl
   subst ht
   replace h := hA14
   refine st_ord [1, 1] _ rfl ?_
   refine ZZ 7 [0] rfl rfl ?_
   obtain rfl := Eq.symm h
   exact st_ret (gs' := [[(bc0, .cells #[.int .i64 c0] 3 (0, 0))], [(bc1, .cells #[.int .u32 p15] 24 (0, 0))]]) Tryz.func107 rfl (List.Sublist.refl _) (hl10.trans hl17) ⟨rfl, rfl⟩
  ·exact fun _ _ _ _ _ _ _ h => h.elim
theorem lens_Lens_read__lens_Lens_word_1_ok {a0 : List Int × Int × Int} {a1_0 : Int} {a1_1 : Int} {ba0 : Nat} {v1 : Value} {ba1_0 : Nat} {ba1_1 : Nat} {r : Bool × (List Int × Int × Int) × Int} (h : lens_Lens_read__lens_Lens_word_1 a0 a1_0 a1_1 r) (σ : Sto) (hs2 : Sl (kI .u8) σ v1 a0.1) :
    Does Tryz.prog 77 [.pointer (some ⟨ba0, 0, none⟩), .func (.func 107) #[] [.pointer (some ⟨ba1_0, 0, none⟩), .pointer (some ⟨ba1_1, 0, none⟩)].toArray] σ [[(ba0, .cells [v1, .int .i64 a0.2.1, .int .i64 a0.2.2].toArray 137 (0, 0))], [(ba1_0, .cells [.int .i64 a1_0].toArray 3 (0, 0))], [(ba1_1, .cells [.int .u32 a1_1].toArray 24 (0, 0))]] (fun v τ gs => ∃ (v13 : Value), gs = [[(ba0, .cells [v13, .int .i64 r.2.1.2.1, .int .i64 r.2.1.2.2].toArray 137 (0, 0))], [(ba1_0, .cells [.int .i64 a1_0].toArray 3 (0, 0))], [(ba1_1, .cells [.int .u32 r.2.2].toArray 24 (0, 0))]] ∧ .bool r.1 = v ∧ Sl (kI .u8) τ v13 r.2.1.1) := by
 refine call_of Tryz.func77 Tryz.ntmps77 rfl rfl (fun cs fs => ?_)
 refine ZZ 17 [0] rfl rfl ?_
 refine st_if rfl h (fun h => ?_) (fun h => ?_)
 ·refine Z 4 rfl ?_
  obtain rfl := Eq.symm h
  exact st_ret (gs' := [[(ba0, .cells #[v1, .int .i64 a0.2.1, .int .i64 a0.2.2] 137 (0, 0))], [(ba1_0, .cells #[.int .i64 a1_0] 3 (0, 0))], [(ba1_1, .cells #[.int .u32 a1_1] 24 (0, 0))]]) Tryz.func77 rfl (List.Sublist.refl _) (Sto.Le.refl _) ⟨_, rfl, rfl, hs2⟩
 ·refine Z 5 rfl ?_
  obtain ⟨r3, hr4, h⟩ := h
  refine st_call (foot := [[(ba0, .cells #[v1, .int .i64 a0.2.1, .int .i64 a0.2.2] 137 (0, 0))]]) rfl rfl rfl rfl rfl rfl (callV_fn z_en76 (lens_Lens_left_ok hr4 σ hs2)) ?_
  rintro vτ5 τ5 gsτ5 hl6 ⟨v7, rfl, rfl, hs8⟩
  obtain ⟨r9, hr10, h⟩ := h
  refine st_ord [1, 1, 0] _ rfl ?_
  refine st_call (foot := [[(ba1_0, .cells #[.int .i64 a1_0] 3 (0, 0))], [(ba1_1, .cells #[.int .u32 a1_1] 24 (0, 0))]]) rfl rfl rfl rfl rfl rfl (callV_of2 (caps := [.pointer (some ⟨ba1_0, 0, none⟩), .pointer (some ⟨ba1_1, 0, none⟩)]) z_en107 (lens_Lens_word_1_ok hr10 τ5 hs8) rfl) ?_
  rintro vτ11 τ11 gsτ11 hl12 ⟨rfl, rfl⟩
  refine Z 12 rfl ?_
  refine st_if rfl h (fun h => ?_) (fun h => ?_)
  ·refine ZZ 12 [2] rfl rfl ?_
   refine st_ord [2, 0, 0] _ rfl ?_
   obtain rfl := Eq.symm h
   exact st_ret (gs' := [[(ba0, .cells #[v1, .int .i64 a0.2.1, .int .i64 r9.2.1] 137 (0, 0))], [(ba1_0, .cells #[.int .i64 a1_0] 3 (0, 0))], [(ba1_1, .cells #[.int .u32 r9.2.2] 24 (0, 0))]]) Tryz.func77 rfl (List.Sublist.refl _) (hl6.trans hl12) ⟨_, rfl, rfl, (hs2.up (hl6.trans hl12))⟩
  ·refine ZZ 17 [2, 2] rfl rfl ?_
   refine st_ord [2, 0, 0] _ rfl ?_
   obtain rfl := Eq.symm h
   exact st_ret (gs' := [[(ba0, .cells #[v1, .int .i64 (IntKind.i64.wrap (a0.2.1 + r9.1)), .int .i64 a0.2.2] 137 (0, 0))], [(ba1_0, .cells #[.int .i64 a1_0] 3 (0, 0))], [(ba1_1, .cells #[.int .u32 r9.2.2] 24 (0, 0))]]) Tryz.func77 rfl (List.Sublist.refl _) (hl6.trans hl12) ⟨_, rfl, rfl, (hs2.up (hl6.trans hl12))⟩
theorem lens_Lens_word_ok {a0 : List Int × Int × Int} {a1 : Int} {ba0 : Nat} {v1 : Value} {r : Int × (List Int × Int × Int)} (h : lens_Lens_word a0 a1 r) (σ : Sto) (hs2 : Sl (kI .u8) σ v1 a0.1) :
    Does Tryz.prog 92 [.pointer (some ⟨ba0, 0, none⟩), .int .i64 a1] σ [[(ba0, .cells [v1, .int .i64 a0.2.1, .int .i64 a0.2.2].toArray 137 (0, 0))]] (fun v τ gs => ∃ (v11 : Value), gs = [[(ba0, .cells [v11, .int .i64 r.2.2.1, .int .i64 r.2.2.2].toArray 137 (0, 0))]] ∧ .int .u32 r.1 = v ∧ Sl (kI .u8) τ v11 r.2.1) := by
 refine call_of Tryz.func92 Tryz.ntmps92 rfl rfl (fun cs fs => ?_)
 refine Z 2 rfl ?_
 refine o_boxC rfl rfl rfl rfl rfl rfl (fun b3 => ?_)
 refine Z 4 rfl ?_
 refine o_alloc rfl rfl rfl z_zero24 (fun b4 => ?_)
 refine ZZ 6 [0] rfl rfl ?_
 obtain ⟨r5, hr6, h⟩ := h
 refine st_ord [2, 1, 0] _ rfl ?_
 refine st_call (foot := [[(ba0, .cells #[v1, .int .i64 a0.2.1, .int .i64 a0.2.2] 137 (0, 0))], [(b3, .cells #[.int .i64 a1] 3 (0, 0))], [(b4, .cells #[.int .u32 0] 24 (0, 0))]]) rfl rfl rfl rfl rfl rfl (callV_fn z_en77 (lens_Lens_read__lens_Lens_word_1_ok hr6 σ hs2)) ?_
 rintro vτ7 τ7 gsτ7 hl8 ⟨v9, rfl, rfl, hs10⟩
 refine ZZ 6 [2] rfl rfl ?_
 refine st_ord [0] _ rfl ?_
 obtain rfl := Eq.symm h
 exact st_ret (gs' := [[(ba0, .cells #[v9, .int .i64 r5.2.1.2.1, .int .i64 r5.2.1.2.2] 137 (0, 0))]]) Tryz.func92 rfl (List.Sublist.refl _) hl8 ⟨_, rfl, rfl, hs10⟩
theorem lens_Lens_U8_ok {a0 : List Int × Int × Int} {ba0 : Nat} {v1 : Value} {r : Int × (List Int × Int × Int)} (h : lens_Lens_U8 a0 r) (σ : Sto) (hs2 : Sl (kI .u8) σ v1 a0.1) :
    Does Tryz.prog 80 [.pointer (some ⟨ba0, 0, none⟩)] σ [[(ba0, .cells [v1, .int .i64 a0.2.1, .int .i64 a0.2.2].toArray 137 (0, 0))]] (fun v τ gs => ∃ (v9 : Value), gs = [[(ba0, .cells [v9, .int .i64 r.2.2.1, .int .i64 r.2.2.2].toArray 137 (0, 0))]] ∧ .int .u8 r.1 = v ∧ Sl (kI .u8) τ v9 r.2.1) := by
 refine call_of Tryz.func80 Tryz.ntmps80 rfl rfl (fun cs fs => ?_)
 refine Z 7 rfl ?_
 obtain ⟨r3, hr4, h⟩ := h
 refine st_call (foot := [[(ba0, .cells #[v1, .int .i64 a0.2.1, .int .i64 a0.2.2] 137 (0, 0))]]) rfl rfl rfl rfl rfl rfl (callV_fn z_en92 (lens_Lens_word_ok hr4 σ hs2)) ?_
 rintro vτ5 τ5 gsτ5 hl6 ⟨v7, rfl, rfl, hs8⟩
 refine Z 3 rfl ?_
 obtain rfl := Eq.symm h
 exact st_ret (gs' := [[(ba0, .cells #[v7, .int .i64 r3.2.2.1, .int .i64 r3.2.2.2] 137 (0, 0))]]) Tryz.func80 rfl (List.Sublist.refl _) hl6 ⟨_, rfl, rfl, hs8⟩
theorem lens_Lens_U32_ok {a0 : List Int × Int × Int} {ba0 : Nat} {v1 : Value} {r : Int × (List Int × Int × Int)} (h : lens_Lens_U32 a0 r) (σ : Sto) (hs2 : Sl (kI .u8) σ v1 a0.1) :
    Does Tryz.prog 81 [.pointer (some ⟨ba0, 0, none⟩)] σ [[(ba0, .cells [v1, .int .i64 a0.2.1, .int .i64 a0.2.2].toArray 137 (0, 0))]] (fun v τ gs => ∃ (v9 : Value), gs = [[(ba0, .cells [v9, .int .i64 r.2.2.1, .int .i64 r.2.2.2].toArray 137 (0, 0))]] ∧ .int .u32 r.1 = v ∧ Sl (kI .u8) τ v9 r.2.1) := by
 refine call_of Tryz.func81 Tryz.ntmps81 rfl rfl (fun cs fs => ?_)
 refine Z 7 rfl ?_
 obtain ⟨r3, hr4, h⟩ := h
 refine st_call (foot := [[(ba0, .cells #[v1, .int .i64 a0.2.1, .int .i64 a0.2.2] 137 (0, 0))]]) rfl rfl rfl rfl rfl rfl (callV_fn z_en92 (lens_Lens_word_ok hr4 σ hs2)) ?_
 rintro vτ5 τ5 gsτ5 hl6 ⟨v7, rfl, rfl, hs8⟩
 refine Z 2 rfl ?_
 obtain rfl := Eq.symm h
 exact st_ret (gs' := [[(ba0, .cells #[v7, .int .i64 r3.2.2.1, .int .i64 r3.2.2.2] 137 (0, 0))]]) Tryz.func81 rfl (List.Sublist.refl _) hl6 ⟨_, rfl, rfl, hs8⟩
theorem lens_Lens_Raw_1_ok {a0 : List Int} {c0 : Int} {c1 : List Int} {v1 : Value} {bc0 : Nat} {bc1 : Nat} {v3 : Value} {g4 : Grp} {r : Int × Int × List Int} (h : lens_Lens_Raw_1 a0 c0 c1 r) (σ : Sto) (hs2 : Sl (kI .u8) σ v1 a0) (ho5 : Ow (kI .u8) 5 σ v3 c1 g4) :
    Does Tryz.prog 116 [v1, .pointer (some ⟨bc0, 0, none⟩), .pointer (some ⟨bc1, 0, none⟩)] σ [[(bc0, .cells [.int .i64 c0].toArray 3 (0, 0))], [(bc1, .cells [v3].toArray 42 (0, 0))], g4] (fun v τ gs => ∃ (v21 : Value) (g22 : Grp), gs = [[(bc0, .cells [.int .i64 c0].toArray 3 (0, 0))], [(bc1, .cells [v21].toArray 42 (0, 0))], g22] ∧ .tuple [.int .i64 r.1, .int .i64 r.2.1].toArray = v ∧ Ow (kI .u8) 5 τ v21 r.2.2 g22) := by
 refine call_of Tryz.func116 Tryz.ntmps116 rfl rfl (fun cs fs => ?_)
 refine ZZ 13 [0] rfl rfl ?_
 refine st_if rfl h (fun h => ?_) (fun h => ?_)
 ·refine Z 5 rfl ?_
  obtain rfl := Eq.symm h
  exact st_ret (gs' := [[(bc0, .cells #[.int .i64 c0] 3 (0, 0))], [(bc1, .cells #[v3] 42 (0, 0))], g4]) Tryz.func116 rfl (List.Sublist.refl _) (Sto.Le.refl _) ⟨_, _, rfl, rfl, ho5⟩
 ·refine ZZ 4 [0] rfl rfl ?_
  refine o_lenI rfl rfl rfl z_slT42 rfl hs2 ?_
  refine Z 3 rfl ?_
  refine st_if rfl h (fun h => ?_) (fun h => ?_)
  ·refine Z 5 rfl ?_
   obtain rfl := Eq.symm h
   exact st_ret (gs' := [[(bc0, .cells #[.int .i64 c0] 3 (0, 0))], [(bc1, .cells #[v3] 42 (0, 0))], g4]) Tryz.func116 rfl (List.Sublist.refl _) (Sto.Le.refl _) ⟨_, _, rfl, rfl, ho5⟩
  ·refine Z 3 rfl ?_
   obtain ⟨hf6, hf7, hf8, hf9, hf15, hf16, h⟩ := h
   refine st_d41 [[(bc0, .cells #[.int .i64 c0] 3 (0, 0))]] [[(bc1, .cells #[v3] 42 (0, 0))], g4] 6 2 [some (0, 0), none, none, none, none, some (0, 1)] [none, none, none, none, none, none] [[none, some 14, some 19]] [.v (v3), .v (v1), .v (.int .i64 c0), .v (.int .i64 c0), .t fun τ v => ∃ (v10 : Value), (v10 : Value) = v ∧ Sl (kI .u8) τ v10 ((a0.drop (0 : Int).toNat).take ((c0 : Int) - 0).toNat), .t fun _ _ => True] [[fun τ u F => F = [[(bc1, .cells #[v3] 42 (0, 0))], g4], fun τ u F => F = [[(bc1, .cells #[v3] 42 (0, 0))], g4], fun τ u F => ∃ (v17 : Value) (g18 : Grp), F = [g18, [(bc1, .cells #[v3] 42 (0, 0))]] ∧ v17 = u ∧ Ow (kI .u8) 5 τ v17 (c1 ++ ((a0.drop (0 : Int).toNat).take ((c0 : Int) - 0).toNat)) g18]] rfl z_mix rfl ⟨fun _ _ _ hl ⟨v10, hv, hs11⟩ => ⟨v10, hv, hs11.up hl⟩, ⟨fun _ _ _ _ _ => trivial, trivial⟩⟩ ⟨⟨fun _ _ _ _ hl h => h, ⟨fun _ _ _ _ hl h => h, ⟨fun _ _ _ _ hl h => (let ⟨v17, g18, hF, hU, ho19⟩ := h; ⟨v17, g18, hF, hU, ho19.up hl⟩), trivial⟩⟩⟩, trivial⟩ rfl rfl ?_ (allB_cons (allB_cons (allB_cons (allB_cons (allB_cons (allB_cons allB_nil ?_) (p4 dA)) ?_) ?_) ?_) ?_) ?_
   ·exact rfl
   ·intro ρ' τ u Fv pool rs hl hI hu hd hout hw hk
    have hI0 := hI
    obtain rfl := hI
    refine st_gs [[(bc0, .cells #[.int .i64 c0] 3 (0, 0))], [(bc1, .cells #[v3] 42 (0, 0))], g4, pool] rfl ?_
    refine o_load (j := 1) (v := v3) rfl rfl rfl z_sc42 ((hout 2 rfl).trans rfl) rfl rfl ?_
    exact hk _ _ [[(bc1, .cells #[v3] 42 (0, 0))], g4] (Sto.Le.refl _) rfl (by exact hI0)
   ·intro ρ' τ pool rs hl hd hout hw hk
    refine o_load (j := 0) (v := .int .i64 c0) rfl rfl rfl z_sc3 ((hout 1 rfl).trans rfl) rfl rfl ?_
    exact hk _ _ (Sto.Le.refl _) rfl
   ·intro ρ' τ pool rs hl hd hout hw hk
    refine o_load (j := 0) (v := .int .i64 c0) rfl rfl rfl z_sc3 ((hout 1 rfl).trans rfl) rfl rfl ?_
    exact hk _ _ (Sto.Le.refl _) rfl
   ·intro ρ' τ pool rs hl hd hout hw hk
    obtain ⟨_, e1, rfl⟩ := hd 1 rfl _ rfl
    obtain ⟨_, e2, rfl⟩ := hd 2 rfl _ rfl
    obtain ⟨_, e3, rfl⟩ := hd 3 rfl _ rfl
    refine o_slice (L := 0) (H := c0) rfl rfl rfl z_slT42 rfl e1 (hs2.up hl) rfl ⟨_, e2⟩ (by decide) hf6 hf7 ⟨_, _, e3, hf8, hf9⟩ (by simp) (fun v10 hs11 => ?_)
    exact hk _ _ (Sto.Le.refl _) ⟨v10, rfl, hs11⟩
   ·intro ρ' τ u Fv pool rs hl hI hu hd hout hw hk
    obtain ⟨_, e0, rfl⟩ := hd 0 rfl _ rfl
    obtain ⟨_, e4, v10, rfl, hs11⟩ := hd 4 rfl _ rfl
    have hI0 := hI
    obtain rfl := hI
    refine st_gs [[(bc0, .cells #[.int .i64 c0] 3 (0, 0))], [(bc1, .cells #[v3] 42 (0, 0))], g4, pool] rfl ?_
    refine st_ord [2, 0, 0, 0] _ rfl ?_
    refine o_append (dk := (kI .u8)) (xs := c1) (ys := ((a0.drop (0 : Int).toNat).take ((c0 : Int) - 0).toNat)) rfl rfl rfl rfl z_slT42 e0 (ho5.up hl) e4 (Sl.src hs11) hf15 hf16 (fun v12 g13 ho14 => ?_)
    refine st_ord [1, 0, 0, 0] _ rfl ?_
    exact hk _ _ [g13, [(bc1, .cells #[v3] 42 (0, 0))]] (Sto.Le.refl _) trivial (by exact ⟨v12, g13, rfl, rfl, ho14⟩)
   intro ρ' τ20 vals u Fv hl20 hI hu hv hout
   obtain ⟨v17, g18, rfl, rfl, ho19⟩ := hI
   refine st_gs [[(bc0, .cells #[.int .i64 c0] 3 (0, 0))], g18, [(bc1, .cells #[v3] 42 (0, 0))]] rfl ?_
   refine st_env (ρ' := [(1, .pointer (some ⟨bc0, 0, none⟩)), (2, .pointer (some ⟨bc1, 0, none⟩)), (4, .int .i64 0), (5, .int .i64 0), (19, v17)]) ⟨(hout 1 rfl).trans rfl, (hout 2 rfl).trans rfl, (hout 4 rfl).trans rfl, (hout 5 rfl).trans rfl, (by exact hu _ rfl), trivial⟩ ?_
   refine o_store (j := 2) (vs := [v17]) (cs' := [v17]) rfl rfl rfl z_size42 rfl rfl (oneL_ow ho19) (ones_cons ho19.one' ones_nil) rfl rfl rfl ?_
   refine st_gs [[(bc0, .cells #[.int .i64 c0] 3 (0, 0))], g18, [(bc1, .cells #[v17] 42 (0, 0))]] rfl ?_
   refine ZZ 7 [0] rfl rfl ?_
   refine st_ord [0, 1, 0] _ rfl ?_
   obtain rfl := Eq.symm h
   exact st_ret (gs' := [[(bc0, .cells #[.int .i64 c0] 3 (0, 0))], [(bc1, .cells #[v17] 42 (0, 0))], g18]) Tryz.func116 rfl (List.Sublist.refl _) hl20 ⟨_, _, rfl, rfl, ho19⟩
theorem lens_Lens_read__lens_Lens_Raw_1_ok {a0 : List Int × Int × Int} {a1_0 : Int} {a1_1 : List Int} {ba0 : Nat} {v1 : Value} {ba1_0 : Nat} {ba1_1 : Nat} {v3 : Value} {g4 : Grp} {r : Bool × (List Int × Int × Int) × List Int} (h : lens_Lens_read__lens_Lens_Raw_1 a0 a1_0 a1_1 r) (σ : Sto) (hs2 : Sl (kI .u8) σ v1 a0.1) (ho5 : Ow (kI .u8) 5 σ v3 a1_1 g4) :
    Does Tryz.prog 77 [.pointer (some ⟨ba0, 0, none⟩), .func (.func 116) #[] [.pointer (some ⟨ba1_0, 0, none⟩), .pointer (some ⟨ba1_1, 0, none⟩)].toArray] σ [[(ba0, .cells [v1, .int .i64 a0.2.1, .int .i64 a0.2.2].toArray 137 (0, 0))], [(ba1_0, .cells [.int .i64 a1_0].toArray 3 (0, 0))], [(ba1_1, .cells [v3].toArray 42 (0, 0))], g4] (fun v τ gs => ∃ (v19 : Value) (v21 : Value) (g22 : Grp), gs = [[(ba0, .cells [v19, .int .i64 r.2.1.2.1, .int .i64 r.2.1.2.2].toArray 137 (0, 0))], [(ba1_0, .cells [.int .i64 a1_0].toArray 3 (0, 0))], [(ba1_1, .cells [v21].toArray 42 (0, 0))], g22] ∧ .bool r.1 = v ∧ Sl (kI .u8) τ v19 r.2.1.1 ∧ Ow (kI .u8) 5 τ v21 r.2.2 g22) := by
 refine call_of Tryz.func77 Tryz.ntmps77 rfl rfl (fun cs fs => ?_)
 refine ZZ 17 [0] rfl rfl ?_
 refine st_if rfl h (fun h => ?_) (fun h => ?_)
 ·refine Z 4 rfl ?_
  obtain rfl := Eq.symm h
  exact st_ret (gs' := [[(ba0, .cells #[v1, .int .i64 a0.2.1, .int .i64 a0.2.2] 137 (0, 0))], [(ba1_0, .cells #[.int .i64 a1_0] 3 (0, 0))], [(ba1_1, .cells #[v3] 42 (0, 0))], g4]) Tryz.func77 rfl (List.Sublist.refl _) (Sto.Le.refl _) ⟨_, _, _, rfl, rfl, hs2, ho5⟩
 ·refine Z 5 rfl ?_
  obtain ⟨r6, hr7, h⟩ := h
  refine st_call (foot := [[(ba0, .cells #[v1, .int .i64 a0.2.1, .int .i64 a0.2.2] 137 (0, 0))]]) rfl rfl rfl rfl rfl rfl (callV_fn z_en76 (lens_Lens_left_ok hr7 σ hs2)) ?_
  rintro vτ8 τ8 gsτ8 hl9 ⟨v10, rfl, rfl, hs11⟩
  obtain ⟨r12, hr13, h⟩ := h
  refine st_ord [1, 1, 1, 0] _ rfl ?_
  refine st_call (foot := [[(ba1_0, .cells #[.int .i64 a1_0] 3 (0, 0))], [(ba1_1, .cells #[v3] 42 (0, 0))], g4]) rfl rfl rfl rfl rfl rfl (callV_of2 (caps := [.pointer (some ⟨ba1_0, 0, none⟩), .pointer (some ⟨ba1_1, 0, none⟩)]) z_en116 (lens_Lens_Raw_1_ok hr13 τ8 hs11 (ho5.up hl9)) rfl) ?_
  rintro vτ14 τ14 gsτ14 hl15 ⟨v16, g17, rfl, rfl, ho18⟩
  refine Z 12 rfl ?_
  refine st_if rfl h (fun h => ?_) (fun h => ?_)
  ·refine ZZ 12 [3] rfl rfl ?_
   refine st_ord [3, 0, 0, 0] _ rfl ?_
   obtain rfl := Eq.symm h
   exact st_ret (gs' := [[(ba0, .cells #[v1, .int .i64 a0.2.1, .int .i64 r12.2.1] 137 (0, 0))], [(ba1_0, .cells #[.int .i64 a1_0] 3 (0, 0))], [(ba1_1, .cells #[v16] 42 (0, 0))], g17]) Tryz.func77 rfl (List.Sublist.refl _) (hl9.trans hl15) ⟨_, _, _, rfl, rfl, (hs2.up (hl9.trans hl15)), ho18⟩
  ·refine ZZ 17 [3, 3] rfl rfl ?_
   refine st_ord [3, 0, 0, 0] _ rfl ?_
   obtain rfl := Eq.symm h
   exact st_ret (gs' := [[(ba0, .cells #[v1, .int .i64 (IntKind.i64.wrap (a0.2.1 + r12.1)), .int .i64 a0.2.2] 137 (0, 0))], [(ba1_0, .cells #[.int .i64 a1_0] 3 (0, 0))], [(ba1_1, .cells #[v16] 42 (0, 0))], g17]) Tryz.func77 rfl (List.Sublist.refl _) (hl9.trans hl15) ⟨_, _, _, rfl, rfl, (hs2.up (hl9.trans hl15)), ho18⟩
theorem lens_Lens_Raw_ok {a0 : List Int × Int × Int} {a1 : Int} {ba0 : Nat} {v1 : Value} {r : List Int × (List Int × Int × Int)} (h : lens_Lens_Raw a0 a1 r) (σ : Sto) (hs2 : Sl (kI .u8) σ v1 a0.1) :
    Does Tryz.prog 97 [.pointer (some ⟨ba0, 0, none⟩), .int .i64 a1] σ [[(ba0, .cells [v1, .int .i64 a0.2.1, .int .i64 a0.2.2].toArray 137 (0, 0))]] (fun v τ gs => ∃ (v20 : Value) (v22 : Value), gs = [[(ba0, .cells [v22, .int .i64 r.2.2.1, .int .i64 r.2.2.2].toArray 137 (0, 0))]] ∧ v20 = v ∧ Sl (kI .u8) τ v20 r.1 ∧ Sl (kI .u8) τ v22 r.2.1) := by
 refine call_of Tryz.func97 Tryz.ntmps97 rfl rfl (fun cs fs => ?_)
 refine Z 2 rfl ?_
 refine o_boxC rfl rfl rfl rfl rfl rfl (fun b3 => ?_)
 refine Z 4 rfl ?_
 refine o_alloc rfl rfl rfl z_zero42 (fun b4 => ?_)
 refine Z 5 rfl ?_
 obtain ⟨r5, hr6, h⟩ := h
 refine st_addNil ?_
 refine st_ord [3, 2, 1, 0] _ rfl ?_
 refine st_call (foot := [[(ba0, .cells #[v1, .int .i64 a0.2.1, .int .i64 a0.2.2] 137 (0, 0))], [(b3, .cells #[.int .i64 a1] 3 (0, 0))], [(b4, .cells #[.slice none 0 0] 42 (0, 0))], []]) rfl rfl rfl rfl rfl rfl (callV_fn z_en77 (lens_Lens_read__lens_Lens_Raw_1_ok hr6 σ hs2 Ow.nil)) ?_
 rintro vτ7 τ7 gsτ7 hl8 ⟨v9, v11, g12, rfl, rfl, hs10, ho13⟩
 refine ZZ 6 [2] rfl rfl ?_
 refine st_ord [3, 0, 0, 0] _ rfl ?_
 refine st_freeze (fun τ14 hl15 hg16 => ?_)
 have hs17 := ho13.freeze hl15 hg16
 refine st_ord [0] _ rfl ?_
 obtain rfl := Eq.symm h
 exact st_ret (gs' := [[(ba0, .cells #[v9, .int .i64 r5.2.1.2.1, .int .i64 r5.2.1.2.2] 137 (0, 0))]]) Tryz.func97 rfl (List.Sublist.refl _) (hl8.trans hl15) ⟨_, _, rfl, rfl, hs17, (hs10.up hl15)⟩
theorem lens_Lens_Rest_ok {a0 : List Int × Int × Int} {ba0 : Nat} {v1 : Value} {r : List Int × (List Int × Int × Int)} (h : lens_Lens_Rest a0 r) (σ : Sto) (hs2 : Sl (kI .u8) σ v1 a0.1) :
    Does Tryz.prog 83 [.pointer (some ⟨ba0, 0, none⟩)] σ [[(ba0, .cells [v1, .int .i64 a0.2.1, .int .i64 a0.2.2].toArray 137 (0, 0))]] (fun v τ gs => ∃ (v15 : Value) (v17 : Value), gs = [[(ba0, .cells [v17, .int .i64 r.2.2.1, .int .i64 r.2.2.2].toArray 137 (0, 0))]] ∧ v15 = v ∧ Sl (kI .u8) τ v15 r.1 ∧ Sl (kI .u8) τ v17 r.2.1) := by
 refine call_of Tryz.func83 Tryz.ntmps83 rfl rfl (fun cs fs => ?_)
 refine Z 8 rfl ?_
 obtain ⟨r3, hr4, h⟩ := h
 refine st_call (foot := [[(ba0, .cells #[v1, .int .i64 a0.2.1, .int .i64 a0.2.2] 137 (0, 0))]]) rfl rfl rfl rfl rfl rfl (callV_fn z_en60 (lens_Lens_Left_ok hr4 σ hs2)) ?_
 rintro vτ5 τ5 gsτ5 hl6 ⟨rfl, rfl⟩
 obtain ⟨r7, hr8, h⟩ := h
 refine st_call (foot := [[(ba0, .cells #[v1, .int .i64 a0.2.1, .int .i64 a0.2.2] 137 (0, 0))]]) rfl rfl rfl rfl rfl rfl (callV_fn z_en97 (lens_Lens_Raw_ok hr8 τ5 (hs2.up hl6))) ?_
 rintro vτ9 τ9 gsτ9 hl10 ⟨v11, v13, rfl, rfl, hs12, hs14⟩
 refine Z 2 rfl ?_
 obtain rfl := Eq.symm h
 exact st_ret (gs' := [[(ba0, .cells #[v13, .int .i64 r7.2.2.1, .int .i64 r7.2.2.2] 137 (0, 0))]]) Tryz.func83 rfl (List.Sublist.refl _) (hl6.trans hl10) ⟨_, _, rfl, rfl, hs12, hs14⟩
theorem field_Word_ok {a0 : Int} {r : ByteArray} (h : field_Word a0 r) (σ : Sto)  :
    Does Tryz.prog 93 [.int .i64 a0] σ [] (fun v τ gs => gs = [] ∧ .string r = v) := by
 refine call_of Tryz.func93 Tryz.ntmps93 rfl rfl (fun cs fs => ?_)
 refine Z 2 rfl ?_
 refine o_assign rfl rfl rfl (ev_str z_str19) ?_
 refine Z 12 rfl ?_
 refine st_if rfl h (fun h => ?_) (fun h => ?_)
 ·refine Z 2 rfl ?_
  refine o_assign rfl rfl rfl (ev_str z_str35) ?_
  refine st_end ?_
  obtain rfl := Eq.symm h
  exact st_ret (gs' := []) Tryz.func93 rfl (List.Sublist.refl _) (Sto.Le.refl _) ⟨rfl, rfl⟩
 ·refine Z 5 rfl ?_
  refine st_if rfl h (fun h => ?_) (fun h => ?_)
  ·refine Z 2 rfl ?_
   refine o_assign rfl rfl rfl (ev_str z_str36) ?_
   refine st_end ?_
   obtain rfl := Eq.symm h
   exact st_ret (gs' := []) Tryz.func93 rfl (List.Sublist.refl _) (Sto.Le.refl _) ⟨rfl, rfl⟩
  ·refine Z 5 rfl ?_
   refine st_if rfl h (fun h => ?_) (fun h => ?_)
   ·refine Z 2 rfl ?_
    refine o_assign rfl rfl rfl (ev_str z_str37) ?_
    refine st_end ?_
    obtain rfl := Eq.symm h
    exact st_ret (gs' := []) Tryz.func93 rfl (List.Sublist.refl _) (Sto.Le.refl _) ⟨rfl, rfl⟩
   ·refine Z 5 rfl ?_
    refine st_if rfl h (fun h => ?_) (fun h => ?_)
    ·refine Z 2 rfl ?_
     refine o_assign rfl rfl rfl (ev_str z_str38) ?_
     refine st_end ?_
     obtain rfl := Eq.symm h
     exact st_ret (gs' := []) Tryz.func93 rfl (List.Sublist.refl _) (Sto.Le.refl _) ⟨rfl, rfl⟩
    ·refine Z 5 rfl ?_
     refine st_if rfl h (fun h => ?_) (fun h => ?_)
     ·refine Z 2 rfl ?_
      refine o_assign rfl rfl rfl (ev_str z_str39) ?_
      refine st_end ?_
      obtain rfl := Eq.symm h
      exact st_ret (gs' := []) Tryz.func93 rfl (List.Sublist.refl _) (Sto.Le.refl _) ⟨rfl, rfl⟩
     ·refine Z 4 rfl ?_
      refine o_assign rfl rfl rfl (ev_str z_str19) ?_
      refine st_end ?_
      obtain rfl := Eq.symm h
      exact st_ret (gs' := []) Tryz.func93 rfl (List.Sublist.refl _) (Sto.Le.refl _) ⟨rfl, rfl⟩
theorem lens_Lens_Number_1_ok {a0 : List Int} {c0 : Int} {c1 : Int} {v1 : Value} {bc0 : Nat} {bc1 : Nat} {r : Int × Int × Int} (h : lens_Lens_Number_1 a0 c0 c1 r) (σ : Sto) (hs2 : Sl (kI .u8) σ v1 a0) :
    Does Tryz.prog 119 [v1, .pointer (some ⟨bc0, 0, none⟩), .pointer (some ⟨bc1, 0, none⟩)] σ [[(bc0, .cells [.int .u64 c0].toArray 77 (0, 0))], [(bc1, .cells [.int .u64 c1].toArray 77 (0, 0))]] (fun v τ gs => gs = [[(bc0, .cells [.int .u64 c0].toArray 77 (0, 0))], [(bc1, .cells [.int .u64 r.2.2].toArray 77 (0, 0))]] ∧ .tuple [.int .i64 r.1, .int .i64 r.2.1].toArray = v) := by
 refine call_of Tryz.func119 Tryz.ntmps119 rfl rfl (fun cs fs => ?_)
 refine Z 8 rfl ?_
 obtain ⟨r3, hr4, h⟩ := h
 refine st_call (foot := []) rfl rfl rfl rfl rfl rfl (callV_fn z_en79 (varint_Get_ok hr4 σ hs2)) ?_
 rintro vτ5 τ5 gsτ5 hl6 ⟨rfl, rfl⟩
 refine Z 9 rfl ?_
 refine st_cut (fun ρ τ7 gs => ∃ (s7 : Int), lens_Lens_Number_1_j1 c1 r3 s7 r ∧ τ5.Le τ7 ∧ ESub ρ [(2, .pointer (some ⟨bc1, 0, none⟩)), (4, .int .i64 0), (5, .int .i64 0), (6, .int .u64 r3.1), (7, .int .i64 r3.2.1), (8, .int .i64 s7)] ∧ gs = [[(bc0, .cells #[.int .u64 c0] 77 (0, 0))], [(bc1, .cells #[.int .u64 c1] 77 (0, 0))]]) ?_ (fun hk7 => ?_)
 ·rintro ρ7 τ7 gs7 ⟨s7, h, hl7, hρ, rfl⟩
  refine st_es hρ ?_
  refine st_seq ?_
  refine st_cut (fun ρ τ8 gs => ∃ (s8 : Int), lens_Lens_Number_1_j2 r3 s7 s8 r ∧ τ7.Le τ8 ∧ ESub ρ [(4, .int .i64 0), (5, .int .i64 0), (7, .int .i64 r3.2.1), (8, .int .i64 s7)] ∧ gs = [[(bc0, .cells #[.int .u64 c0] 77 (0, 0))], [(bc1, .cells #[.int .u64 s8] 77 (0, 0))]]) ?_ (fun hk8 => ?_)
  ·rintro ρ8 τ8 gs8 ⟨s8, h, hl8, hρ, rfl⟩
   refine st_es hρ ?_
   refine Z 7 rfl ?_
   obtain rfl := Eq.symm h
   exact st_ret (gs' := [[(bc0, .cells #[.int .u64 c0] 77 (0, 0))], [(bc1, .cells #[.int .u64 s8] 77 (0, 0))]]) Tryz.func119 rfl (List.Sublist.refl _) ((hl6.trans hl7).trans hl8) ⟨rfl, rfl⟩
  refine Z 5 rfl ?_
  refine st_if rfl h (fun h => ?_) (fun h => ?_)
  ·refine ZZ 4 [1] rfl rfl ?_
   exact hk8 _ _ _ ⟨r3.1, h, (Sto.Le.refl _), rfl, rfl⟩
  ·refine st_skip ?_
   exact hk8 _ _ _ ⟨c1, h, (Sto.Le.refl _), rfl, rfl⟩
 refine st_seq ?_
 refine st_cut (fun ρ τ9 gs => ∃ (s9 : Bool), lens_Lens_Number_1_j3 c1 r3 s9 r ∧ τ5.Le τ9 ∧ ESub ρ [(2, .pointer (some ⟨bc1, 0, none⟩)), (4, .int .i64 0), (5, .int .i64 0), (6, .int .u64 r3.1), (7, .int .i64 r3.2.1), (8, .int .i64 r3.2.2), (21, .bool s9)] ∧ gs = [[(bc0, .cells #[.int .u64 c0] 77 (0, 0))], [(bc1, .cells #[.int .u64 c1] 77 (0, 0))]]) ?_ (fun hk9 => ?_)
 ·rintro ρ9 τ9 gs9 ⟨s9, h, hl9, hρ, rfl⟩
  refine st_es hρ ?_
  refine st_if rfl h (fun h => ?_) (fun h => ?_)
  ·refine Z 3 rfl ?_
   exact hk7 _ _ _ ⟨5, h, hl9, rfl, rfl⟩
  ·refine st_skip ?_
   exact hk7 _ _ _ ⟨r3.2.2, h, hl9, rfl, rfl⟩
 refine Z 3 rfl ?_
 refine o_mif rfl rfl rfl rfl h (fun h => ?_) (fun h => ?_)
 ·refine ZZ 5 [0] rfl rfl ?_
  exact hk9 _ _ _ ⟨(decide (c0 < r3.1)), h, (Sto.Le.refl _), rfl, rfl⟩
 ·refine Z 5 rfl ?_
  exact hk9 _ _ _ ⟨false, h, (Sto.Le.refl _), rfl, rfl⟩
theorem lens_Lens_read__lens_Lens_Number_1_ok {a0 : List Int × Int × Int} {a1_0 : Int} {a1_1 : Int} {ba0 : Nat} {v1 : Value} {ba1_0 : Nat} {ba1_1 : Nat} {r : Bool × (List Int × Int × Int) × Int} (h : lens_Lens_read__lens_Lens_Number_1 a0 a1_0 a1_1 r) (σ : Sto) (hs2 : Sl (kI .u8) σ v1 a0.1) :
    Does Tryz.prog 77 [.pointer (some ⟨ba0, 0, none⟩), .func (.func 119) #[] [.pointer (some ⟨ba1_0, 0, none⟩), .pointer (some ⟨ba1_1, 0, none⟩)].toArray] σ [[(ba0, .cells [v1, .int .i64 a0.2.1, .int .i64 a0.2.2].toArray 137 (0, 0))], [(ba1_0, .cells [.int .u64 a1_0].toArray 77 (0, 0))], [(ba1_1, .cells [.int .u64 a1_1].toArray 77 (0, 0))]] (fun v τ gs => ∃ (v13 : Value), gs = [[(ba0, .cells [v13, .int .i64 r.2.1.2.1, .int .i64 r.2.1.2.2].toArray 137 (0, 0))], [(ba1_0, .cells [.int .u64 a1_0].toArray 77 (0, 0))], [(ba1_1, .cells [.int .u64 r.2.2].toArray 77 (0, 0))]] ∧ .bool r.1 = v ∧ Sl (kI .u8) τ v13 r.2.1.1) := by
 refine call_of Tryz.func77 Tryz.ntmps77 rfl rfl (fun cs fs => ?_)
 refine ZZ 17 [0] rfl rfl ?_
 refine st_if rfl h (fun h => ?_) (fun h => ?_)
 ·refine Z 4 rfl ?_
  obtain rfl := Eq.symm h
  exact st_ret (gs' := [[(ba0, .cells #[v1, .int .i64 a0.2.1, .int .i64 a0.2.2] 137 (0, 0))], [(ba1_0, .cells #[.int .u64 a1_0] 77 (0, 0))], [(ba1_1, .cells #[.int .u64 a1_1] 77 (0, 0))]]) Tryz.func77 rfl (List.Sublist.refl _) (Sto.Le.refl _) ⟨_, rfl, rfl, hs2⟩
 ·refine Z 5 rfl ?_
  obtain ⟨r3, hr4, h⟩ := h
  refine st_call (foot := [[(ba0, .cells #[v1, .int .i64 a0.2.1, .int .i64 a0.2.2] 137 (0, 0))]]) rfl rfl rfl rfl rfl rfl (callV_fn z_en76 (lens_Lens_left_ok hr4 σ hs2)) ?_
  rintro vτ5 τ5 gsτ5 hl6 ⟨v7, rfl, rfl, hs8⟩
  obtain ⟨r9, hr10, h⟩ := h
  refine st_ord [1, 1, 0] _ rfl ?_
  refine st_call (foot := [[(ba1_0, .cells #[.int .u64 a1_0] 77 (0, 0))], [(ba1_1, .cells #[.int .u64 a1_1] 77 (0, 0))]]) rfl rfl rfl rfl rfl rfl (callV_of2 (caps := [.pointer (some ⟨ba1_0, 0, none⟩), .pointer (some ⟨ba1_1, 0, none⟩)]) z_en119 (lens_Lens_Number_1_ok hr10 τ5 hs8) rfl) ?_
  rintro vτ11 τ11 gsτ11 hl12 ⟨rfl, rfl⟩
  refine Z 12 rfl ?_
  refine st_if rfl h (fun h => ?_) (fun h => ?_)
  ·refine ZZ 12 [2] rfl rfl ?_
   refine st_ord [2, 0, 0] _ rfl ?_
   obtain rfl := Eq.symm h
   exact st_ret (gs' := [[(ba0, .cells #[v1, .int .i64 a0.2.1, .int .i64 r9.2.1] 137 (0, 0))], [(ba1_0, .cells #[.int .u64 a1_0] 77 (0, 0))], [(ba1_1, .cells #[.int .u64 r9.2.2] 77 (0, 0))]]) Tryz.func77 rfl (List.Sublist.refl _) (hl6.trans hl12) ⟨_, rfl, rfl, (hs2.up (hl6.trans hl12))⟩
  ·refine ZZ 17 [2, 2] rfl rfl ?_
   refine st_ord [2, 0, 0] _ rfl ?_
   obtain rfl := Eq.symm h
   exact st_ret (gs' := [[(ba0, .cells #[v1, .int .i64 (IntKind.i64.wrap (a0.2.1 + r9.1)), .int .i64 a0.2.2] 137 (0, 0))], [(ba1_0, .cells #[.int .u64 a1_0] 77 (0, 0))], [(ba1_1, .cells #[.int .u64 r9.2.2] 77 (0, 0))]]) Tryz.func77 rfl (List.Sublist.refl _) (hl6.trans hl12) ⟨_, rfl, rfl, (hs2.up (hl6.trans hl12))⟩
theorem lens_Lens_Number_ok {a0 : List Int × Int × Int} {a1 : Int} {ba0 : Nat} {v1 : Value} {r : Int × (List Int × Int × Int)} (h : lens_Lens_Number a0 a1 r) (σ : Sto) (hs2 : Sl (kI .u8) σ v1 a0.1) :
    Does Tryz.prog 109 [.pointer (some ⟨ba0, 0, none⟩), .int .u64 a1] σ [[(ba0, .cells [v1, .int .i64 a0.2.1, .int .i64 a0.2.2].toArray 137 (0, 0))]] (fun v τ gs => ∃ (v11 : Value), gs = [[(ba0, .cells [v11, .int .i64 r.2.2.1, .int .i64 r.2.2.2].toArray 137 (0, 0))]] ∧ .int .u64 r.1 = v ∧ Sl (kI .u8) τ v11 r.2.1) := by
 refine call_of Tryz.func109 Tryz.ntmps109 rfl rfl (fun cs fs => ?_)
 refine Z 2 rfl ?_
 refine o_boxC rfl rfl rfl rfl rfl rfl (fun b3 => ?_)
 refine Z 4 rfl ?_
 refine o_alloc rfl rfl rfl z_zero77 (fun b4 => ?_)
 refine ZZ 6 [0] rfl rfl ?_
 obtain ⟨r5, hr6, h⟩ := h
 refine st_ord [2, 1, 0] _ rfl ?_
 refine st_call (foot := [[(ba0, .cells #[v1, .int .i64 a0.2.1, .int .i64 a0.2.2] 137 (0, 0))], [(b3, .cells #[.int .u64 a1] 77 (0, 0))], [(b4, .cells #[.int .u64 0] 77 (0, 0))]]) rfl rfl rfl rfl rfl rfl (callV_fn z_en77 (lens_Lens_read__lens_Lens_Number_1_ok hr6 σ hs2)) ?_
 rintro vτ7 τ7 gsτ7 hl8 ⟨v9, rfl, rfl, hs10⟩
 refine ZZ 6 [2] rfl rfl ?_
 refine st_ord [0] _ rfl ?_
 obtain rfl := Eq.symm h
 exact st_ret (gs' := [[(ba0, .cells #[v9, .int .i64 r5.2.1.2.1, .int .i64 r5.2.1.2.2] 137 (0, 0))]]) Tryz.func109 rfl (List.Sublist.refl _) hl8 ⟨_, rfl, rfl, hs10⟩
theorem body_reader_err_ok {a0 : Unit × Int} {a0p0 : List Int × Int × Int} {ba0 : Nat} {ba0p0 : Nat} {v1 : Value} {r : Int} (h : body_reader_err a0 a0p0 r) (σ : Sto) (hs2 : Sl (kI .u8) σ v1 a0p0.1) :
    Does Tryz.prog 95 [.pointer (some ⟨ba0, 0, none⟩)] σ [[(ba0, .cells [.pointer (some ⟨ba0p0, 0, none⟩), .int .i64 a0.2].toArray 162 (0, 0))], [(ba0p0, .cells [v1, .int .i64 a0p0.2.1, .int .i64 a0p0.2.2].toArray 137 (0, 0))]] (fun v τ gs => gs = [[(ba0, .cells [.pointer (some ⟨ba0p0, 0, none⟩), .int .i64 a0.2].toArray 162 (0, 0))], [(ba0p0, .cells [v1, .int .i64 a0p0.2.1, .int .i64 a0p0.2.2].toArray 137 (0, 0))]] ∧ .int .i64 r = v) := by
 refine call_of Tryz.func95 Tryz.ntmps95 rfl rfl (fun cs fs => ?_)
 refine ZZ 13 [0] rfl rfl ?_
 refine st_if rfl h (fun h => ?_) (fun h => ?_)
 ·refine ZZ 8 [0] rfl rfl ?_
  obtain rfl := Eq.symm h
  exact st_ret (gs' := [[(ba0, .cells #[.pointer (some ⟨ba0p0, 0, none⟩), .int .i64 a0.2] 162 (0, 0))], [(ba0p0, .cells #[v1, .int .i64 a0p0.2.1, .int .i64 a0p0.2.2] 137 (0, 0))]]) Tryz.func95 rfl (List.Sublist.refl _) (Sto.Le.refl _) ⟨rfl, rfl⟩
 ·refine ZZ 7 [0] rfl rfl ?_
  obtain ⟨r3, hr4, h⟩ := h
  refine st_ord [1, 0] _ rfl ?_
  refine st_call (foot := [[(ba0p0, .cells #[v1, .int .i64 a0p0.2.1, .int .i64 a0p0.2.2] 137 (0, 0))]]) rfl rfl rfl rfl rfl rfl (callV_fn z_en63 (lens_Lens_Err_ok hr4 σ hs2)) ?_
  rintro vτ5 τ5 gsτ5 hl6 ⟨rfl, rfl⟩
  refine Z 2 rfl ?_
  refine st_ord [1, 0] _ rfl ?_
  obtain rfl := Eq.symm h
  exact st_ret (gs' := [[(ba0, .cells #[.pointer (some ⟨ba0p0, 0, none⟩), .int .i64 a0.2] 162 (0, 0))], [(ba0p0, .cells #[v1, .int .i64 a0p0.2.1, .int .i64 a0p0.2.2] 137 (0, 0))]]) Tryz.func95 rfl (List.Sublist.refl _) hl6 ⟨rfl, rfl⟩
theorem body_reader_note_ok {a0 : Unit × Int} {a0p0 : List Int × Int × Int} {a1 : Bool} {a2 : Int} {ba0 : Nat} {ba0p0 : Nat} {v1 : Value} {r : (Unit × Int)} (h : body_reader_note a0 a0p0 a1 a2 r) (σ : Sto) (hs2 : Sl (kI .u8) σ v1 a0p0.1) :
    Does Tryz.prog 110 [.pointer (some ⟨ba0, 0, none⟩), .bool a1, .int .i64 a2] σ [[(ba0, .cells [.pointer (some ⟨ba0p0, 0, none⟩), .int .i64 a0.2].toArray 162 (0, 0))], [(ba0p0, .cells [v1, .int .i64 a0p0.2.1, .int .i64 a0p0.2.2].toArray 137 (0, 0))]] (fun v τ gs => gs = [[(ba0, .cells [.pointer (some ⟨ba0p0, 0, none⟩), .int .i64 r.2].toArray 162 (0, 0))], [(ba0p0, .cells [v1, .int .i64 a0p0.2.1, .int .i64 a0p0.2.2].toArray 137 (0, 0))]] ∧ .tuple [].toArray = v) := by
 refine call_of Tryz.func110 Tryz.ntmps110 rfl rfl (fun cs fs => ?_)
 refine st_seq ?_
 refine st_cut (fun ρ τ3 gs => ∃ (s3 : Bool), body_reader_note_j1 a0 a2 s3 r ∧ σ.Le τ3 ∧ ESub ρ [(0, .pointer (some ⟨ba0, 0, none⟩)), (2, .int .i64 a2), (11, .bool s3)] ∧ gs = [[(ba0, .cells #[.pointer (some ⟨ba0p0, 0, none⟩), .int .i64 a0.2] 162 (0, 0))], [(ba0p0, .cells #[v1, .int .i64 a0p0.2.1, .int .i64 a0p0.2.2] 137 (0, 0))]]) ?_ (fun hk3 => ?_)
 ·rintro ρ3 τ3 gs3 ⟨s3, h, hl3, hρ, rfl⟩
  refine st_es hρ ?_
  refine st_if rfl h (fun h => ?_) (fun h => ?_)
  ·refine ZZ 7 [0] rfl rfl ?_
   obtain rfl := Eq.symm h
   exact st_fin (gs' := [[(ba0, .cells #[.pointer (some ⟨ba0p0, 0, none⟩), .int .i64 a2] 162 (0, 0))], [(ba0p0, .cells #[v1, .int .i64 a0p0.2.1, .int .i64 a0p0.2.2] 137 (0, 0))]]) Tryz.func110 rfl (List.Sublist.refl _) hl3 ⟨rfl, rfl⟩
  ·refine st_skip ?_
   obtain rfl := Eq.symm h
   exact st_fin (gs' := [[(ba0, .cells #[.pointer (some ⟨ba0p0, 0, none⟩), .int .i64 a0.2] 162 (0, 0))], [(ba0p0, .cells #[v1, .int .i64 a0p0.2.1, .int .i64 a0p0.2.2] 137 (0, 0))]]) Tryz.func110 rfl (List.Sublist.refl _) hl3 ⟨rfl, rfl⟩
 refine Z 2 rfl ?_
 refine o_mif rfl rfl rfl rfl h (fun h => ?_) (fun h => ?_)
 ·refine o_move rfl rfl rfl rfl ?_
  obtain ⟨r4, hr5, h⟩ := h
  refine st_call (foot := [[(ba0, .cells #[.pointer (some ⟨ba0p0, 0, none⟩), .int .i64 a0.2] 162 (0, 0))], [(ba0p0, .cells #[v1, .int .i64 a0p0.2.1, .int .i64 a0p0.2.2] 137 (0, 0))]]) rfl rfl rfl rfl rfl rfl (callV_fn z_en95 (body_reader_err_ok hr5 σ hs2)) ?_
  rintro vτ6 τ6 gsτ6 hl7 ⟨rfl, rfl⟩
  refine Z 3 rfl ?_
  exact hk3 _ _ _ ⟨(decide (r4 = 0)), h, hl7, rfl, rfl⟩
 ·refine Z 5 rfl ?_
  exact hk3 _ _ _ ⟨false, h, (Sto.Le.refl _), rfl, rfl⟩
theorem varint_Zag_ok {a0 : Int} {r : Int} (h : varint_Zag a0 r) (σ : Sto)  :
    Does Tryz.prog 121 [.int .u64 a0] σ [] (fun v τ gs => gs = [] ∧ .int .i64 r = v) := by
 refine call_of Tryz.func121 Tryz.ntmps121 rfl rfl (fun cs fs => ?_)
 refine Z 16 rfl ?_
 obtain rfl := Eq.symm h
 exact st_ret (gs' := []) Tryz.func121 rfl (List.Sublist.refl _) (Sto.Le.refl _) ⟨rfl, rfl⟩
theorem lens_Lens_Signed_1_ok {a0 : List Int} {c0 : Int} {c1 : Int} {c2 : Int} {v1 : Value} {bc0 : Nat} {bc1 : Nat} {bc2 : Nat} {r : Int × Int × Int} (h : lens_Lens_Signed_1 a0 c0 c1 c2 r) (σ : Sto) (hs2 : Sl (kI .u8) σ v1 a0) :
    Does Tryz.prog 120 [v1, .pointer (some ⟨bc0, 0, none⟩), .pointer (some ⟨bc1, 0, none⟩), .pointer (some ⟨bc2, 0, none⟩)] σ [[(bc0, .cells [.int .i64 c0].toArray 2 (0, 0))], [(bc1, .cells [.int .i64 c1].toArray 2 (0, 0))], [(bc2, .cells [.int .i64 c2].toArray 2 (0, 0))]] (fun v τ gs => gs = [[(bc0, .cells [.int .i64 c0].toArray 2 (0, 0))], [(bc1, .cells [.int .i64 c1].toArray 2 (0, 0))], [(bc2, .cells [.int .i64 r.2.2].toArray 2 (0, 0))]] ∧ .tuple [.int .i64 r.1, .int .i64 r.2.1].toArray = v) := by
 refine call_of Tryz.func120 Tryz.ntmps120 rfl rfl (fun cs fs => ?_)
 refine Z 8 rfl ?_
 obtain ⟨r3, hr4, h⟩ := h
 refine st_call (foot := []) rfl rfl rfl rfl rfl rfl (callV_fn z_en79 (varint_Get_ok hr4 σ hs2)) ?_
 rintro vτ5 τ5 gsτ5 hl6 ⟨rfl, rfl⟩
 refine Z 9 rfl ?_
 refine st_cut (fun ρ τ7 gs => ∃ (s7 : Int × Int), lens_Lens_Signed_1_j1 r3 s7 r ∧ τ5.Le τ7 ∧ ESub ρ [(5, .int .i64 0), (6, .int .i64 0), (8, .int .i64 r3.2.1), (9, .int .i64 s7.1)] ∧ gs = [[(bc0, .cells #[.int .i64 c0] 2 (0, 0))], [(bc1, .cells #[.int .i64 c1] 2 (0, 0))], [(bc2, .cells #[.int .i64 s7.2] 2 (0, 0))]]) ?_ (fun hk7 => ?_)
 ·rintro ρ7 τ7 gs7 ⟨s7, h, hl7, hρ, rfl⟩
  refine st_es hρ ?_
  refine Z 7 rfl ?_
  obtain rfl := Eq.symm h
  exact st_ret (gs' := [[(bc0, .cells #[.int .i64 c0] 2 (0, 0))], [(bc1, .cells #[.int .i64 c1] 2 (0, 0))], [(bc2, .cells #[.int .i64 s7.2] 2 (0, 0))]]) Tryz.func120 rfl (List.Sublist.refl _) (hl6.trans hl7) ⟨rfl, rfl⟩
 refine Z 3 rfl ?_
 obtain ⟨r8, hr9, h⟩ := h
 refine st_call (foot := []) rfl rfl rfl rfl rfl rfl (callV_fn z_en121 (varint_Zag_ok hr9 τ5)) ?_
 rintro vτ10 τ10 gsτ10 hl11 ⟨rfl, rfl⟩
 refine Z 3 rfl ?_
 refine st_cut (fun ρ τ12 gs => ∃ (s12 : Bool), lens_Lens_Signed_1_j2 c2 r3 r8 s12 r ∧ τ10.Le τ12 ∧ ESub ρ [(3, .pointer (some ⟨bc2, 0, none⟩)), (5, .int .i64 0), (6, .int .i64 0), (8, .int .i64 r3.2.1), (9, .int .i64 r3.2.2), (10, .int .i64 r8), (30, .bool s12)] ∧ gs = [[(bc0, .cells #[.int .i64 c0] 2 (0, 0))], [(bc1, .cells #[.int .i64 c1] 2 (0, 0))], [(bc2, .cells #[.int .i64 c2] 2 (0, 0))]]) ?_ (fun hk12 => ?_)
 ·rintro ρ12 τ12 gs12 ⟨s12, h, hl12, hρ, rfl⟩
  refine st_es hρ ?_
  refine st_if rfl h (fun h => ?_) (fun h => ?_)
  ·refine Z 3 rfl ?_
   exact hk7 _ _ _ ⟨(5, c2), h, (hl11.trans hl12), rfl, rfl⟩
  ·refine Z 5 rfl ?_
   refine st_if rfl h (fun h => ?_) (fun h => ?_)
   ·refine ZZ 4 [2] rfl rfl ?_
    exact hk7 _ _ _ ⟨(r3.2.2, r8), h, (hl11.trans hl12), rfl, rfl⟩
   ·refine st_skip ?_
    exact hk7 _ _ _ ⟨(r3.2.2, c2), h, (hl11.trans hl12), rfl, rfl⟩
 refine Z 3 rfl ?_
 refine o_mif rfl rfl rfl rfl h (fun h => ?_) (fun h => ?_)
 ·refine ZZ 3 [0] rfl rfl ?_
  refine o_mif rfl rfl rfl rfl h (fun h => ?_) (fun h => ?_)
  ·refine Z 6 rfl ?_
   exact hk12 _ _ _ ⟨true, h, (Sto.Le.refl _), rfl, rfl⟩
  ·refine ZZ 6 [1] rfl rfl ?_
   exact hk12 _ _ _ ⟨(decide (c1 < r8)), h, (Sto.Le.refl _), rfl, rfl⟩
 ·refine Z 10 rfl ?_
  exact hk12 _ _ _ ⟨false, h, (Sto.Le.refl _), rfl, rfl⟩
theorem lens_Lens_read__lens_Lens_Signed_1_ok {a0 : List Int × Int × Int} {a1_0 : Int} {a1_1 : Int} {a1_2 : Int} {ba0 : Nat} {v1 : Value} {ba1_0 : Nat} {ba1_1 : Nat} {ba1_2 : Nat} {r : Bool × (List Int × Int × Int) × Int} (h : lens_Lens_read__lens_Lens_Signed_1 a0 a1_0 a1_1 a1_2 r) (σ : Sto) (hs2 : Sl (kI .u8) σ v1 a0.1) :
    Does Tryz.prog 77 [.pointer (some ⟨ba0, 0, none⟩), .func (.func 120) #[] [.pointer (some ⟨ba1_0, 0, none⟩), .pointer (some ⟨ba1_1, 0, none⟩), .pointer (some ⟨ba1_2, 0, none⟩)].toArray] σ [[(ba0, .cells [v1, .int .i64 a0.2.1, .int .i64 a0.2.2].toArray 137 (0, 0))], [(ba1_0, .cells [.int .i64 a1_0].toArray 2 (0, 0))], [(ba1_1, .cells [.int .i64 a1_1].toArray 2 (0, 0))], [(ba1_2, .cells [.int .i64 a1_2].toArray 2 (0, 0))]] (fun v τ gs => ∃ (v13 : Value), gs = [[(ba0, .cells [v13, .int .i64 r.2.1.2.1, .int .i64 r.2.1.2.2].toArray 137 (0, 0))], [(ba1_0, .cells [.int .i64 a1_0].toArray 2 (0, 0))], [(ba1_1, .cells [.int .i64 a1_1].toArray 2 (0, 0))], [(ba1_2, .cells [.int .i64 r.2.2].toArray 2 (0, 0))]] ∧ .bool r.1 = v ∧ Sl (kI .u8) τ v13 r.2.1.1) := by
 refine call_of Tryz.func77 Tryz.ntmps77 rfl rfl (fun cs fs => ?_)
 refine ZZ 17 [0] rfl rfl ?_
 refine st_if rfl h (fun h => ?_) (fun h => ?_)
 ·refine Z 4 rfl ?_
  obtain rfl := Eq.symm h
  exact st_ret (gs' := [[(ba0, .cells #[v1, .int .i64 a0.2.1, .int .i64 a0.2.2] 137 (0, 0))], [(ba1_0, .cells #[.int .i64 a1_0] 2 (0, 0))], [(ba1_1, .cells #[.int .i64 a1_1] 2 (0, 0))], [(ba1_2, .cells #[.int .i64 a1_2] 2 (0, 0))]]) Tryz.func77 rfl (List.Sublist.refl _) (Sto.Le.refl _) ⟨_, rfl, rfl, hs2⟩
 ·refine Z 5 rfl ?_
  obtain ⟨r3, hr4, h⟩ := h
  refine st_call (foot := [[(ba0, .cells #[v1, .int .i64 a0.2.1, .int .i64 a0.2.2] 137 (0, 0))]]) rfl rfl rfl rfl rfl rfl (callV_fn z_en76 (lens_Lens_left_ok hr4 σ hs2)) ?_
  rintro vτ5 τ5 gsτ5 hl6 ⟨v7, rfl, rfl, hs8⟩
  obtain ⟨r9, hr10, h⟩ := h
  refine st_ord [1, 1, 1, 0] _ rfl ?_
  refine st_call (foot := [[(ba1_0, .cells #[.int .i64 a1_0] 2 (0, 0))], [(ba1_1, .cells #[.int .i64 a1_1] 2 (0, 0))], [(ba1_2, .cells #[.int .i64 a1_2] 2 (0, 0))]]) rfl rfl rfl rfl rfl rfl (callV_of2 (caps := [.pointer (some ⟨ba1_0, 0, none⟩), .pointer (some ⟨ba1_1, 0, none⟩), .pointer (some ⟨ba1_2, 0, none⟩)]) z_en120 (lens_Lens_Signed_1_ok hr10 τ5 hs8) rfl) ?_
  rintro vτ11 τ11 gsτ11 hl12 ⟨rfl, rfl⟩
  refine Z 12 rfl ?_
  refine st_if rfl h (fun h => ?_) (fun h => ?_)
  ·refine ZZ 12 [3] rfl rfl ?_
   refine st_ord [3, 0, 0, 0] _ rfl ?_
   obtain rfl := Eq.symm h
   exact st_ret (gs' := [[(ba0, .cells #[v1, .int .i64 a0.2.1, .int .i64 r9.2.1] 137 (0, 0))], [(ba1_0, .cells #[.int .i64 a1_0] 2 (0, 0))], [(ba1_1, .cells #[.int .i64 a1_1] 2 (0, 0))], [(ba1_2, .cells #[.int .i64 r9.2.2] 2 (0, 0))]]) Tryz.func77 rfl (List.Sublist.refl _) (hl6.trans hl12) ⟨_, rfl, rfl, (hs2.up (hl6.trans hl12))⟩
  ·refine ZZ 17 [3, 3] rfl rfl ?_
   refine st_ord [3, 0, 0, 0] _ rfl ?_
   obtain rfl := Eq.symm h
   exact st_ret (gs' := [[(ba0, .cells #[v1, .int .i64 (IntKind.i64.wrap (a0.2.1 + r9.1)), .int .i64 a0.2.2] 137 (0, 0))], [(ba1_0, .cells #[.int .i64 a1_0] 2 (0, 0))], [(ba1_1, .cells #[.int .i64 a1_1] 2 (0, 0))], [(ba1_2, .cells #[.int .i64 r9.2.2] 2 (0, 0))]]) Tryz.func77 rfl (List.Sublist.refl _) (hl6.trans hl12) ⟨_, rfl, rfl, (hs2.up (hl6.trans hl12))⟩
theorem lens_Lens_Signed_ok {a0 : List Int × Int × Int} {a1 : Int} {a2 : Int} {ba0 : Nat} {v1 : Value} {r : Int × (List Int × Int × Int)} (h : lens_Lens_Signed a0 a1 a2 r) (σ : Sto) (hs2 : Sl (kI .u8) σ v1 a0.1) :
    Does Tryz.prog 111 [.pointer (some ⟨ba0, 0, none⟩), .int .i64 a1, .int .i64 a2] σ [[(ba0, .cells [v1, .int .i64 a0.2.1, .int .i64 a0.2.2].toArray 137 (0, 0))]] (fun v τ gs => ∃ (v12 : Value), gs = [[(ba0, .cells [v12, .int .i64 r.2.2.1, .int .i64 r.2.2.2].toArray 137 (0, 0))]] ∧ .int .i64 r.1 = v ∧ Sl (kI .u8) τ v12 r.2.1) := by
 refine call_of Tryz.func111 Tryz.ntmps111 rfl rfl (fun cs fs => ?_)
 refine Z 2 rfl ?_
 refine o_boxC rfl rfl rfl rfl rfl rfl (fun b3 => ?_)
 refine o_boxC rfl rfl rfl rfl rfl rfl (fun b4 => ?_)
 refine Z 4 rfl ?_
 refine o_alloc rfl rfl rfl z_zero2 (fun b5 => ?_)
 refine ZZ 6 [0] rfl rfl ?_
 obtain ⟨r6, hr7, h⟩ := h
 refine st_ord [3, 2, 1, 0] _ rfl ?_
 refine st_call (foot := [[(ba0, .cells #[v1, .int .i64 a0.2.1, .int .i64 a0.2.2] 137 (0, 0))], [(b3, .cells #[.int .i64 a1] 2 (0, 0))], [(b4, .cells #[.int .i64 a2] 2 (0, 0))], [(b5, .cells #[.int .i64 0] 2 (0, 0))]]) rfl rfl rfl rfl rfl rfl (callV_fn z_en77 (lens_Lens_read__lens_Lens_Signed_1_ok hr7 σ hs2)) ?_
 rintro vτ8 τ8 gsτ8 hl9 ⟨v10, rfl, rfl, hs11⟩
 refine ZZ 6 [3] rfl rfl ?_
 refine st_ord [0] _ rfl ?_
 obtain rfl := Eq.symm h
 exact st_ret (gs' := [[(ba0, .cells #[v10, .int .i64 r6.2.1.2.1, .int .i64 r6.2.1.2.2] 137 (0, 0))]]) Tryz.func111 rfl (List.Sublist.refl _) hl9 ⟨_, rfl, rfl, hs11⟩
theorem body_reader_count_ok {a0 : Unit × Int} {a0p0 : List Int × Int × Int} {a1 : Int} {ba0 : Nat} {ba0p0 : Nat} {v1 : Value} {r : Int × (Unit × Int) × (List Int × Int × Int)} (h : body_reader_count a0 a0p0 a1 r) (σ : Sto) (hs2 : Sl (kI .u8) σ v1 a0p0.1) :
    Does Tryz.prog 123 [.pointer (some ⟨ba0, 0, none⟩), .int .i64 a1] σ [[(ba0, .cells [.pointer (some ⟨ba0p0, 0, none⟩), .int .i64 a0.2].toArray 162 (0, 0))], [(ba0p0, .cells [v1, .int .i64 a0p0.2.1, .int .i64 a0p0.2.2].toArray 137 (0, 0))]] (fun v τ gs => ∃ (v21 : Value), gs = [[(ba0, .cells [.pointer (some ⟨ba0p0, 0, none⟩), .int .i64 r.2.1.2].toArray 162 (0, 0))], [(ba0p0, .cells [v21, .int .i64 r.2.2.2.1, .int .i64 r.2.2.2.2].toArray 137 (0, 0))]] ∧ .int .i64 r.1 = v ∧ Sl (kI .u8) τ v21 r.2.2.1) := by
 refine call_of Tryz.func123 Tryz.ntmps123 rfl rfl (fun cs fs => ?_)
 refine ZZ 10 [0] rfl rfl ?_
 obtain ⟨r3, hr4, h⟩ := h
 refine st_ord [1, 0] _ rfl ?_
 refine st_call (foot := [[(ba0p0, .cells #[v1, .int .i64 a0p0.2.1, .int .i64 a0p0.2.2] 137 (0, 0))]]) rfl rfl rfl rfl rfl rfl (callV_fn z_en109 (lens_Lens_Number_ok hr4 σ hs2)) ?_
 rintro vτ5 τ5 gsτ5 hl6 ⟨v7, rfl, rfl, hs8⟩
 refine Z 7 rfl ?_
 obtain ⟨r9, hr10, h⟩ := h
 refine st_ord [1, 0] _ rfl ?_
 refine st_call (foot := [[(ba0, .cells #[.pointer (some ⟨ba0p0, 0, none⟩), .int .i64 a0.2] 162 (0, 0))], [(ba0p0, .cells #[v7, .int .i64 r3.2.2.1, .int .i64 r3.2.2.2] 137 (0, 0))]]) rfl rfl rfl rfl rfl rfl (callV_fn z_en110 (body_reader_note_ok hr10 τ5 hs8)) ?_
 rintro vτ11 τ11 gsτ11 hl12 ⟨rfl, rfl⟩
 refine Z 8 rfl ?_
 obtain ⟨r13, hr14, h⟩ := h
 refine st_call (foot := [[(ba0, .cells #[.pointer (some ⟨ba0p0, 0, none⟩), .int .i64 r9.2] 162 (0, 0))], [(ba0p0, .cells #[v7, .int .i64 r3.2.2.1, .int .i64 r3.2.2.2] 137 (0, 0))]]) rfl rfl rfl rfl rfl rfl (callV_fn z_en110 (body_reader_note_ok hr14 τ11 (hs8.up hl12))) ?_
 rintro vτ15 τ15 gsτ15 hl16 ⟨rfl, rfl⟩
 refine Z 5 rfl ?_
 obtain ⟨r17, hr18, h⟩ := h
 refine st_call (foot := [[(ba0, .cells #[.pointer (some ⟨ba0p0, 0, none⟩), .int .i64 r13.2] 162 (0, 0))], [(ba0p0, .cells #[v7, .int .i64 r3.2.2.1, .int .i64 r3.2.2.2] 137 (0, 0))]]) rfl rfl rfl rfl rfl rfl (callV_fn z_en95 (body_reader_err_ok hr18 τ15 (hs8.up (hl12.trans hl16)))) ?_
 rintro vτ19 τ19 gsτ19 hl20 ⟨rfl, rfl⟩
 refine Z 2 rfl ?_
 refine st_if rfl h (fun h => ?_) (fun h => ?_)
 ·refine Z 4 rfl ?_
  obtain rfl := Eq.symm h
  exact st_ret (gs' := [[(ba0, .cells #[.pointer (some ⟨ba0p0, 0, none⟩), .int .i64 r13.2] 162 (0, 0))], [(ba0p0, .cells #[v7, .int .i64 r3.2.2.1, .int .i64 r3.2.2.2] 137 (0, 0))]]) Tryz.func123 rfl (List.Sublist.refl _) (((hl6.trans hl12).trans hl16).trans hl20) ⟨_, rfl, rfl, (hs8.up ((hl12.trans hl16).trans hl20))⟩
 ·refine Z 7 rfl ?_
  obtain rfl := Eq.symm h
  exact st_ret (gs' := [[(ba0, .cells #[.pointer (some ⟨ba0p0, 0, none⟩), .int .i64 r13.2] 162 (0, 0))], [(ba0p0, .cells #[v7, .int .i64 r3.2.2.1, .int .i64 r3.2.2.2] 137 (0, 0))]]) Tryz.func123 rfl (List.Sublist.refl _) (((hl6.trans hl12).trans hl16).trans hl20) ⟨_, rfl, rfl, (hs8.up ((hl12.trans hl16).trans hl20))⟩
theorem body_reader_points_1_ok {a0 : Int} {c0 : Unit} {c0p0 : Unit × Int} {c0p0p0 : List Int × Int × Int} {bc0 : Nat} {bc0p0 : Nat} {bc0p0p0 : Nat} {v1 : Value} {r : Int × (List Int × Int × Int)} (h : body_reader_points_1 a0 c0 c0p0 c0p0p0 r) (σ : Sto) (hs2 : Sl (kI .u8) σ v1 c0p0p0.1) :
    Does Tryz.prog 122 [.int .i64 a0, .pointer (some ⟨bc0, 0, none⟩)] σ [[(bc0, .cells [.pointer (some ⟨bc0p0, 0, none⟩)].toArray 160 (0, 0))], [(bc0p0, .cells [.pointer (some ⟨bc0p0p0, 0, none⟩), .int .i64 c0p0.2].toArray 162 (0, 0))], [(bc0p0p0, .cells [v1, .int .i64 c0p0p0.2.1, .int .i64 c0p0p0.2.2].toArray 137 (0, 0))]] (fun v τ gs => ∃ (v9 : Value), gs = [[(bc0, .cells [.pointer (some ⟨bc0p0, 0, none⟩)].toArray 160 (0, 0))], [(bc0p0, .cells [.pointer (some ⟨bc0p0p0, 0, none⟩), .int .i64 c0p0.2].toArray 162 (0, 0))], [(bc0p0p0, .cells [v9, .int .i64 r.2.2.1, .int .i64 r.2.2.2].toArray 137 (0, 0))]] ∧ .int .i64 r.1 = v ∧ Sl (kI .u8) τ v9 r.2.1) := by
 refine call_of Tryz.func122 Tryz.ntmps122 rfl rfl (fun cs fs => ?_)
 refine ZZ 15 [0, 1] rfl rfl ?_
 obtain ⟨r3, hr4, h⟩ := h
 refine st_ord [2, 0, 0] _ rfl ?_
 refine st_call (foot := [[(bc0p0p0, .cells #[v1, .int .i64 c0p0p0.2.1, .int .i64 c0p0p0.2.2] 137 (0, 0))]]) rfl rfl rfl rfl rfl rfl (callV_fn z_en111 (lens_Lens_Signed_ok hr4 σ hs2)) ?_
 rintro vτ5 τ5 gsτ5 hl6 ⟨v7, rfl, rfl, hs8⟩
 refine Z 3 rfl ?_
 refine st_ord [1, 1, 0] _ rfl ?_
 obtain rfl := Eq.symm h
 exact st_ret (gs' := [[(bc0, .cells #[.pointer (some ⟨bc0p0, 0, none⟩)] 160 (0, 0))], [(bc0p0, .cells #[.pointer (some ⟨bc0p0p0, 0, none⟩), .int .i64 c0p0.2] 162 (0, 0))], [(bc0p0p0, .cells #[v7, .int .i64 r3.2.2.1, .int .i64 r3.2.2.2] 137 (0, 0))]]) Tryz.func122 rfl (List.Sublist.refl _) hl6 ⟨_, rfl, rfl, hs8⟩
theorem body_reader_points_ok {a0 : Unit × Int} {a0p0 : List Int × Int × Int} {ba0 : Nat} {ba0p0 : Nat} {v1 : Value} {r : (List (Int × Int)) × (Unit × Int) × (List Int × Int × Int)} (h : body_reader_points a0 a0p0 r) (σ : Sto) (hs2 : Sl (kI .u8) σ v1 a0p0.1) :
    Does Tryz.prog 112 [.pointer (some ⟨ba0, 0, none⟩)] σ [[(ba0, .cells [.pointer (some ⟨ba0p0, 0, none⟩), .int .i64 a0.2].toArray 162 (0, 0))], [(ba0p0, .cells [v1, .int .i64 a0p0.2.1, .int .i64 a0p0.2.2].toArray 137 (0, 0))]] (fun v τ gs => ∃ (v54 : Value) (v56 : Value), gs = [[(ba0, .cells [.pointer (some ⟨ba0p0, 0, none⟩), .int .i64 r.2.1.2].toArray 162 (0, 0))], [(ba0p0, .cells [v56, .int .i64 r.2.2.2.1, .int .i64 r.2.2.2.2].toArray 137 (0, 0))]] ∧ v54 = v ∧ Sl (kP (kI .i64) (kI .i64)) τ v54 r.1 ∧ Sl (kI .u8) τ v56 r.2.2.1) := by
 refine call_of Tryz.func112 Tryz.ntmps112 rfl rfl (fun cs fs => ?_)
 refine Z 2 rfl ?_
 refine o_boxC rfl rfl rfl rfl rfl rfl (fun b3 => ?_)
 refine Z 14 rfl ?_
 refine o_alloc rfl rfl rfl z_zero84 (fun b4 => ?_)
 refine Z 4 rfl ?_
 refine st_cut (fun ρ τ5 gs => ∃ (s5 : (List (Int × Int)) × Int × List Int × Int × Int) (v6 : Value) (g7 : Grp) (v9 : Value), body_reader_points_j1 s5 r ∧ σ.Le τ5 ∧ ESub ρ [(2, .slice none 0 0), (3, v6)] ∧ gs = [[(ba0, .cells #[.pointer (some ⟨ba0p0, 0, none⟩), .int .i64 s5.2.1] 162 (0, 0))], [(ba0p0, .cells #[v9, .int .i64 s5.2.2.2.1, .int .i64 s5.2.2.2.2] 137 (0, 0))], g7] ∧ Ow (kP (kI .i64) (kI .i64)) 84 τ5 v6 s5.1 g7 ∧ Sl (kI .u8) τ5 v9 s5.2.2.1) ?_ (fun hk5 => ?_)
 ·rintro ρ5 τ5 gs5 ⟨s5, v6, g7, v9, h, hl5, hρ, rfl, ho8, hs10⟩
  refine st_es hρ ?_
  refine Z 5 rfl ?_
  refine st_ord [2, 0, 0] _ rfl ?_
  refine st_freeze (fun τ11 hl12 hg13 => ?_)
  have hs14 := ho8.freeze hl12 hg13
  obtain rfl := Eq.symm h
  exact st_ret (gs' := [[(ba0, .cells #[.pointer (some ⟨ba0p0, 0, none⟩), .int .i64 s5.2.1] 162 (0, 0))], [(ba0p0, .cells #[v9, .int .i64 s5.2.2.2.1, .int .i64 s5.2.2.2.2] 137 (0, 0))]]) Tryz.func112 rfl (List.Sublist.refl _) (hl5.trans hl12) ⟨_, _, rfl, rfl, hs14, (hs10.up hl12)⟩
 refine ZZ 3 [1] rfl rfl ?_
 obtain ⟨r17, hr18, h⟩ := h
 refine st_ord [2, 2, 0, 0] _ rfl ?_
 refine st_call (foot := [[(ba0, .cells #[.pointer (some ⟨ba0p0, 0, none⟩), .int .i64 a0.2] 162 (0, 0))], [(ba0p0, .cells #[v1, .int .i64 a0p0.2.1, .int .i64 a0p0.2.2] 137 (0, 0))]]) rfl rfl rfl rfl rfl rfl (callV_fn z_en123 (body_reader_count_ok hr18 σ hs2)) ?_
 rintro vτ19 τ19 gsτ19 hl20 ⟨v21, rfl, rfl, hs22⟩
 refine Z 2 rfl ?_
 obtain ⟨e23, hL23, hA23⟩ := h
 refine st_addNil ?_
 refine st_ord [1, 1, 2, 1, 0] _ rfl ?_
 refine st_loop hL23 (fun (s23 : (List (Int × Int)) × Int × List Int × Int × Int × Int × Int) ρ τ23 gs => τ19.Le τ23 ∧ ∃ (v24 : Value) (g25 : Grp) (v27 : Value), ESub ρ [(1, .pointer (some ⟨b3, 0, none⟩)), (2, .slice none 0 0), (3, v24), (4, .func (.func 122) #[] #[.pointer (some ⟨b3, 0, none⟩)]), (5, .pointer (some ⟨b4, 0, none⟩)), (8, .int .i64 r17.1), (9, .int .i64 s23.2.1)] ∧ gs = [[(ba0, .cells #[.pointer (some ⟨ba0p0, 0, none⟩), .int .i64 r17.2.1.2] 162 (0, 0))], [(ba0p0, .cells #[v27, .int .i64 s23.2.2.2.1, .int .i64 s23.2.2.2.2.1] 137 (0, 0))], [(b3, .cells #[.pointer (some ⟨ba0, 0, none⟩)] 160 (0, 0))], [(b4, .cells #[.int .i64 s23.2.2.2.2.2.1, .int .i64 s23.2.2.2.2.2.2] 84 (0, 0))], g25] ∧ Ow (kP (kI .i64) (kI .i64)) 84 τ23 v24 s23.1 g25 ∧ Sl (kI .u8) τ23 v27 s23.2.2.1) ⟨Sto.Le.refl _, _, _, _, rfl, rfl, Ow.nil, hs22⟩ ?_
 rintro s23 o23 h he23 ρ23 τ23 gs23 ⟨hl23, v24, g25, v27, hρ, rfl, ho26, hs28⟩ hn23
 refine st_es hρ ?_
 refine Z 5 rfl ?_
 refine st_if rfl h (fun h => ?_) (fun h => ?_)
 ·refine ZZ 8 [3] rfl rfl ?_
  obtain ⟨r29, hr30, h⟩ := h
  refine st_ord [2, 0, 0, 0, 0] _ rfl ?_
  refine st_call (foot := [[(b3, .cells #[.pointer (some ⟨ba0, 0, none⟩)] 160 (0, 0))], [(ba0, .cells #[.pointer (some ⟨ba0p0, 0, none⟩), .int .i64 r17.2.1.2] 162 (0, 0))], [(ba0p0, .cells #[v27, .int .i64 s23.2.2.2.1, .int .i64 s23.2.2.2.2.1] 137 (0, 0))]]) rfl rfl rfl rfl rfl rfl (callV_of2 (caps := [.pointer (some ⟨b3, 0, none⟩)]) z_en122 (body_reader_points_1_ok hr30 τ23 hs28) rfl) ?_
  rintro vτ31 τ31 gsτ31 hl32 ⟨v33, rfl, rfl, hs34⟩
  refine ZZ 8 [3, 3] rfl rfl ?_
  obtain ⟨r35, hr36, h⟩ := h
  refine st_call (foot := [[(b3, .cells #[.pointer (some ⟨ba0, 0, none⟩)] 160 (0, 0))], [(ba0, .cells #[.pointer (some ⟨ba0p0, 0, none⟩), .int .i64 r17.2.1.2] 162 (0, 0))], [(ba0p0, .cells #[v33, .int .i64 r29.2.2.1, .int .i64 r29.2.2.2] 137 (0, 0))]]) rfl rfl rfl rfl rfl rfl (callV_of2 (caps := [.pointer (some ⟨b3, 0, none⟩)]) z_en122 (body_reader_points_1_ok hr36 τ31 hs34) rfl) ?_
  rintro vτ37 τ37 gsτ37 hl38 ⟨v39, rfl, rfl, hs40⟩
  refine ZZ 7 [3, 0] rfl rfl ?_
  obtain ⟨r41, hr42, h⟩ := h
  refine st_ord [1, 1, 0, 0, 0] _ rfl ?_
  refine st_call (foot := [[(ba0, .cells #[.pointer (some ⟨ba0p0, 0, none⟩), .int .i64 r17.2.1.2] 162 (0, 0))], [(ba0p0, .cells #[v39, .int .i64 r35.2.2.1, .int .i64 r35.2.2.2] 137 (0, 0))]]) rfl rfl rfl rfl rfl rfl (callV_fn z_en95 (body_reader_err_ok hr42 τ37 hs40)) ?_
  rintro vτ43 τ43 gsτ43 hl44 ⟨rfl, rfl⟩
  refine Z 2 rfl ?_
  refine st_if rfl h (fun h => ?_) (fun h => ?_)
  ·refine st_exit rfl ?_
   obtain rfl := he23 _ h
   replace h := hA23
   refine st_ord [0, 0, 2] _ rfl ?_
   exact hk5 _ _ _ ⟨(s23.1, r17.2.1.2, r35.2.1, r35.2.2.1, r35.2.2.2), _, _, _, h, ((((hl20.trans hl23).trans hl32).trans hl38).trans hl44), rfl, rfl, (ho26.up ((hl32.trans hl38).trans hl44)), (hs40.up hl44)⟩
  ·refine ZZ 4 [3] rfl rfl ?_
   refine o_litE (eP (eI .i64) (eI .i64)) [(r29.1, r35.1)] rfl rfl rfl z_slT27 z_zero84 ⟨rfl, ⟨_, rfl, rfl⟩, trivial⟩ rfl rfl rfl rfl (fun v45 g46 ho47 => ?_)
   obtain ⟨hf51, hf52, h⟩ := h
   refine st_ord [5, 0, 0, 0, 0, 0] _ rfl ?_
   refine o_append (dk := (kP (kI .i64) (kI .i64))) (xs := s23.1) (ys := [(r29.1, r35.1)]) rfl rfl rfl rfl z_slT27 rfl (ho26.up ((hl32.trans hl38).trans hl44)) rfl (Ow.src (j := 1) ho47 rfl) hf51 hf52 (fun v48 g49 ho50 => ?_)
   refine Z 7 rfl ?_
   refine st_ord [2, 2, 2, 2, 0] _ rfl ?_
   exact hn23 _ _ _ _ h ⟨(((hl23.trans hl32).trans hl38).trans hl44), _, _, _, rfl, rfl, ho50, (hs40.up hl44)⟩
 ·refine st_exit rfl ?_
  obtain rfl := he23 _ h
  replace h := hA23
  refine st_ord [0, 0, 2] _ rfl ?_
  exact hk5 _ _ _ ⟨(s23.1, r17.2.1.2, s23.2.2.1, s23.2.2.2.1, s23.2.2.2.2.1), _, _, _, h, (hl20.trans hl23), rfl, rfl, ho26, hs28⟩
theorem body_reader_cells_ok {a0 : Unit × Int} {a0p0 : List Int × Int × Int} {ba0 : Nat} {ba0p0 : Nat} {v1 : Value} {r : List Int × (Unit × Int) × (List Int × Int × Int)} (h : body_reader_cells a0 a0p0 r) (σ : Sto) (hs2 : Sl (kI .u8) σ v1 a0p0.1) :
    Does Tryz.prog 113 [.pointer (some ⟨ba0, 0, none⟩)] σ [[(ba0, .cells [.pointer (some ⟨ba0p0, 0, none⟩), .int .i64 a0.2].toArray 162 (0, 0))], [(ba0p0, .cells [v1, .int .i64 a0p0.2.1, .int .i64 a0p0.2.2].toArray 137 (0, 0))]] (fun v τ gs => ∃ (v50 : Value) (v52 : Value), gs = [[(ba0, .cells [.pointer (some ⟨ba0p0, 0, none⟩), .int .i64 r.2.1.2].toArray 162 (0, 0))], [(ba0p0, .cells [v52, .int .i64 r.2.2.2.1, .int .i64 r.2.2.2.2].toArray 137 (0, 0))]] ∧ v50 = v ∧ Sl (kI .i64) τ v50 r.1 ∧ Sl (kI .u8) τ v52 r.2.2.1) := by
 refine call_of Tryz.func113 Tryz.ntmps113 rfl rfl (fun cs fs => ?_)
 refine Z 16 rfl ?_
 refine st_cut (fun ρ τ3 gs => ∃ (s3 : List Int × Int × List Int × Int × Int) (v4 : Value) (g5 : Grp) (v7 : Value), body_reader_cells_j1 s3 r ∧ σ.Le τ3 ∧ ESub ρ [(2, .slice none 0 0), (3, v4)] ∧ gs = [[(ba0, .cells #[.pointer (some ⟨ba0p0, 0, none⟩), .int .i64 s3.2.1] 162 (0, 0))], [(ba0p0, .cells #[v7, .int .i64 s3.2.2.2.1, .int .i64 s3.2.2.2.2] 137 (0, 0))], g5] ∧ Ow (kI .i64) 3 τ3 v4 s3.1 g5 ∧ Sl (kI .u8) τ3 v7 s3.2.2.1) ?_ (fun hk3 => ?_)
 ·rintro ρ3 τ3 gs3 ⟨s3, v4, g5, v7, h, hl3, hρ, rfl, ho6, hs8⟩
  refine st_es hρ ?_
  refine Z 5 rfl ?_
  refine st_ord [2, 0, 0] _ rfl ?_
  refine st_freeze (fun τ9 hl10 hg11 => ?_)
  have hs12 := ho6.freeze hl10 hg11
  obtain rfl := Eq.symm h
  exact st_ret (gs' := [[(ba0, .cells #[.pointer (some ⟨ba0p0, 0, none⟩), .int .i64 s3.2.1] 162 (0, 0))], [(ba0p0, .cells #[v7, .int .i64 s3.2.2.2.1, .int .i64 s3.2.2.2.2] 137 (0, 0))]]) Tryz.func113 rfl (List.Sublist.refl _) (hl3.trans hl10) ⟨_, _, rfl, rfl, hs12, (hs8.up hl10)⟩
 refine Z 3 rfl ?_
 obtain ⟨r15, hr16, h⟩ := h
 refine st_call (foot := [[(ba0, .cells #[.pointer (some ⟨ba0p0, 0, none⟩), .int .i64 a0.2] 162 (0, 0))], [(ba0p0, .cells #[v1, .int .i64 a0p0.2.1, .int .i64 a0p0.2.2] 137 (0, 0))]]) rfl rfl rfl rfl rfl rfl (callV_fn z_en123 (body_reader_count_ok hr16 σ hs2)) ?_
 rintro vτ17 τ17 gsτ17 hl18 ⟨v19, rfl, rfl, hs20⟩
 refine Z 2 rfl ?_
 obtain ⟨e21, hL21, hA21⟩ := h
 refine st_addNil ?_
 refine st_ord [1, 1, 0] _ rfl ?_
 refine st_loop hL21 (fun (s21 : List Int × Int × Int × Int × List Int × Int × Int) ρ τ21 gs => τ17.Le τ21 ∧ ∃ (v22 : Value) (g23 : Grp) (v25 : Value), ESub ρ [(0, .pointer (some ⟨ba0, 0, none⟩)), (2, .slice none 0 0), (3, v22), (4, .int .i64 s21.2.1), (6, .int .i64 r15.1), (7, .int .i64 s21.2.2.1)] ∧ gs = [[(ba0, .cells #[.pointer (some ⟨ba0p0, 0, none⟩), .int .i64 s21.2.2.2.1] 162 (0, 0))], [(ba0p0, .cells #[v25, .int .i64 s21.2.2.2.2.2.1, .int .i64 s21.2.2.2.2.2.2] 137 (0, 0))], g23] ∧ Ow (kI .i64) 3 τ21 v22 s21.1 g23 ∧ Sl (kI .u8) τ21 v25 s21.2.2.2.2.1) ⟨Sto.Le.refl _, _, _, _, rfl, rfl, Ow.nil, hs20⟩ ?_
 rintro s21 o21 h he21 ρ21 τ21 gs21 ⟨hl21, v22, g23, v25, hρ, rfl, ho24, hs26⟩ hn21
 refine st_es hρ ?_
 refine Z 5 rfl ?_
 refine st_if rfl h (fun h => ?_) (fun h => ?_)
 ·refine ZZ 10 [0] rfl rfl ?_
  obtain ⟨r27, hr28, h⟩ := h
  refine st_ord [1, 0, 0] _ rfl ?_
  refine st_call (foot := [[(ba0p0, .cells #[v25, .int .i64 s21.2.2.2.2.2.1, .int .i64 s21.2.2.2.2.2.2] 137 (0, 0))]]) rfl rfl rfl rfl rfl rfl (callV_fn z_en109 (lens_Lens_Number_ok hr28 τ21 hs26)) ?_
  rintro vτ29 τ29 gsτ29 hl30 ⟨v31, rfl, rfl, hs32⟩
  refine Z 10 rfl ?_
  obtain ⟨r33, hr34, h⟩ := h
  refine st_ord [1, 0, 0] _ rfl ?_
  refine st_call (foot := [[(ba0, .cells #[.pointer (some ⟨ba0p0, 0, none⟩), .int .i64 s21.2.2.2.1] 162 (0, 0))], [(ba0p0, .cells #[v31, .int .i64 r27.2.2.1, .int .i64 r27.2.2.2] 137 (0, 0))]]) rfl rfl rfl rfl rfl rfl (callV_fn z_en110 (body_reader_note_ok hr34 τ29 hs32)) ?_
  rintro vτ35 τ35 gsτ35 hl36 ⟨rfl, rfl⟩
  refine Z 5 rfl ?_
  obtain ⟨r37, hr38, h⟩ := h
  refine st_call (foot := [[(ba0, .cells #[.pointer (some ⟨ba0p0, 0, none⟩), .int .i64 r33.2] 162 (0, 0))], [(ba0p0, .cells #[v31, .int .i64 r27.2.2.1, .int .i64 r27.2.2.2] 137 (0, 0))]]) rfl rfl rfl rfl rfl rfl (callV_fn z_en95 (body_reader_err_ok hr38 τ35 (hs32.up hl36))) ?_
  rintro vτ39 τ39 gsτ39 hl40 ⟨rfl, rfl⟩
  refine Z 2 rfl ?_
  refine st_if rfl h (fun h => ?_) (fun h => ?_)
  ·refine st_exit rfl ?_
   obtain rfl := he21 _ h
   replace h := hA21
   exact hk3 _ _ _ ⟨(s21.1, r33.2, r27.2.1, r27.2.2.1, r27.2.2.2), _, _, _, h, ((((hl18.trans hl21).trans hl30).trans hl36).trans hl40), rfl, rfl, (ho24.up ((hl30.trans hl36).trans hl40)), (hs32.up (hl36.trans hl40))⟩
  ·refine Z 4 rfl ?_
   refine o_litE (eI .i64) [(IntKind.i64.wrap (s21.2.1 + (IntKind.i64.wrap ((IntKind.i64.wrap r27.1) + 1))))] rfl rfl rfl z_slT28 z_zero3 ⟨rfl, ⟨_, rfl, rfl⟩, trivial⟩ rfl rfl rfl rfl (fun v41 g42 ho43 => ?_)
   obtain ⟨hf47, hf48, h⟩ := h
   refine st_ord [3, 0, 0, 0] _ rfl ?_
   refine o_append (dk := (kI .i64)) (xs := s21.1) (ys := [(IntKind.i64.wrap (s21.2.1 + (IntKind.i64.wrap ((IntKind.i64.wrap r27.1) + 1))))]) rfl rfl rfl rfl z_slT28 rfl (ho24.up ((hl30.trans hl36).trans hl40)) rfl (Ow.src (j := 1) ho43 rfl) hf47 hf48 (fun v44 g45 ho46 => ?_)
   refine Z 7 rfl ?_
   refine st_ord [2, 2, 0] _ rfl ?_
   exact hn21 _ _ _ _ h ⟨(((hl21.trans hl30).trans hl36).trans hl40), _, _, _, rfl, rfl, ho46, (hs32.up (hl36.trans hl40))⟩
 ·refine st_exit rfl ?_
  obtain rfl := he21 _ h
  replace h := hA21
  exact hk3 _ _ _ ⟨(s21.1, s21.2.2.2.1, s21.2.2.2.2.1, s21.2.2.2.2.2.1, s21.2.2.2.2.2.2), _, _, _, h, (hl18.trans hl21), rfl, rfl, ho24, hs26⟩
theorem body_reader_text_ok {a0 : Unit × Int} {a0p0 : List Int × Int × Int} {a1 : Int} {ba0 : Nat} {ba0p0 : Nat} {v1 : Value} {r : ByteArray × (Unit × Int) × (List Int × Int × Int)} (h : body_reader_text a0 a0p0 a1 r) (σ : Sto) (hs2 : Sl (kI .u8) σ v1 a0p0.1) :
    Does Tryz.prog 114 [.pointer (some ⟨ba0, 0, none⟩), .int .i64 a1] σ [[(ba0, .cells [.pointer (some ⟨ba0p0, 0, none⟩), .int .i64 a0.2].toArray 162 (0, 0))], [(ba0p0, .cells [v1, .int .i64 a0p0.2.1, .int .i64 a0p0.2.2].toArray 137 (0, 0))]] (fun v τ gs => ∃ (v28 : Value), gs = [[(ba0, .cells [.pointer (some ⟨ba0p0, 0, none⟩), .int .i64 r.2.1.2].toArray 162 (0, 0))], [(ba0p0, .cells [v28, .int .i64 r.2.2.2.1, .int .i64 r.2.2.2.2].toArray 137 (0, 0))]] ∧ .string r.1 = v ∧ Sl (kI .u8) τ v28 r.2.2.1) := by
 refine call_of Tryz.func114 Tryz.ntmps114 rfl rfl (fun cs fs => ?_)
 refine Z 2 rfl ?_
 refine o_assign rfl rfl rfl (ev_str z_str19) ?_
 refine ZZ 8 [0] rfl rfl ?_
 obtain ⟨r3, hr4, h⟩ := h
 refine st_ord [1, 0] _ rfl ?_
 refine st_call (foot := [[(ba0p0, .cells #[v1, .int .i64 a0p0.2.1, .int .i64 a0p0.2.2] 137 (0, 0))]]) rfl rfl rfl rfl rfl rfl (callV_fn z_en62 (lens_Lens_Field_ok hr4 σ hs2)) ?_
 rintro vτ5 τ5 gsτ5 hl6 ⟨v7, v9, rfl, rfl, hs8, hs10⟩
 refine Z 3 rfl ?_
 refine st_cut (fun ρ τ11 gs => ∃ (s11 : Int), body_reader_text_j1 r3 s11 r ∧ τ5.Le τ11 ∧ ESub ρ [(4, .string (bstr [])), (5, v7)] ∧ gs = [[(ba0, .cells #[.pointer (some ⟨ba0p0, 0, none⟩), .int .i64 s11] 162 (0, 0))], [(ba0p0, .cells #[v9, .int .i64 r3.2.2.1, .int .i64 r3.2.2.2] 137 (0, 0))]]) ?_ (fun hk11 => ?_)
 ·rintro ρ11 τ11 gs11 ⟨s11, h, hl11, hρ, rfl⟩
  refine st_es hρ ?_
  refine Z 3 rfl ?_
  refine o_bstr (xs := r3.1) rfl rfl rfl Tryz.underlying42 Tryz.underlying5 Tryz.underlying9 rfl (hs8.up hl11) ?_
  refine Z 2 rfl ?_
  obtain rfl := Eq.symm h
  exact st_ret (gs' := [[(ba0, .cells #[.pointer (some ⟨ba0p0, 0, none⟩), .int .i64 s11] 162 (0, 0))], [(ba0p0, .cells #[v9, .int .i64 r3.2.2.1, .int .i64 r3.2.2.2] 137 (0, 0))]]) Tryz.func114 rfl (List.Sublist.refl _) (hl6.trans hl11) ⟨_, rfl, rfl, (hs10.up hl11)⟩
 refine Z 3 rfl ?_
 refine o_lenI rfl rfl rfl z_slT42 rfl hs8 ?_
 refine Z 2 rfl ?_
 obtain ⟨e12, hL12, hA12⟩ := h
 refine st_ord [1, 0] _ rfl ?_
 refine st_loop hL12 (fun (s12 : Int × Int) ρ τ12 gs => τ5.Le τ12 ∧ ESub ρ [(0, .pointer (some ⟨ba0, 0, none⟩)), (4, .string (bstr [])), (5, v7), (14, v7), (15, .int .i64 (r3.1.length : Int)), (16, .int .i64 s12.1)] ∧ gs = [[(ba0, .cells #[.pointer (some ⟨ba0p0, 0, none⟩), .int .i64 s12.2] 162 (0, 0))], [(ba0p0, .cells #[v9, .int .i64 r3.2.2.1, .int .i64 r3.2.2.2] 137 (0, 0))]]) ⟨Sto.Le.refl _, rfl, rfl⟩ ?_
 rintro s12 o12 h he12 ρ12 τ12 gs12 ⟨hl12, hρ, rfl⟩ hn12
 refine st_es hρ ?_
 refine Z 5 rfl ?_
 refine st_if rfl h (fun h => ?_) (fun h => ?_)
 ·refine Z 2 rfl ?_
  refine st_cut (fun ρ τ13 gs => ∃ (s13 : Int), body_reader_text_j3 s12 s13 o12 ∧ τ12.Le τ13 ∧ ESub ρ [(0, .pointer (some ⟨ba0, 0, none⟩)), (4, .string (bstr [])), (5, v7), (14, v7), (15, .int .i64 (r3.1.length : Int)), (16, .int .i64 s12.1)] ∧ gs = [[(ba0, .cells #[.pointer (some ⟨ba0p0, 0, none⟩), .int .i64 s13] 162 (0, 0))], [(ba0p0, .cells #[v9, .int .i64 r3.2.2.1, .int .i64 r3.2.2.2] 137 (0, 0))]]) ?_ (fun hk13 => ?_)
  ·rintro ρ13 τ13 gs13 ⟨s13, h, hl13, hρ, rfl⟩
   refine st_es hρ ?_
   refine Z 4 rfl ?_
   exact hn12 _ _ _ _ h ⟨(hl12.trans hl13), rfl, rfl⟩
  refine Z 3 rfl ?_
  obtain ⟨q14, hf15, h⟩ := h
  refine o_index rfl rfl rfl z_slT42 rfl rfl (hs8.up hl12) rfl hf15 (fun b16 of17 vs hc18 hrep => ?_)
  obtain rfl := hrep
  refine o_loadI (v := .int .u8 q14) rfl rfl rfl z_sc5 rfl (hc18 0 _ rfl) ?_
  refine Z 6 rfl ?_
  refine o_mif rfl rfl rfl rfl h (fun h => ?_) (fun h => ?_)
  ·refine Z 3 rfl ?_
   obtain ⟨r19, hr20, h⟩ := h
   refine st_call (foot := [[(ba0, .cells #[.pointer (some ⟨ba0p0, 0, none⟩), .int .i64 s12.2] 162 (0, 0))], [(ba0p0, .cells #[v9, .int .i64 r3.2.2.1, .int .i64 r3.2.2.2] 137 (0, 0))]]) rfl rfl rfl rfl rfl rfl (callV_fn z_en110 (body_reader_note_ok hr20 τ12 (hs10.up hl12))) ?_
   rintro vτ21 τ21 gsτ21 hl22 ⟨rfl, rfl⟩
   refine Z 2 rfl ?_
   exact hk13 _ _ _ ⟨r19.2, h, hl22, rfl, rfl⟩
  ·refine Z 3 rfl ?_
   obtain ⟨r23, hr24, h⟩ := h
   refine st_call (foot := [[(ba0, .cells #[.pointer (some ⟨ba0p0, 0, none⟩), .int .i64 s12.2] 162 (0, 0))], [(ba0p0, .cells #[v9, .int .i64 r3.2.2.1, .int .i64 r3.2.2.2] 137 (0, 0))]]) rfl rfl rfl rfl rfl rfl (callV_fn z_en110 (body_reader_note_ok hr24 τ12 (hs10.up hl12))) ?_
   rintro vτ25 τ25 gsτ25 hl26 ⟨rfl, rfl⟩
   refine Z 2 rfl ?_
   exact hk13 _ _ _ ⟨r23.2, h, hl26, rfl, rfl⟩
 ·refine st_exit rfl ?_
  obtain rfl := he12 _ h
  replace h := hA12
  exact hk11 _ _ _ ⟨s12.2, h, hl12, rfl, rfl⟩
end Go.Rel
