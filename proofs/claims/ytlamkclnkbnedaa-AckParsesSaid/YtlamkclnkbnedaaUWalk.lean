import Derived.Test.YtlamkclnkbnedaaURel
import Derived.Test.YtlamkclnkbnedaaUFacts
import Derived.Test.YtlamkclnkbnedaaUWalk0
/-! The walks. -/
set_option linter.unusedVariables false
set_option linter.unusedSimpArgs false
set_option maxRecDepth 4000
namespace Go.Rel
open Go Go.Eng Go.Proofs
theorem pen_Pen_Raw_ok {a0 : (List Int × Int × Bool)} {a1 : List Int} {ba0 : Nat} {v1 : Value} {g2 : Grp} {v4 : Value} {r : Int × ((List Int × Int × Bool))} (h : pen_Pen_Raw a0 a1 r) (σ : Sto) (ho3 : Ow (kI .u8) 5 σ v1 a0.1 g2) (hs5 : Sl (kI .u8) σ v4 a1) :
    Does Try.prog 104 [.pointer (some ⟨ba0, 0, none⟩), v4] σ [[(ba0, .cells [v1, .int .i64 a0.2.1, .bool a0.2.2].toArray 149 (0, 0))], g2] (fun v τ gs => ∃ (v12 : Value) (g13 : Grp), gs = [[(ba0, .cells [v12, .int .i64 r.2.2.1, .bool r.2.2.2].toArray 149 (0, 0))], g13] ∧ .int .i64 r.1 = v ∧ Ow (kI .u8) 5 τ v12 r.2.1 g13) := by
  refine call_of Try.func104 Try.ntmps104 rfl rfl (fun cs fs => ?_)
  refine st_seq ?_
  refine st_region ?_
  refine o_assign rfl rfl rfl rfl ?_
  refine st_end ?_
  refine st_seq ?_
  refine st_block ?_
  refine st_seq ?_
  refine st_region ?_
  refine o_move rfl rfl rfl rfl ?_
  refine o_ptrNil (b := false) rfl rfl rfl Try.underlying110 rfl rfl rfl ?_
  refine o_assign rfl rfl rfl rfl ?_
  refine st_end ?_
  refine st_condF rfl ?_
  refine st_seq ?_
  refine st_draw 23 (tl [fun τ v => (.pointer (some ⟨ba0, 0, none⟩) : Value) = v,
    fun τ v => (.pointer (some ⟨ba0, 0, none⟩) : Value) = v,
    fun τ v => (.pointer (some ⟨ba0, 0, none⟩) : Value) = v,
    fun τ v => (.pointer (some ⟨ba0, 2, none⟩) : Value) = v,
    fun τ v => (.bool a0.2.2 : Value) = v,
    fun τ v => (.bool a0.2.2 : Value) = v,
    fun τ v => ((a0.2.2 = false) → (v4 : Value) = v) ∧ (¬ (a0.2.2 = false) → v = undef),
    fun τ v => ((a0.2.2 = false) → (.int .i64 (a1.length : Int) : Value) = v) ∧ (¬ (a0.2.2 = false) → v = undef),
    fun τ v => ((a0.2.2 = false) → (.pointer (some ⟨ba0, 0, none⟩) : Value) = v) ∧ (¬ (a0.2.2 = false) → v = undef),
    fun τ v => ((a0.2.2 = false) → (.pointer (some ⟨ba0, 0, none⟩) : Value) = v) ∧ (¬ (a0.2.2 = false) → v = undef),
    fun τ v => ((a0.2.2 = false) → (.pointer (some ⟨ba0, 0, none⟩) : Value) = v) ∧ (¬ (a0.2.2 = false) → v = undef),
    fun τ v => ((a0.2.2 = false) → (.pointer (some ⟨ba0, 1, none⟩) : Value) = v) ∧ (¬ (a0.2.2 = false) → v = undef),
    fun τ v => ((a0.2.2 = false) → (.int .i64 a0.2.1 : Value) = v) ∧ (¬ (a0.2.2 = false) → v = undef),
    fun τ v => ((a0.2.2 = false) → (.pointer (some ⟨ba0, 0, none⟩) : Value) = v) ∧ (¬ (a0.2.2 = false) → v = undef),
    fun τ v => ((a0.2.2 = false) → (.pointer (some ⟨ba0, 0, none⟩) : Value) = v) ∧ (¬ (a0.2.2 = false) → v = undef),
    fun τ v => ((a0.2.2 = false) → (.pointer (some ⟨ba0, 0, none⟩) : Value) = v) ∧ (¬ (a0.2.2 = false) → v = undef),
    fun τ v => ((a0.2.2 = false) → (.pointer (some ⟨ba0, 0, none⟩) : Value) = v) ∧ (¬ (a0.2.2 = false) → v = undef),
    fun τ v => ((a0.2.2 = false) → (v1 : Value) = v) ∧ (¬ (a0.2.2 = false) → v = undef),
    fun τ v => ((a0.2.2 = false) → (.int .i64 (a0.1.length : Int) : Value) = v) ∧ (¬ (a0.2.2 = false) → v = undef),
    fun τ v => ((a0.2.2 = false) → (.int .i64 (IntKind.i64.wrap (a0.2.1 - (a0.1.length : Int))) : Value) = v) ∧ (¬ (a0.2.2 = false) → v = undef),
    fun τ v => ((a0.2.2 = false) → (.bool (decide ((IntKind.i64.wrap (a0.2.1 - (a0.1.length : Int))) < (a1.length : Int))) : Value) = v) ∧ (¬ (a0.2.2 = false) → v = undef),
    fun τ v => (.bool (a0.2.2 || (decide ((IntKind.i64.wrap (a0.2.1 - (a0.1.length : Int))) < (a1.length : Int)))) : Value) = v,
    fun τ v => (.bool (a0.2.2 || (decide ((IntKind.i64.wrap (a0.2.1 - (a0.1.length : Int))) < (a1.length : Int)))) : Value) = v]) (fun _ _ => []) z_mix rfl (tl_mono ⟨fun _ _ _ _ h => h, ⟨fun _ _ _ _ h => h, ⟨fun _ _ _ _ h => h, ⟨fun _ _ _ _ h => h, ⟨fun _ _ _ _ h => h, ⟨fun _ _ _ _ h => h, ⟨fun _ _ _ _ h => h, ⟨fun _ _ _ _ h => h, ⟨fun _ _ _ _ h => h, ⟨fun _ _ _ _ h => h, ⟨fun _ _ _ _ h => h, ⟨fun _ _ _ _ h => h, ⟨fun _ _ _ _ h => h, ⟨fun _ _ _ _ h => h, ⟨fun _ _ _ _ h => h, ⟨fun _ _ _ _ h => h, ⟨fun _ _ _ _ h => h, ⟨fun _ _ _ _ h => h, ⟨fun _ _ _ _ h => h, ⟨fun _ _ _ _ h => h, ⟨fun _ _ _ _ h => h, ⟨fun _ _ _ _ h => h, ⟨fun _ _ _ _ h => h, trivial⟩⟩⟩⟩⟩⟩⟩⟩⟩⟩⟩⟩⟩⟩⟩⟩⟩⟩⟩⟩⟩⟩⟩) (allB_cons (allB_cons (allB_cons (allB_cons (allB_cons (allB_cons (allB_cons (allB_cons (allB_cons (allB_cons (allB_cons (allB_cons (allB_cons (allB_cons (allB_cons (allB_cons (allB_cons (allB_cons (allB_cons (allB_cons (allB_cons (allB_cons (allB_cons allB_nil ?_) ?_) ?_) ?_) ?_) ?_) ?_) ?_) ?_) ?_) ?_) ?_) ?_) ?_) ?_) ?_) ?_) ?_) ?_) ?_) ?_) ?_) ?_) ?_
  · intro ρ' τ pool rs hl hd hout hk
    refine o_move rfl rfl rfl ((hout 0 rfl).trans rfl) ?_
    exact st_addNil (hk _ _ (Sto.Le.refl _) rfl)
  · intro ρ' τ pool rs hl hd hout hk
    obtain ⟨_, e0, rfl⟩ := hd 0 rfl
    refine o_nilCheck rfl rfl rfl e0 ?_
    exact st_addNil (hk _ _ (Sto.Le.refl _) rfl)
  · intro ρ' τ pool rs hl hd hout hk
    obtain ⟨_, e1, rfl⟩ := hd 1 rfl
    refine o_fieldAddr rfl rfl rfl z_field149_0 e1 ?_
    exact st_addNil (hk _ _ (Sto.Le.refl _) rfl)
  · intro ρ' τ pool rs hl hd hout hk
    obtain ⟨_, e2, rfl⟩ := hd 2 rfl
    refine o_fieldAddr rfl rfl rfl z_field147_2 e2 ?_
    exact st_addNil (hk _ _ (Sto.Le.refl _) rfl)
  · intro ρ' τ pool rs hl hd hout hk
    obtain ⟨_, e3, rfl⟩ := hd 3 rfl
    refine o_load (j := 0) (v := .bool a0.2.2) rfl rfl rfl z_sc4 e3 rfl rfl ?_
    exact st_addNil (hk _ _ (Sto.Le.refl _) rfl)
  · intro ρ' τ pool rs hl hd hout hk
    obtain ⟨_, e4, rfl⟩ := hd 4 rfl
    refine o_move rfl rfl rfl e4 ?_
    exact st_addNil (hk _ _ (Sto.Le.refl _) rfl)
  · intro ρ' τ pool rs hl hd hout hk
    obtain ⟨_, e5, rfl⟩ := hd 5 rfl
    by_cases hG : a0.2.2 = false
    · have hC := hG
      refine o_move rfl (wants_of rfl e5 hG) rfl ((hout 1 rfl).trans rfl) ?_
      exact st_addNil (hk _ _ (Sto.Le.refl _) ⟨fun _ => rfl, fun hn => absurd hC hn⟩)
    · refine st_pass rfl rfl rfl e5 (beq_off hG) rfl ?_
      exact st_addNil (hk _ _ (Sto.Le.refl _) ⟨fun h => absurd h hG, fun _ => rfl⟩)
  · intro ρ' τ pool rs hl hd hout hk
    obtain ⟨_, e5, rfl⟩ := hd 5 rfl
    obtain ⟨w6, e6, t6⟩ := hd 6 rfl
    by_cases hG : a0.2.2 = false
    · have hC := hG
      obtain ⟨rfl⟩ := t6.1 hC
      refine o_lenI rfl (wants_of rfl e5 hG) rfl z_slT45 e6 (hs5.up hl) ?_
      exact st_addNil (hk _ _ (Sto.Le.refl _) ⟨fun _ => rfl, fun hn => absurd hC hn⟩)
    · refine st_pass rfl rfl rfl e5 (beq_off hG) rfl ?_
      exact st_addNil (hk _ _ (Sto.Le.refl _) ⟨fun h => absurd h hG, fun _ => rfl⟩)
  · intro ρ' τ pool rs hl hd hout hk
    obtain ⟨_, e5, rfl⟩ := hd 5 rfl
    by_cases hG : a0.2.2 = false
    · have hC := hG
      refine o_move rfl (wants_of rfl e5 hG) rfl ((hout 0 rfl).trans rfl) ?_
      exact st_addNil (hk _ _ (Sto.Le.refl _) ⟨fun _ => rfl, fun hn => absurd hC hn⟩)
    · refine st_pass rfl rfl rfl e5 (beq_off hG) rfl ?_
      exact st_addNil (hk _ _ (Sto.Le.refl _) ⟨fun h => absurd h hG, fun _ => rfl⟩)
  · intro ρ' τ pool rs hl hd hout hk
    obtain ⟨_, e5, rfl⟩ := hd 5 rfl
    obtain ⟨w8, e8, t8⟩ := hd 8 rfl
    by_cases hG : a0.2.2 = false
    · have hC := hG
      obtain ⟨rfl⟩ := t8.1 hC
      refine o_nilCheck rfl (wants_of rfl e5 hG) rfl e8 ?_
      exact st_addNil (hk _ _ (Sto.Le.refl _) ⟨fun _ => rfl, fun hn => absurd hC hn⟩)
    · refine st_pass rfl rfl rfl e5 (beq_off hG) rfl ?_
      exact st_addNil (hk _ _ (Sto.Le.refl _) ⟨fun h => absurd h hG, fun _ => rfl⟩)
  · intro ρ' τ pool rs hl hd hout hk
    obtain ⟨_, e5, rfl⟩ := hd 5 rfl
    obtain ⟨w9, e9, t9⟩ := hd 9 rfl
    by_cases hG : a0.2.2 = false
    · have hC := hG
      obtain ⟨rfl⟩ := t9.1 hC
      refine o_fieldAddr rfl (wants_of rfl e5 hG) rfl z_field149_0 e9 ?_
      exact st_addNil (hk _ _ (Sto.Le.refl _) ⟨fun _ => rfl, fun hn => absurd hC hn⟩)
    · refine st_pass rfl rfl rfl e5 (beq_off hG) rfl ?_
      exact st_addNil (hk _ _ (Sto.Le.refl _) ⟨fun h => absurd h hG, fun _ => rfl⟩)
  · intro ρ' τ pool rs hl hd hout hk
    obtain ⟨_, e5, rfl⟩ := hd 5 rfl
    obtain ⟨w10, e10, t10⟩ := hd 10 rfl
    by_cases hG : a0.2.2 = false
    · have hC := hG
      obtain ⟨rfl⟩ := t10.1 hC
      refine o_fieldAddr rfl (wants_of rfl e5 hG) rfl z_field147_1 e10 ?_
      exact st_addNil (hk _ _ (Sto.Le.refl _) ⟨fun _ => rfl, fun hn => absurd hC hn⟩)
    · refine st_pass rfl rfl rfl e5 (beq_off hG) rfl ?_
      exact st_addNil (hk _ _ (Sto.Le.refl _) ⟨fun h => absurd h hG, fun _ => rfl⟩)
  · intro ρ' τ pool rs hl hd hout hk
    obtain ⟨_, e5, rfl⟩ := hd 5 rfl
    obtain ⟨w11, e11, t11⟩ := hd 11 rfl
    by_cases hG : a0.2.2 = false
    · have hC := hG
      obtain ⟨rfl⟩ := t11.1 hC
      refine o_load (j := 0) (v := .int .i64 a0.2.1) rfl (wants_of rfl e5 hG) rfl z_sc3 e11 rfl rfl ?_
      exact st_addNil (hk _ _ (Sto.Le.refl _) ⟨fun _ => rfl, fun hn => absurd hC hn⟩)
    · refine st_pass rfl rfl rfl e5 (beq_off hG) rfl ?_
      exact st_addNil (hk _ _ (Sto.Le.refl _) ⟨fun h => absurd h hG, fun _ => rfl⟩)
  · intro ρ' τ pool rs hl hd hout hk
    obtain ⟨_, e5, rfl⟩ := hd 5 rfl
    by_cases hG : a0.2.2 = false
    · have hC := hG
      refine o_move rfl (wants_of rfl e5 hG) rfl ((hout 0 rfl).trans rfl) ?_
      exact st_addNil (hk _ _ (Sto.Le.refl _) ⟨fun _ => rfl, fun hn => absurd hC hn⟩)
    · refine st_pass rfl rfl rfl e5 (beq_off hG) rfl ?_
      exact st_addNil (hk _ _ (Sto.Le.refl _) ⟨fun h => absurd h hG, fun _ => rfl⟩)
  · intro ρ' τ pool rs hl hd hout hk
    obtain ⟨_, e5, rfl⟩ := hd 5 rfl
    obtain ⟨w13, e13, t13⟩ := hd 13 rfl
    by_cases hG : a0.2.2 = false
    · have hC := hG
      obtain ⟨rfl⟩ := t13.1 hC
      refine o_nilCheck rfl (wants_of rfl e5 hG) rfl e13 ?_
      exact st_addNil (hk _ _ (Sto.Le.refl _) ⟨fun _ => rfl, fun hn => absurd hC hn⟩)
    · refine st_pass rfl rfl rfl e5 (beq_off hG) rfl ?_
      exact st_addNil (hk _ _ (Sto.Le.refl _) ⟨fun h => absurd h hG, fun _ => rfl⟩)
  · intro ρ' τ pool rs hl hd hout hk
    obtain ⟨_, e5, rfl⟩ := hd 5 rfl
    obtain ⟨w14, e14, t14⟩ := hd 14 rfl
    by_cases hG : a0.2.2 = false
    · have hC := hG
      obtain ⟨rfl⟩ := t14.1 hC
      refine o_fieldAddr rfl (wants_of rfl e5 hG) rfl z_field149_0 e14 ?_
      exact st_addNil (hk _ _ (Sto.Le.refl _) ⟨fun _ => rfl, fun hn => absurd hC hn⟩)
    · refine st_pass rfl rfl rfl e5 (beq_off hG) rfl ?_
      exact st_addNil (hk _ _ (Sto.Le.refl _) ⟨fun h => absurd h hG, fun _ => rfl⟩)
  · intro ρ' τ pool rs hl hd hout hk
    obtain ⟨_, e5, rfl⟩ := hd 5 rfl
    obtain ⟨w15, e15, t15⟩ := hd 15 rfl
    by_cases hG : a0.2.2 = false
    · have hC := hG
      obtain ⟨rfl⟩ := t15.1 hC
      refine o_fieldAddr rfl (wants_of rfl e5 hG) rfl z_field147_0 e15 ?_
      exact st_addNil (hk _ _ (Sto.Le.refl _) ⟨fun _ => rfl, fun hn => absurd hC hn⟩)
    · refine st_pass rfl rfl rfl e5 (beq_off hG) rfl ?_
      exact st_addNil (hk _ _ (Sto.Le.refl _) ⟨fun h => absurd h hG, fun _ => rfl⟩)
  · intro ρ' τ pool rs hl hd hout hk
    obtain ⟨_, e5, rfl⟩ := hd 5 rfl
    obtain ⟨w16, e16, t16⟩ := hd 16 rfl
    by_cases hG : a0.2.2 = false
    · have hC := hG
      obtain ⟨rfl⟩ := t16.1 hC
      refine o_load (j := 0) (v := v1) rfl (wants_of rfl e5 hG) rfl z_sc45 e16 rfl rfl ?_
      exact st_addNil (hk _ _ (Sto.Le.refl _) ⟨fun _ => rfl, fun hn => absurd hC hn⟩)
    · refine st_pass rfl rfl rfl e5 (beq_off hG) rfl ?_
      exact st_addNil (hk _ _ (Sto.Le.refl _) ⟨fun h => absurd h hG, fun _ => rfl⟩)
  · intro ρ' τ pool rs hl hd hout hk
    obtain ⟨_, e5, rfl⟩ := hd 5 rfl
    obtain ⟨w17, e17, t17⟩ := hd 17 rfl
    by_cases hG : a0.2.2 = false
    · have hC := hG
      obtain ⟨rfl⟩ := t17.1 hC
      refine o_lenO rfl (wants_of rfl e5 hG) rfl z_slT45 e17 (ho3.up hl) ?_
      exact st_addNil (hk _ _ (Sto.Le.refl _) ⟨fun _ => rfl, fun hn => absurd hC hn⟩)
    · refine st_pass rfl rfl rfl e5 (beq_off hG) rfl ?_
      exact st_addNil (hk _ _ (Sto.Le.refl _) ⟨fun h => absurd h hG, fun _ => rfl⟩)
  · intro ρ' τ pool rs hl hd hout hk
    obtain ⟨_, e5, rfl⟩ := hd 5 rfl
    obtain ⟨w12, e12, t12⟩ := hd 12 rfl
    obtain ⟨w18, e18, t18⟩ := hd 18 rfl
    by_cases hG : a0.2.2 = false
    · have hC := hG
      obtain ⟨rfl⟩ := t18.1 hC
      obtain ⟨rfl⟩ := t12.1 hC
      refine o_ibin (v := .int .i64 (IntKind.i64.wrap (a0.2.1 - (a0.1.length : Int)))) rfl (wants_of rfl e5 hG) rfl e12 e18 rfl ?_
      exact st_addNil (hk _ _ (Sto.Le.refl _) ⟨fun _ => rfl, fun hn => absurd hC hn⟩)
    · refine st_pass rfl rfl rfl e5 (beq_off hG) rfl ?_
      exact st_addNil (hk _ _ (Sto.Le.refl _) ⟨fun h => absurd h hG, fun _ => rfl⟩)
  · intro ρ' τ pool rs hl hd hout hk
    obtain ⟨_, e5, rfl⟩ := hd 5 rfl
    obtain ⟨w7, e7, t7⟩ := hd 7 rfl
    obtain ⟨w19, e19, t19⟩ := hd 19 rfl
    by_cases hG : a0.2.2 = false
    · have hC := hG
      obtain ⟨rfl⟩ := t7.1 hC
      obtain ⟨rfl⟩ := t19.1 hC
      refine o_ibin (v := .bool (decide ((IntKind.i64.wrap (a0.2.1 - (a0.1.length : Int))) < (a1.length : Int)))) rfl (wants_of rfl e5 hG) rfl e7 e19 rfl ?_
      exact st_addNil (hk _ _ (Sto.Le.refl _) ⟨fun _ => rfl, fun hn => absurd hC hn⟩)
    · refine st_pass rfl rfl rfl e5 (beq_off hG) rfl ?_
      exact st_addNil (hk _ _ (Sto.Le.refl _) ⟨fun h => absurd h hG, fun _ => rfl⟩)
  · intro ρ' τ pool rs hl hd hout hk
    obtain ⟨_, e5, rfl⟩ := hd 5 rfl
    obtain ⟨w20, e20, t20⟩ := hd 20 rfl
    refine o_pickOr rfl rfl rfl e5 rfl (fun hp => e20.trans (congrArg some (Eq.symm (t20.1 hp)))) ?_
    exact st_addNil (hk _ _ (Sto.Le.refl _) rfl)
  · intro ρ' τ pool rs hl hd hout hk
    obtain ⟨_, e21, rfl⟩ := hd 21 rfl
    refine o_assign rfl rfl rfl e21 ?_
    exact st_addNil (hk _ _ (Sto.Le.refl _) rfl)
  intro ρ' τ6 vals hl6 hv hout
  have l22 : Eng.look ρ' 8 = some (.bool (a0.2.2 || (decide ((IntKind.i64.wrap (a0.2.1 - (a0.1.length : Int))) < (a1.length : Int))))) := (hv 22 (by decide)).1.trans (congrArg some (show vals 22 = .bool (a0.2.2 || (decide ((IntKind.i64.wrap (a0.2.1 - (a0.1.length : Int))) < (a1.length : Int)))) from Eq.symm (hv 22 (by decide)).2))
  refine st_ord [0, 0] [[(ba0, .cells [v1, .int .i64 a0.2.1, .bool a0.2.2].toArray 149 (0, 0))], g2] rfl ?_
  refine st_env (ρ' := [(8, .bool (a0.2.2 || (decide ((IntKind.i64.wrap (a0.2.1 - (a0.1.length : Int))) < (a1.length : Int))))), (0, .pointer (some ⟨ba0, 0, none⟩)), (1, v4), (4, .int .i64 0)]) ⟨l22, (hout 0 rfl).trans rfl, (hout 1 rfl).trans rfl, (hout 4 rfl).trans rfl, trivial⟩ ?_
  refine st_end ?_
  refine st_cond rfl (fun hc => ?_) (fun hc => ?_)
  · replace h := (if_pos hc).mp h
    refine st_seq ?_
    refine st_region ?_
    refine o_move rfl rfl rfl rfl ?_
    refine o_nilCheck rfl rfl rfl rfl ?_
    refine o_fieldAddr rfl rfl rfl z_field149_0 rfl ?_
    refine o_fieldAddr rfl rfl rfl z_field147_2 rfl ?_
    refine o_store (j := 0) (vs := [.bool true]) (cs' := [v1, .int .i64 a0.2.1, .bool true]) rfl rfl rfl z_size4 rfl rfl rfl (ones_cons rfl ones_nil) rfl rfl rfl ?_
    refine st_gs [[(ba0, .cells [v1, .int .i64 a0.2.1, .bool true].toArray 149 (0, 0))], g2] rfl ?_
    refine st_end ?_
    refine st_seq ?_
    refine st_region ?_
    refine o_assign rfl rfl rfl rfl ?_
    refine st_end ?_
    obtain rfl := Eq.symm h
    exact st_ret (gs' := [[(ba0, .cells [v1, .int .i64 a0.2.1, .bool true].toArray 149 (0, 0))], g2]) Try.func104 rfl (List.Sublist.refl _) hl6 ⟨_, _, rfl, rfl, (ho3.up hl6)⟩
  · replace h := (if_neg (ne_t hc)).mp h
    refine st_skip ?_
    refine st_inBlock ?_
    refine st_seq ?_
    refine st_region ?_
    refine o_move rfl rfl rfl rfl ?_
    refine o_move rfl rfl rfl rfl ?_
    refine o_nilCheck rfl rfl rfl rfl ?_
    refine o_fieldAddr rfl rfl rfl z_field149_0 rfl ?_
    refine o_fieldAddr rfl rfl rfl z_field147_0 rfl ?_
    refine o_load (j := 0) (v := v1) rfl rfl rfl z_sc45 rfl rfl rfl ?_
    refine o_move rfl rfl rfl rfl ?_
    obtain ⟨hf10, h⟩ := h
    obtain ⟨hf11, h⟩ := h
    refine st_ord [1, 0] [g2, [(ba0, .cells [v1, .int .i64 a0.2.1, .bool a0.2.2].toArray 149 (0, 0))]] rfl ?_
    refine o_append (dk := (kI .u8)) (xs := a0.1) (ys := a1) rfl rfl rfl rfl z_slT45 rfl (ho3.up hl6) rfl (Sl.src (hs5.up hl6)) hf10 hf11 (fun v7 g8 ho9 => ?_)
    refine o_nilCheck rfl rfl rfl rfl ?_
    refine o_fieldAddr rfl rfl rfl z_field149_0 rfl ?_
    refine o_fieldAddr rfl rfl rfl z_field147_0 rfl ?_
    refine o_store (j := 1) (vs := [v7]) (cs' := [v7, .int .i64 a0.2.1, .bool a0.2.2]) rfl rfl rfl z_size45 rfl rfl (oneL_ow ho9) (ones_cons ho9.one' ones_nil) rfl rfl rfl ?_
    refine st_gs [g8, [(ba0, .cells [v7, .int .i64 a0.2.1, .bool a0.2.2].toArray 149 (0, 0))]] rfl ?_
    refine st_end ?_
    refine st_seq ?_
    refine st_region ?_
    refine o_assign rfl rfl rfl rfl ?_
    refine st_end ?_
    refine st_ord [1, 0] [[(ba0, .cells [v7, .int .i64 a0.2.1, .bool a0.2.2].toArray 149 (0, 0))], g8] rfl ?_
    obtain rfl := Eq.symm h
    exact st_ret (gs' := [[(ba0, .cells [v7, .int .i64 a0.2.1, .bool a0.2.2].toArray 149 (0, 0))], g8]) Try.func104 rfl (List.Sublist.refl _) hl6 ⟨_, _, rfl, rfl, ho9⟩
theorem pen_Pen_word_ok {a0 : (List Int × Int × Bool)} {a1 : Int} {a2 : Int} {ba0 : Nat} {v1 : Value} {g2 : Grp} {r : Int × ((List Int × Int × Bool))} (h : pen_Pen_word a0 a1 a2 r) (σ : Sto) (ho3 : Ow (kI .u8) 5 σ v1 a0.1 g2) :
    Does Try.prog 84 [.pointer (some ⟨ba0, 0, none⟩), .int .u32 a1, .int .i64 a2] σ [[(ba0, .cells [v1, .int .i64 a0.2.1, .bool a0.2.2].toArray 149 (0, 0))], g2] (fun v τ gs => ∃ (v20 : Value) (g21 : Grp), gs = [[(ba0, .cells [v20, .int .i64 r.2.2.1, .bool r.2.2.2].toArray 149 (0, 0))], g21] ∧ .int .i64 r.1 = v ∧ Ow (kI .u8) 5 τ v20 r.2.1 g21) := by
  refine call_of Try.func84 Try.ntmps84 rfl rfl (fun cs fs => ?_)
  refine st_seq ?_
  refine st_region ?_
  refine o_assign rfl rfl rfl rfl ?_
  refine st_end ?_
  refine st_seq ?_
  refine st_region ?_
  refine o_move rfl rfl rfl rfl ?_
  refine o_conv rfl rfl rfl Try.underlying22 Try.underlying5 rfl ?_
  refine o_move rfl rfl rfl rfl ?_
  refine o_shr rfl rfl rfl rfl rfl (by decide) ?_
  refine o_conv rfl rfl rfl Try.underlying22 Try.underlying5 rfl ?_
  refine o_move rfl rfl rfl rfl ?_
  refine o_shr rfl rfl rfl rfl rfl (by decide) ?_
  refine o_conv rfl rfl rfl Try.underlying22 Try.underlying5 rfl ?_
  refine o_move rfl rfl rfl rfl ?_
  refine o_shr rfl rfl rfl rfl rfl (by decide) ?_
  refine o_conv rfl rfl rfl Try.underlying22 Try.underlying5 rfl ?_
  refine o_buildA (ps := [(0, [.int .u8 (IntKind.u8.wrap a1)]), (1, [.int .u8 (IntKind.u8.wrap (ishr .u32 a1 8))]), (2, [.int .u8 (IntKind.u8.wrap (ishr .u32 a1 16))]), (3, [.int .u8 (IntKind.u8.wrap (ishr .u32 a1 24))])]) (cs := [.int .u8 (IntKind.u8.wrap a1), .int .u8 (IntKind.u8.wrap (ishr .u32 a1 8)), .int .u8 (IntKind.u8.wrap (ishr .u32 a1 16)), .int .u8 (IntKind.u8.wrap (ishr .u32 a1 24))]) rfl rfl rfl z_arrz136 ⟨rfl, ⟨_, rfl, rfl⟩, ⟨rfl, ⟨_, rfl, rfl⟩, ⟨rfl, ⟨_, rfl, rfl⟩, ⟨rfl, ⟨_, rfl, rfl⟩, trivial⟩⟩⟩⟩ (fill_all [.int .u8 (IntKind.u8.wrap a1), .int .u8 (IntKind.u8.wrap (ishr .u32 a1 8)), .int .u8 (IntKind.u8.wrap (ishr .u32 a1 16)), .int .u8 (IntKind.u8.wrap (ishr .u32 a1 24))] _ rfl) ?_
  refine o_alloc rfl rfl rfl z_zero136 (fun b4 => ?_)
  refine o_store (j := 0) (vs := [.int .u8 (IntKind.u8.wrap a1), .int .u8 (IntKind.u8.wrap (ishr .u32 a1 8)), .int .u8 (IntKind.u8.wrap (ishr .u32 a1 16)), .int .u8 (IntKind.u8.wrap (ishr .u32 a1 24))]) (cs' := [.int .u8 (IntKind.u8.wrap a1), .int .u8 (IntKind.u8.wrap (ishr .u32 a1 8)), .int .u8 (IntKind.u8.wrap (ishr .u32 a1 16)), .int .u8 (IntKind.u8.wrap (ishr .u32 a1 24))]) rfl rfl rfl z_size136 rfl rfl rfl (ones_cons rfl (ones_cons rfl (ones_cons rfl (ones_cons rfl ones_nil)))) rfl rfl rfl ?_
  refine st_gs [[(b4, .cells [.int .u8 (IntKind.u8.wrap a1), .int .u8 (IntKind.u8.wrap (ishr .u32 a1 8)), .int .u8 (IntKind.u8.wrap (ishr .u32 a1 16)), .int .u8 (IntKind.u8.wrap (ishr .u32 a1 24))].toArray 136 (0, 0))], [(ba0, .cells [v1, .int .i64 a0.2.1, .bool a0.2.2].toArray 149 (0, 0))], g2] rfl ?_
  refine st_end ?_
  refine st_seq ?_
  refine st_region ?_
  refine o_move rfl rfl rfl rfl ?_
  refine o_move rfl rfl rfl rfl ?_
  refine o_move rfl rfl rfl rfl ?_
  obtain ⟨hf8, h⟩ := h
  obtain ⟨hf9, h⟩ := h
  obtain ⟨hf10, h⟩ := h
  refine st_freeze (fun τ5 hl6 hg7 => ?_)
  refine o_sliceA (dk := (kI .u8)) (L := 0) (H := a2) (xs := [(IntKind.u8.wrap a1), (IntKind.u8.wrap (ishr .u32 a1 8)), (IntKind.u8.wrap (ishr .u32 a1 16)), (IntKind.u8.wrap (ishr .u32 a1 24))]) rfl rfl rfl z_arr136 rfl (hg7 _ List.mem_cons_self) (manyI [(IntKind.u8.wrap a1), (IntKind.u8.wrap (ishr .u32 a1 8)), (IntKind.u8.wrap (ishr .u32 a1 16)), (IntKind.u8.wrap (ishr .u32 a1 24))]) rfl rfl rfl ⟨_, rfl⟩ (by decide) hf8 hf9 ⟨_, _, rfl, (Int.le_refl _), hf10⟩ (by decide) (fun v11 hs12 => ?_)
  obtain ⟨r13, hr14, h⟩ := h
  refine st_call (foot := [[(ba0, .cells [v1, .int .i64 a0.2.1, .bool a0.2.2].toArray 149 (0, 0))], g2]) rfl rfl rfl rfl rfl rfl (callV_fn z_en104 (pen_Pen_Raw_ok hr14 τ5 (ho3.up hl6) hs12)) ?_
  rintro vτ15 τ15 gsτ15 hl16 ⟨v17, g18, rfl, rfl, ho19⟩
  refine o_assign rfl rfl rfl rfl ?_
  refine st_end ?_
  obtain rfl := Eq.symm h
  exact st_ret (gs' := [[(ba0, .cells [v17, .int .i64 r13.2.2.1, .bool r13.2.2.2].toArray 149 (0, 0))], g18]) Try.func84 rfl (List.Sublist.refl _) (hl6.trans hl16) ⟨_, _, rfl, rfl, ho19⟩
theorem pen_Pen_U32_ok {a0 : (List Int × Int × Bool)} {a1 : Int} {ba0 : Nat} {v1 : Value} {g2 : Grp} {r : Int × ((List Int × Int × Bool))} (h : pen_Pen_U32 a0 a1 r) (σ : Sto) (ho3 : Ow (kI .u8) 5 σ v1 a0.1 g2) :
    Does Try.prog 58 [.pointer (some ⟨ba0, 0, none⟩), .int .u32 a1] σ [[(ba0, .cells [v1, .int .i64 a0.2.1, .bool a0.2.2].toArray 149 (0, 0))], g2] (fun v τ gs => ∃ (v11 : Value) (g12 : Grp), gs = [[(ba0, .cells [v11, .int .i64 r.2.2.1, .bool r.2.2.2].toArray 149 (0, 0))], g12] ∧ .int .i64 r.1 = v ∧ Ow (kI .u8) 5 τ v11 r.2.1 g12) := by
  refine call_of Try.func58 Try.ntmps58 rfl rfl (fun cs fs => ?_)
  refine st_seq ?_
  refine st_region ?_
  refine o_assign rfl rfl rfl rfl ?_
  refine st_end ?_
  refine st_seq ?_
  refine st_region ?_
  refine o_move rfl rfl rfl rfl ?_
  refine o_move rfl rfl rfl rfl ?_
  obtain ⟨r4, hr5, h⟩ := h
  refine st_call (foot := [[(ba0, .cells [v1, .int .i64 a0.2.1, .bool a0.2.2].toArray 149 (0, 0))], g2]) rfl rfl rfl rfl rfl rfl (callV_fn z_en84 (pen_Pen_word_ok hr5 σ ho3)) ?_
  rintro vτ6 τ6 gsτ6 hl7 ⟨v8, g9, rfl, rfl, ho10⟩
  refine o_assign rfl rfl rfl rfl ?_
  refine st_end ?_
  obtain rfl := Eq.symm h
  exact st_ret (gs' := [[(ba0, .cells [v8, .int .i64 r4.2.2.1, .bool r4.2.2.2].toArray 149 (0, 0))], g9]) Try.func58 rfl (List.Sublist.refl _) hl7 ⟨_, _, rfl, rfl, ho10⟩
theorem pen_Pen_Bytes_ok {a0 : (List Int × Int × Bool)} {ba0 : Nat} {v1 : Value} {g2 : Grp} {r : List Int} (h : pen_Pen_Bytes a0 r) (σ : Sto) (ho3 : Ow (kI .u8) 5 σ v1 a0.1 g2) :
    Does Try.prog 60 [.pointer (some ⟨ba0, 0, none⟩)] σ [[(ba0, .cells [v1, .int .i64 a0.2.1, .bool a0.2.2].toArray 149 (0, 0))], g2] (fun v τ gs => ∃ (v14 : Value), gs = [[(ba0, .cells [v1, .int .i64 a0.2.1, .bool a0.2.2].toArray 149 (0, 0))], g2] ∧ v14 = v ∧ Sl (kI .u8) τ v14 r) := by
  refine call_of Try.func60 Try.ntmps60 rfl rfl (fun cs fs => ?_)
  refine st_seq ?_
  refine st_region ?_
  refine o_assign rfl rfl rfl rfl ?_
  refine st_end ?_
  refine st_seq ?_
  refine st_seq ?_
  refine st_region ?_
  refine o_move rfl rfl rfl rfl ?_
  refine o_ptrNil (b := false) rfl rfl rfl Try.underlying110 rfl rfl rfl ?_
  refine st_end ?_
  refine st_condF rfl ?_
  refine st_skip ?_
  refine st_seq ?_
  refine st_region ?_
  refine o_move rfl rfl rfl rfl ?_
  refine o_nilCheck rfl rfl rfl rfl ?_
  refine o_fieldAddr rfl rfl rfl z_field149_0 rfl ?_
  refine o_fieldAddr rfl rfl rfl z_field147_0 rfl ?_
  refine o_load (j := 0) (v := v1) rfl rfl rfl z_sc45 rfl rfl rfl ?_
  obtain ⟨hf7, h⟩ := h
  obtain ⟨hf8, h⟩ := h
  refine st_addNil ?_
  refine o_append (dk := (kI .u8)) (xs := ([] : List Int)) (ys := a0.1) rfl rfl rfl rfl z_slT45 rfl Ow.nil rfl (Ow.src (j := 2) ho3 rfl) hf7 hf8 (fun v4 g5 ho6 => ?_)
  refine o_assign rfl rfl rfl rfl ?_
  refine st_end ?_
  refine st_freeze (fun τ9 hl10 hg11 => ?_)
  have hs12 := ho6.freeze hl10 hg11
  obtain rfl := Eq.symm h
  exact st_ret (gs' := [[(ba0, .cells [v1, .int .i64 a0.2.1, .bool a0.2.2].toArray 149 (0, 0))], g2]) Try.func60 rfl (List.Sublist.refl _) hl10 ⟨_, rfl, rfl, hs12⟩
theorem ack_Bytes_ok {a0 : Int × Int} {r : List Int} (h : ack_Bytes a0 r) (σ : Sto)  :
    Does Try.prog 29 [.agg [.int .u32 a0.1, .int .u64 a0.2].toArray] σ [] (fun v τ gs => ∃ (v46 : Value), gs = [] ∧ v46 = v ∧ Sl (kI .u8) τ v46 r) := by
  refine call_of Try.func29 Try.ntmps29 rfl rfl (fun cs fs => ?_)
  refine st_seq ?_
  refine st_region ?_
  refine o_box (cs := [.int .u32 a0.1, .int .u64 a0.2]) rfl rfl rfl rfl rfl (fun b1 => ?_)
  refine o_assign rfl rfl rfl rfl ?_
  refine st_end ?_
  refine st_seq ?_
  refine st_region ?_
  obtain ⟨r2, hr3, h⟩ := h
  refine st_call (foot := []) rfl rfl rfl rfl rfl rfl (callV_fn z_en57 (pen_New_ok hr3 σ)) ?_
  rintro vτ4 τ4 gsτ4 hl5 ⟨b6, v7, g8, rfl, rfl, ho9⟩
  refine o_assign rfl rfl rfl rfl ?_
  refine st_end ?_
  refine st_seq ?_
  refine st_cut (fun ρ τ10 gs => ∃ (s10 : List Int × Int × Bool) (v11 : Value) (g12 : Grp), ack_Bytes_j1 s10 r ∧ τ4.Le τ10 ∧ ρ = [(2, .slice none 0 0), (3, .pointer (some ⟨b6, 0, none⟩))] ∧ gs = [[(b6, .cells [v11, .int .i64 s10.2.1, .bool s10.2.2].toArray 149 (0, 0))], g12] ∧ Ow (kI .u8) 5 τ10 v11 s10.1 g12) ?_ (fun hk10 => ?_)
  · rintro ρ10 τ10 gs10 ⟨s10, v11, g12, h, hl10, rfl, rfl, ho13⟩
    refine st_seq ?_
    refine st_region ?_
    obtain ⟨r14, hr15, h⟩ := h
    refine st_call (foot := []) rfl rfl rfl rfl rfl rfl (callV_fn z_en49 (crc_New_ok hr15 τ10)) ?_
    rintro vτ16 τ16 gsτ16 hl17 ⟨bi18, rfl, rfl, hc19⟩
    refine o_move rfl rfl rfl rfl ?_
    obtain ⟨r20, hr21, h⟩ := h
    refine st_call (foot := [[(b6, .cells [v11, .int .i64 s10.2.1, .bool s10.2.2].toArray 149 (0, 0))], g12]) rfl rfl rfl rfl rfl rfl (callV_fn z_en60 (pen_Pen_Bytes_ok hr21 τ16 (ho13.up hl17))) ?_
    rintro vτ22 τ22 gsτ22 hl23 ⟨v24, rfl, rfl, hs25⟩
    obtain ⟨r26, hr27, h⟩ := h
    refine st_call (foot := []) rfl rfl rfl rfl rfl rfl (callV_fn z_en59 (crc_Seal_ok hr27 τ22 (hc19.up hl23) hs25)) ?_
    rintro vτ28 τ28 gsτ28 hl29 ⟨v30, rfl, rfl, hs31⟩
    refine o_assign rfl rfl rfl rfl ?_
    refine st_end ?_
    refine st_ord [] [] rfl ?_
    obtain rfl := Eq.symm h
    exact st_ret (gs' := []) Try.func29 rfl (List.Sublist.refl _) ((((hl5.trans hl10).trans hl17).trans hl23).trans hl29) ⟨_, rfl, rfl, hs31⟩
  refine st_seq ?_
  refine st_region ?_
  refine o_fieldAddr rfl rfl rfl z_field25_0 rfl ?_
  refine o_load (j := 2) (v := .int .u32 a0.1) rfl rfl rfl z_sc22 rfl rfl rfl ?_
  refine o_fieldAddr rfl rfl rfl z_field25_1 rfl ?_
  refine o_load (j := 2) (v := .int .u64 a0.2) rfl rfl rfl z_sc23 rfl rfl rfl ?_
  refine o_conv rfl rfl rfl Try.underlying23 Try.underlying22 rfl ?_
  refine o_fieldAddr rfl rfl rfl z_field25_1 rfl ?_
  refine o_load (j := 2) (v := .int .u64 a0.2) rfl rfl rfl z_sc23 rfl rfl rfl ?_
  refine o_shr rfl rfl rfl rfl rfl (by decide) ?_
  refine o_conv rfl rfl rfl Try.underlying23 Try.underlying22 rfl ?_
  refine o_buildA (ps := [(0, [.int .u32 a0.1]), (1, [.int .u32 (IntKind.u32.wrap a0.2)]), (2, [.int .u32 (IntKind.u32.wrap (ishr .u64 a0.2 32))])]) (cs := [.int .u32 a0.1, .int .u32 (IntKind.u32.wrap a0.2), .int .u32 (IntKind.u32.wrap (ishr .u64 a0.2 32))]) rfl rfl rfl z_arrz105 ⟨rfl, ⟨_, rfl, rfl⟩, ⟨rfl, ⟨_, rfl, rfl⟩, ⟨rfl, ⟨_, rfl, rfl⟩, trivial⟩⟩⟩ (fill_all [.int .u32 a0.1, .int .u32 (IntKind.u32.wrap a0.2), .int .u32 (IntKind.u32.wrap (ishr .u64 a0.2 32))] _ rfl) ?_
  refine o_move rfl rfl rfl rfl ?_
  refine st_end ?_
  obtain ⟨e32, hL32, hA32⟩ := h
  refine st_env (ρ' := [(2, .slice none 0 0), (3, .pointer (some ⟨b6, 0, none⟩)), (16, .agg [.int .u32 a0.1, .int .u32 (IntKind.u32.wrap a0.2), .int .u32 (IntKind.u32.wrap (ishr .u64 a0.2 32))].toArray), (17, .int .i64 0)]) ⟨rfl, rfl, rfl, rfl, trivial⟩ ?_
  refine st_ord [0, 0] [[(b6, .cells [v7, .int .i64 r2.2.1, .bool r2.2.2].toArray 149 (0, 0))], g8] rfl ?_
  refine st_loop hL32 (fun (s32 : Int × List Int × Int × Bool) ρ τ32 gs => τ4.Le τ32 ∧ ∃ (v33 : Value) (g34 : Grp), ρ = [(2, .slice none 0 0), (3, .pointer (some ⟨b6, 0, none⟩)), (16, .agg [.int .u32 a0.1, .int .u32 (IntKind.u32.wrap a0.2), .int .u32 (IntKind.u32.wrap (ishr .u64 a0.2 32))].toArray), (17, .int .i64 s32.1)] ∧ gs = [[(b6, .cells [v33, .int .i64 s32.2.2.1, .bool s32.2.2.2].toArray 149 (0, 0))], g34] ∧ Ow (kI .u8) 5 τ32 v33 s32.2.1 g34) ⟨Sto.Le.refl _, _, _, rfl, rfl, ho9⟩ ?_
  rintro s32 o32 h he32 ρ32 τ32 gs32 ⟨hl32, v33, g34, rfl, rfl, ho35⟩ hn32
  refine st_seq ?_
  refine st_region ?_
  refine o_ibin (v := .bool (decide (s32.1 < 3))) rfl rfl rfl rfl rfl rfl ?_
  refine st_end ?_
  refine st_seq ?_
  refine st_cond rfl (fun hc => ?_) (fun hc => ?_)
  · replace h := (if_pos hc).mp h
    refine st_skip ?_
    refine st_seq ?_
    refine st_block ?_
    refine st_seq ?_
    refine st_region ?_
    obtain ⟨hf36, h⟩ := h
    obtain ⟨hf37, h⟩ := h
    refine o_indexV (f := (Value.int .u32)) (zz := 0) (l := 3) (xs := [a0.1, (IntKind.u32.wrap a0.2), (IntKind.u32.wrap (ishr .u64 a0.2 32))]) (cs := [.int .u32 a0.1, .int .u32 (IntKind.u32.wrap a0.2), .int .u32 (IntKind.u32.wrap (ishr .u64 a0.2 32))]) rfl rfl rfl z_arr105 z_sc22 rfl rfl rfl hf36 hf37 ?_
    refine o_assign rfl rfl rfl rfl ?_
    refine st_end ?_
    refine st_region ?_
    refine o_move rfl rfl rfl rfl ?_
    refine o_move rfl rfl rfl rfl ?_
    obtain ⟨r38, hr39, h⟩ := h
    refine st_call (foot := [[(b6, .cells [v33, .int .i64 s32.2.2.1, .bool s32.2.2.2].toArray 149 (0, 0))], g34]) rfl rfl rfl rfl rfl rfl (callV_fn z_en58 (pen_Pen_U32_ok hr39 τ32 ho35)) ?_
    rintro vτ40 τ40 gsτ40 hl41 ⟨v42, g43, rfl, rfl, ho44⟩
    refine st_end ?_
    refine st_inBlock ?_
    refine st_region ?_
    refine o_ibin (v := .int .i64 (IntKind.i64.wrap (s32.1 + 1))) rfl rfl rfl rfl rfl rfl ?_
    refine o_move rfl rfl rfl rfl ?_
    refine st_end ?_
    refine st_env (ρ' := [(2, .slice none 0 0), (3, .pointer (some ⟨b6, 0, none⟩)), (16, .agg [.int .u32 a0.1, .int .u32 (IntKind.u32.wrap a0.2), .int .u32 (IntKind.u32.wrap (ishr .u64 a0.2 32))].toArray), (17, .int .i64 (IntKind.i64.wrap (s32.1 + 1)))]) ⟨rfl, rfl, rfl, rfl, trivial⟩ ?_
    exact hn32 _ _ _ _ h ⟨(hl32.trans hl41), _, _, rfl, rfl, ho44⟩
  · replace h := (if_neg (ne_t hc)).mp h
    refine st_exit rfl ?_
    obtain rfl := he32 _ h
    replace h := hA32
    refine st_env (ρ' := [(2, .slice none 0 0), (3, .pointer (some ⟨b6, 0, none⟩))]) ⟨rfl, rfl, trivial⟩ ?_
    exact hk10 _ _ _ ⟨(s32.2.1, s32.2.2.1, s32.2.2.2), _, _, h, hl32, rfl, rfl, ho35⟩
theorem ref01_Same_ok {a0 : List Int} {a1 : List Int} {v1 : Value} {v3 : Value} {r : Bool} (h : ref01_Same a0 a1 r) (σ : Sto) (hs2 : Sl (kI .u8) σ v1 a0) (hs4 : Sl (kI .u8) σ v3 a1) :
    Does Try.prog 28 [v1, v3] σ [] (fun v τ gs => gs = [] ∧ .bool r = v) := by
  refine call_of Try.func28 Try.ntmps28 rfl rfl (fun cs fs => ?_)
  refine st_seq ?_
  refine st_region ?_
  refine o_assign rfl rfl rfl rfl ?_
  refine st_end ?_
  refine st_seq ?_
  refine st_seq ?_
  refine st_region ?_
  refine o_move rfl rfl rfl rfl ?_
  refine o_lenI rfl rfl rfl z_slT45 rfl hs2 ?_
  refine o_move rfl rfl rfl rfl ?_
  refine o_lenI rfl rfl rfl z_slT45 rfl hs4 ?_
  refine o_ibin (v := .bool (!(decide ((a0.length : Int) = (a1.length : Int))))) rfl rfl rfl rfl rfl rfl ?_
  refine st_end ?_
  refine st_cond rfl (fun hc => ?_) (fun hc => ?_)
  · replace h := (if_pos hc).mp h
    refine st_seq ?_
    refine st_region ?_
    refine o_assign rfl rfl rfl rfl ?_
    refine st_end ?_
    obtain rfl := Eq.symm h
    exact st_ret (gs' := []) Try.func28 rfl (List.Sublist.refl _) (Sto.Le.refl _) ⟨rfl, rfl⟩
  · replace h := (if_neg (ne_t hc)).mp h
    refine st_skip ?_
    refine st_seq ?_
    refine st_cut (fun ρ τ5 gs => ∃ (s5 : Unit), ref01_Same_j1 s5 r ∧ σ.Le τ5 ∧ ρ = [(4, .bool false)] ∧ gs = []) ?_ (fun hk5 => ?_)
    · rintro ρ5 τ5 gs5 ⟨s5, h, hl5, rfl, rfl⟩
      refine st_seq ?_
      refine st_region ?_
      refine o_assign rfl rfl rfl rfl ?_
      refine st_end ?_
      obtain rfl := Eq.symm h
      exact st_ret (gs' := []) Try.func28 rfl (List.Sublist.refl _) hl5 ⟨rfl, rfl⟩
    refine st_seq ?_
    refine st_region ?_
    refine o_assign rfl rfl rfl rfl ?_
    refine st_end ?_
    obtain ⟨e6, hL6, hA6⟩ := h
    refine st_env (ρ' := [(0, v1), (1, v3), (4, .bool false), (5, .int .i64 0)]) ⟨rfl, rfl, rfl, rfl, trivial⟩ ?_
    refine st_loop hL6 (fun (s6 : Int) ρ τ6 gs => σ.Le τ6 ∧ ρ = [(0, v1), (1, v3), (4, .bool false), (5, .int .i64 s6)] ∧ gs = []) ⟨Sto.Le.refl _, rfl, rfl⟩ ?_
    rintro s6 o6 h he6 ρ6 τ6 gs6 ⟨hl6, rfl, rfl⟩ hn6
    refine st_seq ?_
    refine st_seq ?_
    refine st_region ?_
    refine o_move rfl rfl rfl rfl ?_
    refine o_move rfl rfl rfl rfl ?_
    refine o_lenI rfl rfl rfl z_slT45 rfl (hs2.up hl6) ?_
    refine o_ibin (v := .bool (decide (s6 < (a0.length : Int)))) rfl rfl rfl rfl rfl rfl ?_
    refine st_end ?_
    refine st_cond rfl (fun hc => ?_) (fun hc => ?_)
    · replace h := (if_pos hc).mp h
      refine st_skip ?_
      refine st_seq ?_
      refine st_block ?_
      refine st_seq ?_
      obtain ⟨q7, hf8, h⟩ := h
      obtain ⟨q12, hf13, h⟩ := h
      refine st_draw 9 (tl [fun τ v => (v1 : Value) = v,
    fun τ v => (.int .i64 s6 : Value) = v,
    fun τ v => ∃ (b9 : Nat) (of10 : Nat) (vsb9 : List Value), (.pointer (some ⟨b9, of10, none⟩) : Value) = v ∧ CelN τ ⟨b9, of10, none⟩ vsb9 ∧ (kI .u8).rep τ vsb9 q7,
    fun τ v => (.int .u8 q7 : Value) = v,
    fun τ v => (v3 : Value) = v,
    fun τ v => (.int .i64 s6 : Value) = v,
    fun τ v => ∃ (b14 : Nat) (of15 : Nat) (vsb14 : List Value), (.pointer (some ⟨b14, of15, none⟩) : Value) = v ∧ CelN τ ⟨b14, of15, none⟩ vsb14 ∧ (kI .u8).rep τ vsb14 q12,
    fun τ v => (.int .u8 q12 : Value) = v,
    fun τ v => (.bool (!(decide (q7 = q12))) : Value) = v]) (fun _ _ => []) z_mix rfl (tl_mono ⟨fun _ _ _ _ h => h, ⟨fun _ _ _ _ h => h, ⟨fun _ _ _ hl ⟨b9, of10, vsb9, hv, hc11, hrepb9⟩ => ⟨b9, of10, vsb9, hv, hc11.up hl, Kd.mono _ hl hrepb9⟩, ⟨fun _ _ _ _ h => h, ⟨fun _ _ _ _ h => h, ⟨fun _ _ _ _ h => h, ⟨fun _ _ _ hl ⟨b14, of15, vsb14, hv, hc16, hrepb14⟩ => ⟨b14, of15, vsb14, hv, hc16.up hl, Kd.mono _ hl hrepb14⟩, ⟨fun _ _ _ _ h => h, ⟨fun _ _ _ _ h => h, trivial⟩⟩⟩⟩⟩⟩⟩⟩⟩) (allB_cons (allB_cons (allB_cons (allB_cons (allB_cons (allB_cons (allB_cons (allB_cons (allB_cons allB_nil ?_) ?_) ?_) ?_) ?_) ?_) ?_) ?_) ?_) ?_
      · intro ρ' τ pool rs hl hd hout hk
        refine o_move rfl rfl rfl ((hout 0 rfl).trans rfl) ?_
        exact st_addNil (hk _ _ (Sto.Le.refl _) rfl)
      · intro ρ' τ pool rs hl hd hout hk
        refine o_move rfl rfl rfl ((hout 5 rfl).trans rfl) ?_
        exact st_addNil (hk _ _ (Sto.Le.refl _) rfl)
      · intro ρ' τ pool rs hl hd hout hk
        obtain ⟨_, e0, rfl⟩ := hd 0 rfl
        obtain ⟨_, e1, rfl⟩ := hd 1 rfl
        refine o_index rfl rfl rfl z_slT45 rfl e0 (hs2.up (hl6.trans hl)) e1 hf8 (fun b9 of10 vsb9 hc11 hrepb9 => ?_)
        exact st_addNil (hk _ _ (Sto.Le.refl _) ⟨b9, of10, vsb9, rfl, hc11, hrepb9⟩)
      · intro ρ' τ pool rs hl hd hout hk
        obtain ⟨_, e2, b9, of10, vsb9, rfl, hc11, hrepb9⟩ := hd 2 rfl
        have hrepb9 := hrepb9
        obtain rfl := hrepb9
        refine o_loadI (v := .int .u8 q7) rfl rfl rfl z_sc5 e2 (hc11 0 _ rfl) ?_
        exact st_addNil (hk _ _ (Sto.Le.refl _) rfl)
      · intro ρ' τ pool rs hl hd hout hk
        refine o_move rfl rfl rfl ((hout 1 rfl).trans rfl) ?_
        exact st_addNil (hk _ _ (Sto.Le.refl _) rfl)
      · intro ρ' τ pool rs hl hd hout hk
        refine o_move rfl rfl rfl ((hout 5 rfl).trans rfl) ?_
        exact st_addNil (hk _ _ (Sto.Le.refl _) rfl)
      · intro ρ' τ pool rs hl hd hout hk
        obtain ⟨_, e4, rfl⟩ := hd 4 rfl
        obtain ⟨_, e5, rfl⟩ := hd 5 rfl
        refine o_index rfl rfl rfl z_slT45 rfl e4 (hs4.up (hl6.trans hl)) e5 hf13 (fun b14 of15 vsb14 hc16 hrepb14 => ?_)
        exact st_addNil (hk _ _ (Sto.Le.refl _) ⟨b14, of15, vsb14, rfl, hc16, hrepb14⟩)
      · intro ρ' τ pool rs hl hd hout hk
        obtain ⟨_, e6, b14, of15, vsb14, rfl, hc16, hrepb14⟩ := hd 6 rfl
        have hrepb14 := hrepb14
        obtain rfl := hrepb14
        refine o_loadI (v := .int .u8 q12) rfl rfl rfl z_sc5 e6 (hc16 0 _ rfl) ?_
        exact st_addNil (hk _ _ (Sto.Le.refl _) rfl)
      · intro ρ' τ pool rs hl hd hout hk
        obtain ⟨_, e3, rfl⟩ := hd 3 rfl
        obtain ⟨_, e7, rfl⟩ := hd 7 rfl
        refine o_ibin (v := .bool (!(decide (q7 = q12)))) rfl rfl rfl e3 e7 rfl ?_
        exact st_addNil (hk _ _ (Sto.Le.refl _) rfl)
      intro ρ' τ17 vals hl17 hv hout
      have l8 : Eng.look ρ' 25 = some (.bool (!(decide (q7 = q12)))) := (hv 8 (by decide)).1.trans (congrArg some (show vals 8 = .bool (!(decide (q7 = q12))) from Eq.symm (hv 8 (by decide)).2))
      refine st_ord [] [] rfl ?_
      refine st_env (ρ' := [(25, .bool (!(decide (q7 = q12)))), (0, v1), (1, v3), (4, .bool false), (5, .int .i64 s6)]) ⟨l8, (hout 0 rfl).trans rfl, (hout 1 rfl).trans rfl, (hout 4 rfl).trans rfl, (hout 5 rfl).trans rfl, trivial⟩ ?_
      refine st_end ?_
      refine st_cond rfl (fun hc => ?_) (fun hc => ?_)
      · replace h := (if_pos hc).mp h
        refine st_seq ?_
        refine st_region ?_
        refine o_assign rfl rfl rfl rfl ?_
        refine st_end ?_
        obtain rfl := he6 _ h
        replace h := hA6
        obtain rfl := Eq.symm h
        exact st_ret (gs' := []) Try.func28 rfl (List.Sublist.refl _) (hl6.trans hl17) ⟨rfl, rfl⟩
      · replace h := (if_neg (ne_t hc)).mp h
        refine st_skip ?_
        refine st_inBlock ?_
        refine st_region ?_
        refine o_move rfl rfl rfl rfl ?_
        refine o_ibin (v := .int .i64 (IntKind.i64.wrap (s6 + 1))) rfl rfl rfl rfl rfl rfl ?_
        refine o_assign rfl rfl rfl rfl ?_
        refine st_end ?_
        refine st_env (ρ' := [(0, v1), (1, v3), (4, .bool false), (5, .int .i64 (IntKind.i64.wrap (s6 + 1)))]) ⟨rfl, rfl, rfl, rfl, trivial⟩ ?_
        exact hn6 _ _ _ _ h ⟨(hl6.trans hl17), rfl, rfl⟩
    · replace h := (if_neg (ne_t hc)).mp h
      refine st_exit rfl ?_
      obtain rfl := he6 _ h
      replace h := hA6
      refine st_env (ρ' := [(4, .bool false)]) ⟨rfl, trivial⟩ ?_
      exact hk5 _ _ _ ⟨(), h, hl6, rfl, rfl⟩
theorem law32_AckParses_ok {a0 : List Int} {v1 : Value} {r : Bool} (h : law32_AckParses a0 r) (σ : Sto) (hs2 : Sl (kI .u8) σ v1 a0) :
    Does Try.prog 6 [v1] σ [] (fun v τ gs => gs = [] ∧ .bool r = v) := by
  refine call_of Try.func6 Try.ntmps6 rfl rfl (fun cs fs => ?_)
  refine st_seq ?_
  refine st_region ?_
  refine o_assign rfl rfl rfl rfl ?_
  refine st_end ?_
  refine st_seq ?_
  refine st_region ?_
  refine o_move rfl rfl rfl rfl ?_
  refine o_move rfl rfl rfl rfl ?_
  refine o_lenI rfl rfl rfl z_slT45 rfl hs2 ?_
  refine o_min2 rfl rfl rfl rfl rfl ?_
  obtain ⟨hf3, h⟩ := h
  obtain ⟨hf4, h⟩ := h
  refine o_slice (L := 0) (H := (min (a0.length : Int) 20)) rfl rfl rfl z_slT45 rfl rfl hs2 rfl ⟨_, rfl⟩ (by decide) hf3 hf4 trivial (by simp) (fun v5 hs6 => ?_)
  refine o_assign rfl rfl rfl rfl ?_
  refine st_end ?_
  refine st_seq ?_
  refine st_region ?_
  refine o_move rfl rfl rfl rfl ?_
  obtain ⟨r7, hr8, h⟩ := h
  refine st_call (foot := []) rfl rfl rfl rfl rfl rfl (callV_fn z_en26 (ack_Parse_ok hr8 σ hs6)) ?_
  rintro vτ9 τ9 gsτ9 hl10 ⟨rfl, rfl⟩
  refine o_move rfl rfl rfl rfl ?_
  refine o_extract rfl rfl rfl rfl rfl ?_
  refine o_extract rfl rfl rfl rfl rfl ?_
  refine o_alloc rfl rfl rfl z_zero25 (fun b11 => ?_)
  refine o_store (j := 0) (vs := [.int .u32 r7.1.1, .int .u64 r7.1.2]) (cs' := [.int .u32 r7.1.1, .int .u64 r7.1.2]) rfl rfl rfl z_size25 rfl rfl rfl (ones_cons rfl (ones_cons rfl ones_nil)) rfl rfl rfl ?_
  refine st_gs [[(b11, .cells [.int .u32 r7.1.1, .int .u64 r7.1.2].toArray 25 (0, 0))]] rfl ?_
  refine o_assign rfl rfl rfl rfl ?_
  refine st_end ?_
  refine st_seq ?_
  refine st_region ?_
  refine o_move rfl rfl rfl rfl ?_
  obtain ⟨r12, hr13, h⟩ := h
  refine st_call (foot := []) rfl rfl rfl rfl rfl rfl (callV_fn z_en27 (ref32_Parse_ok hr13 τ9 (hs6.up hl10))) ?_
  rintro vτ14 τ14 gsτ14 hl15 ⟨rfl, rfl⟩
  refine o_move rfl rfl rfl rfl ?_
  refine o_extract rfl rfl rfl rfl rfl ?_
  refine o_extract rfl rfl rfl rfl rfl ?_
  refine o_alloc rfl rfl rfl z_zero30 (fun b16 => ?_)
  refine o_store (j := 0) (vs := [.int .u32 r12.1.1, .int .u64 r12.1.2]) (cs' := [.int .u32 r12.1.1, .int .u64 r12.1.2]) rfl rfl rfl z_size30 rfl rfl rfl (ones_cons rfl (ones_cons rfl ones_nil)) rfl rfl rfl ?_
  refine st_gs [[(b16, .cells [.int .u32 r12.1.1, .int .u64 r12.1.2].toArray 30 (0, 0))], [(b11, .cells [.int .u32 r7.1.1, .int .u64 r7.1.2].toArray 25 (0, 0))]] rfl ?_
  refine o_assign rfl rfl rfl rfl ?_
  refine st_end ?_
  refine st_seq ?_
  refine st_cut (fun ρ τ17 gs => ∃ (s17 : Bool), law32_AckParses_j1 s17 r ∧ τ14.Le τ17 ∧ ρ = [(2, .bool s17)] ∧ gs = []) ?_ (fun hk17 => ?_)
  · rintro ρ17 τ17 gs17 ⟨s17, h, hl17, rfl, rfl⟩
    obtain rfl := Eq.symm h
    exact st_ret (gs' := []) Try.func6 rfl (List.Sublist.refl _) ((hl10.trans hl15).trans hl17) ⟨rfl, rfl⟩
  refine st_region ?_
  obtain ⟨r18, hr19, h⟩ := h
  refine st_call (foot := []) rfl rfl rfl rfl rfl rfl (callV_fn z_en13 (law32_known_ok hr19 τ14)) ?_
  rintro vτ20 τ20 gsτ20 hl21 ⟨rfl, rfl⟩
  refine o_moveB rfl rfl rfl rfl (fun hc => ?_) (fun hc => ?_)
  · replace h := (if_pos hc).mp h
    refine o_loadN (j := 1) (vs := [.int .u32 r7.1.1, .int .u64 r7.1.2]) rfl rfl rfl z_agg25 rfl rfl rfl ?_
    refine o_loadN (j := 0) (vs := [.int .u32 r12.1.1, .int .u64 r12.1.2]) rfl rfl rfl z_agg30 rfl rfl rfl ?_
    refine o_aggEq (b := ((decide (r7.1.1 = r12.1.1)) && ((decide (r7.1.2 = r12.1.2)) && true))) (e := ((decide (r7.1.1 = r12.1.1)) && ((decide (r7.1.2 = r12.1.2)) && true))) rfl rfl rfl z_eqg30 rfl rfl (fun w => by refine eq_struct Try.underlying30 z_held30 ?_; refine eqf_cons (r := (decide (r7.1.1 = r12.1.1))) (r' := ((decide (r7.1.2 = r12.1.2)) && true)) rfl (part_one z_sc22 rfl) (part_one z_sc22 rfl) (by exact eq_int Try.underlying22 _ _) ?_; refine eqf_cons (r := (decide (r7.1.2 = r12.1.2))) (r' := true) rfl (part_one z_sc23 rfl) (part_one z_sc23 rfl) (by exact eq_int Try.underlying23 _ _) ?_; exact eqf_nil _ _ _ _) rfl ?_
    refine o_pick rfl rfl rfl rfl rfl ?_
    refine o_moveB rfl rfl rfl rfl (fun hc => ?_) (fun hc => ?_)
    · replace h := (if_pos hc).mp h
      refine o_move rfl rfl rfl rfl ?_
      refine o_move rfl rfl rfl rfl ?_
      refine o_ibin (v := .bool (decide (r7.2 = r12.2))) rfl rfl rfl rfl rfl rfl ?_
      refine o_pick rfl rfl rfl rfl rfl ?_
      refine o_moveB rfl rfl rfl rfl (fun hc => ?_) (fun hc => ?_)
      · replace h := (if_pos hc).mp h
        refine o_move rfl rfl rfl rfl ?_
        refine o_ibin (v := .bool (!(decide (r7.2 = 0)))) rfl rfl rfl rfl rfl rfl ?_
        refine o_moveB rfl rfl rfl rfl (fun hc => ?_) (fun hc => ?_)
        · replace h := (if_pos hc).mp h
          refine st_pass rfl rfl rfl rfl rfl rfl ?_
          refine st_pass rfl rfl rfl rfl rfl rfl ?_
          refine st_pass rfl rfl rfl rfl rfl rfl ?_
          refine st_pass rfl rfl rfl rfl rfl rfl ?_
          refine o_pick rfl rfl rfl rfl rfl ?_
          refine o_pick rfl rfl rfl rfl rfl ?_
          refine o_assign rfl rfl rfl rfl ?_
          refine st_end ?_
          refine st_env (ρ' := [(2, .bool true)]) ⟨rfl, trivial⟩ ?_
          refine st_ord [] [] rfl ?_
          exact hk17 _ _ _ ⟨true, h, hl21, rfl, rfl⟩
        · replace h := (if_neg (ne_t hc)).mp h
          refine o_loadN (j := 1) (vs := [.int .u32 r7.1.1, .int .u64 r7.1.2]) rfl rfl rfl z_agg25 rfl rfl rfl ?_
          obtain ⟨r22, hr23, h⟩ := h
          refine st_call (foot := []) rfl rfl rfl rfl rfl rfl (callV_fn z_en29 (ack_Bytes_ok hr23 τ20)) ?_
          rintro vτ24 τ24 gsτ24 hl25 ⟨v26, rfl, rfl, hs27⟩
          refine o_move rfl rfl rfl rfl ?_
          obtain ⟨r28, hr29, h⟩ := h
          refine st_call (foot := []) rfl rfl rfl rfl rfl rfl (callV_fn z_en28 (ref01_Same_ok hr29 τ24 hs27 (hs6.up (((hl10.trans hl15).trans hl21).trans hl25)))) ?_
          rintro vτ30 τ30 gsτ30 hl31 ⟨rfl, rfl⟩
          refine o_pick rfl rfl rfl rfl rfl ?_
          refine o_pick rfl rfl rfl rfl rfl ?_
          refine o_assign rfl rfl rfl rfl ?_
          refine st_end ?_
          refine st_env (ρ' := [(2, .bool r28)]) ⟨rfl, trivial⟩ ?_
          refine st_ord [] [] rfl ?_
          exact hk17 _ _ _ ⟨r28, h, ((hl21.trans hl25).trans hl31), rfl, rfl⟩
      · replace h := (if_neg (ne_t hc)).mp h
        refine st_pass rfl rfl rfl rfl rfl rfl ?_
        refine st_pass rfl rfl rfl rfl rfl rfl ?_
        refine st_pass rfl rfl rfl rfl rfl rfl ?_
        refine st_passU rfl rfl rfl rfl rfl ?_
        refine st_passU rfl rfl rfl rfl rfl ?_
        refine st_passU rfl rfl rfl rfl rfl ?_
        refine st_passU rfl rfl rfl rfl rfl ?_
        refine st_pass rfl rfl rfl rfl rfl rfl ?_
        refine o_pick rfl rfl rfl rfl rfl ?_
        refine o_assign rfl rfl rfl rfl ?_
        refine st_end ?_
        refine st_env (ρ' := [(2, .bool false)]) ⟨rfl, trivial⟩ ?_
        refine st_ord [] [] rfl ?_
        exact hk17 _ _ _ ⟨false, h, hl21, rfl, rfl⟩
    · replace h := (if_neg (ne_t hc)).mp h
      refine st_pass rfl rfl rfl rfl rfl rfl ?_
      refine st_pass rfl rfl rfl rfl rfl rfl ?_
      refine st_pass rfl rfl rfl rfl rfl rfl ?_
      refine o_pick rfl rfl rfl rfl rfl ?_
      refine o_move rfl rfl rfl rfl ?_
      refine st_pass rfl rfl rfl rfl rfl rfl ?_
      refine st_pass rfl rfl rfl rfl rfl rfl ?_
      refine st_pass rfl rfl rfl rfl rfl rfl ?_
      refine st_passU rfl rfl rfl rfl rfl ?_
      refine st_passU rfl rfl rfl rfl rfl ?_
      refine st_passU rfl rfl rfl rfl rfl ?_
      refine st_passU rfl rfl rfl rfl rfl ?_
      refine st_pass rfl rfl rfl rfl rfl rfl ?_
      refine o_pick rfl rfl rfl rfl rfl ?_
      refine o_assign rfl rfl rfl rfl ?_
      refine st_end ?_
      refine st_env (ρ' := [(2, .bool false)]) ⟨rfl, trivial⟩ ?_
      refine st_ord [] [] rfl ?_
      exact hk17 _ _ _ ⟨false, h, hl21, rfl, rfl⟩
  · replace h := (if_neg (ne_t hc)).mp h
    refine st_pass rfl rfl rfl rfl rfl rfl ?_
    refine st_pass rfl rfl rfl rfl rfl rfl ?_
    refine st_pass rfl rfl rfl rfl rfl rfl ?_
    refine o_pick rfl rfl rfl rfl rfl ?_
    refine o_move rfl rfl rfl rfl ?_
    refine st_pass rfl rfl rfl rfl rfl rfl ?_
    refine st_pass rfl rfl rfl rfl rfl rfl ?_
    refine st_pass rfl rfl rfl rfl rfl rfl ?_
    refine o_pick rfl rfl rfl rfl rfl ?_
    refine o_move rfl rfl rfl rfl ?_
    refine st_pass rfl rfl rfl rfl rfl rfl ?_
    refine st_pass rfl rfl rfl rfl rfl rfl ?_
    refine st_pass rfl rfl rfl rfl rfl rfl ?_
    refine st_passU rfl rfl rfl rfl rfl ?_
    refine st_passU rfl rfl rfl rfl rfl ?_
    refine st_passU rfl rfl rfl rfl rfl ?_
    refine st_passU rfl rfl rfl rfl rfl ?_
    refine st_pass rfl rfl rfl rfl rfl rfl ?_
    refine o_pick rfl rfl rfl rfl rfl ?_
    refine o_assign rfl rfl rfl rfl ?_
    refine st_end ?_
    refine st_env (ρ' := [(2, .bool false)]) ⟨rfl, trivial⟩ ?_
    refine st_ord [] [] rfl ?_
    exact hk17 _ _ _ ⟨false, h, hl21, rfl, rfl⟩
end Go.Rel
