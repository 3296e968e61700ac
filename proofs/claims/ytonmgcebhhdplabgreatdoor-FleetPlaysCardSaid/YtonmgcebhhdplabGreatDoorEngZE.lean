import Derived.Test.YtonmgcebhhdplabGreatDoorEngU
/-! The engine, part ZE: loops over functions that look at their boxes ahead of the first round only. -/
namespace Go.Eng
open Go
def IterS (P : Program) {X : Type} (enc : Sto → X → List Value → Prop) (gv : Value) (σ0 : Sto) (foot : Grp) (R : (S : Type) → (X → S → Bool × S → Prop) → S → S × Unit → Prop) : Prop :=
 ∀ (S : Type) (Y : X → S → Bool × S → Prop) (I : S → Sto → Grp → Prop) (y : Value), y.cells.toList = [y] → y.oneCell' = true →
  (∀ s σ σ' g, σ.Le σ' → I s σ g → I s σ' g) →
  (∀ x s b s' σ g vx, σ0.Le σ → Y x s (b, s') → enc σ x vx → I s σ g → DoesV P y vx σ [g] (fun v σ' gs' => v = .bool b ∧ ∃ g', gs' = [g'] ∧ I s' σ' g')) →
  ∀ s s', R S Y s (s', ()) → ∀ σ g, σ0.Le σ → I s σ (foot ++ g) → DoesV P gv [y] σ [foot ++ g] (fun _ σ' gs' => ∃ g', gs' = [g'] ∧ I s' σ' g')
theorem ordG_perm : ∀ (is : List Nat) {gs : List Grp} (gs' : List Grp), ordG gs is = some gs' → is.length = gs.length → gs.flatten.Perm gs'.flatten
 | [], gs, gs', h, hl => by
  simp [ordG] at h; subst h
  rw [List.length_eq_zero_iff.1 hl.symm]
 | i :: l, gs, gs', h, hl => by
  simp only [ordG] at h
  cases hj : gs[i]? with
  | none => rw [hj] at h; simp at h
  | some g =>
   rw [hj] at h
   cases hp : ordG (gs.eraseIdx i) l with
   | none => rw [hp] at h; simp at h
   | some gs1 =>
    rw [hp] at h; simp at h; subst h
    have hi : i < gs.length := (List.getElem?_eq_some_iff.1 hj).1
    have h1 := ordG_perm l _ hp (by rw [List.length_eraseIdx_of_lt hi, ← hl]; simp)
    exact (flatten_front hj).trans (by rw [List.flatten_cons]; exact h1.append_left g)
theorem st_rangeS {P : Program} {n : Nat} {c : Ctx P n} {ρ : Env} {σ σ0 : Sto} {gs : List Grp} {k : List Item} {X S E : Type} {g : Operand} {ps : Array Tmp} {assign body : Code} {gv : Value}
    {enc : Sto → X → List Value → Prop} {foot r0 : Grp} {R : (S : Type) → (X → S → Bool × S → Prop) → S → S × Unit → Prop} {B : X → S → Sum S E → Prop} {s0 : S} {t : Sum S E}
    (hc : Ranges c) (hg : ev ρ g = some gv) (hit : IterS P enc gv σ0 foot R) (hle : σ0.Le σ) (hR : R (Sum S E) (Yof B) (.inl s0) (t, ()))
    (hfoot : gs.flatten.Perm (foot ++ r0))
    (hps : ps.toList.all (Nat.blt · n) = true) (hlen : ∀ σ x vx, enc σ x vx → vx.length = ps.size)
    (J : S → Sto → List Grp → Prop) (JE : E → Code → Sto → List Grp → Prop) (hJ : ∀ s σ σ' gs, σ.Le σ' → J s σ gs → J s σ' gs) (hJE : ∀ e cd σ σ' gs, σ.Le σ' → JE e cd σ gs → JE e cd σ' gs) (h0 : J s0 σ gs)
    (hbody : ∀ x s o σ1 gs1 vx, σ.Le σ1 → B x s o → enc σ1 x vx → J s σ1 gs1 → ∀ l rc caller cs fs, St (rctx P n l rc .ready caller cs fs σ1 (FinR J JE o)) (puts ρ ps.toList vx) σ1 gs1 [.code assign, .beginRound, .code body])
    (hdone : ∀ s σ1 gs1, t = .inl s → σ.Le σ1 → J s σ1 gs1 → St c ρ σ1 gs1 k)
    (hstop : ∀ e cd σ1 gs1, t = .inr e → σ.Le σ1 → JE e cd σ1 gs1 → St c ρ σ1 gs1 (.code cd :: k)) :
    St c ρ σ gs (.code (.rangeFunc g ps assign body) :: k) := by
  intro ds a w ha hw
  obtain ⟨l, mark, ds', w1, rc, he, hmark, hw1, hr1, hr2, hr3, hr4, hr5, hr6, hr7⟩ : ∃ l mark ds' w1 rc, (Instr.enterLoop c.b.fn a.tmps ps assign body c.b.roundOf).run P w = .ok (l, mark) w1 ∧
      mark ++ a.defers = ds'.map (fun d => { target := .collected d, args := #[] }) ∧ Wor σ ([(l, .loop rc)] :: gs ++ marks ds' :: c.fr) w1 ∧ rc.state = .ready ∧ rc.pending = none ∧ rc.fn = c.b.fn ∧ rc.tmps = a.tmps ∧ rc.params = ps ∧ rc.assign = assign ∧ rc.body = body := by
    rcases hc with hro | ⟨l0, r0, hro, hmem⟩
    · rw [hro]
      refine ⟨_, _, w.heap.size :: ds, _, { state := .ready, pending := none, fn := c.b.fn, tmps := a.tmps, params := ps, assign, body, defers := w.heap.size }, run_enterLoop_outer _ _ _ _ _, by simp [ha.marks], ?_, rfl, rfl, rfl, rfl, rfl, rfl, rfl⟩
      have h1 := (hw.alloc (.deferred (some []))).alloc (.loop { state := .ready, pending := none, fn := c.b.fn, tmps := a.tmps, params := ps, assign, body, defers := w.heap.size })
      rw [World.size_alloc] at h1
      refine h1.perm ?_
      simp only [marks, List.map_cons, List.cons_append, List.flatten_cons, List.flatten_append, List.nil_append]
      refine List.Perm.cons _ ?_
      have := (List.perm_middle (a := (w.heap.size, Obj.deferred (some []))) (l₁ := gs.flatten) (l₂ := List.map (fun d => (d, Obj.deferred (some []))) ds ++ c.fr.flatten)).symm
      simpa [List.append_assoc] using this
    · rw [hro]
      have hl0 : w.heap[l0]? = some (.loop r0) := hw.has (l0, .loop r0) (by simp only [List.flatten_append, List.flatten_cons, List.mem_append]; exact .inr (.inr (List.mem_flatten.2 ⟨_, hmem, by simp⟩)))
      have hrun : (Instr.enterLoop c.b.fn a.tmps ps assign body (some l0)).run P w = .ok (w.heap.size, []) (w.alloc (.loop { state := .ready, pending := none, fn := c.b.fn, tmps := a.tmps, params := ps, assign, body, defers := r0.defers })) := by
        unfold Instr.enterLoop
        simp only [Sem.run_bind, run_getLoop hl0, run_newObj_alloc, Result.andThen, Sem.run_pure]
      exact ⟨_, _, ds, _, { state := .ready, pending := none, fn := c.b.fn, tmps := a.tmps, params := ps, assign, body, defers := r0.defers }, hrun, by simp [ha.marks], hw.alloc (.loop { state := .ready, pending := none, fn := c.b.fn, tmps := a.tmps, params := ps, assign, body, defers := r0.defers }), rfl, rfl, rfl, rfl, rfl, rfl, rfl⟩
  obtain ⟨st, pe, fn, tm, pa, as, bo, df⟩ := rc
  simp only at hr1 hr2 hr3 hr4 hr5 hr6 hr7
  subst hr1 hr2 hr3 hr4 hr5 hr6 hr7
  -- the caller's side of the rounds, one group
  obtain ⟨rc, hrc⟩ : ∃ rc : Loop, rc = { state := .ready, pending := none, fn := c.b.fn, tmps := a.tmps, params := pa, assign := as, body := bo, defers := df } := ⟨_, rfl⟩
  rw [← hrc] at hw1
  let I : Sum S E → Sto → Grp → Prop := fun t σ g => match t with
    | .inl s => ∃ gs, J s σ gs ∧ g = (l, .loop rc) :: gs.flatten
    | .inr e => ∃ cd gs, JE e cd σ gs ∧ g = (l, .loop { rc with state := .done, pending := some cd }) :: gs.flatten
  have hImono : ∀ s σ σ' g, σ.Le σ' → I s σ g → I s σ' g := by
    intro t σ σ' g hl hI
    cases t with
    | inl s => obtain ⟨gs, hj, rfl⟩ := hI; exact ⟨gs, hJ _ _ _ _ hl hj, rfl⟩
    | inr e => obtain ⟨cd, gs, hj, rfl⟩ := hI; exact ⟨cd, gs, hJE _ _ _ _ _ hl hj, rfl⟩
  have hfp : (foot ++ (l, Obj.loop rc) :: r0).Perm ((l, .loop rc) :: gs.flatten) := List.perm_middle.trans (List.Perm.cons _ hfoot.symm)
  have hcall := hit (Sum S E) (Yof B) (fun t σ1 g => σ.Le σ1 ∧ ∃ g0, g.Perm g0 ∧ I t σ1 g0) (.func (.yield l) #[] #[]) rfl rfl (fun t σ σ' g hl ⟨h1, g0, h2, h3⟩ => ⟨h1.trans hl, g0, h2, hImono t σ σ' g0 hl h3⟩) (by
    rintro x t1 b t2 σ1 g1 vx hl1 ⟨s, o1, rfl, hB, ho1⟩ henc ⟨hlσ, g1', hp1, gs1, hJ1, rfl⟩
    intro fs w2 hw2
    replace hw2 : Wor σ1 ([(l, .loop rc) :: gs1.flatten] ++ fs) w2 := hw2.perm (by simp only [List.flatten_append, List.flatten_cons]; exact (hp1.append_right _).append_right _)
    have hrec : w2.heap[l]? = some (.loop rc) := hw2.has (l, .loop rc) (by simp)
    refine ⟨{ target := .fn (.yield l) #[], args := vx.toArray }, .round l c.b.fn ((pa.zip vx.toArray).foldl (fun tmps (t, a) => tmps.setIfInBounds t a) a.tmps) as bo, by simp [Deferred.ofValue], ?_, ?_⟩
    · have := run_yield (P := P) (args := vx.toArray) hrec (by rw [hrc]; simpa using hlen _ _ _ henc)
      rw [hrc] at this
      simpa [invoke] using this
    · intro caller cs2
      have hfrm : Frm { tmps := (pa.zip vx.toArray).foldl (fun tmps (t, a) => tmps.setIfInBounds t a) a.tmps, defers := [] } n (puts ρ pa.toList vx) [] := by
        have h0 : Frm { tmps := a.tmps, defers := [] } n ρ [] := ⟨ha.size, ha.at_, rfl⟩
        have h1 := h0.puts pa.toList vx hps
        have h2 : (pa.zip vx.toArray).foldl (fun tmps (t, a) => tmps.setIfInBounds t a) a.tmps = (pa.toList.zip vx).foldl (fun t (p, v) => t.setIfInBounds p v) a.tmps := by
          rw [← Array.foldl_toList]; simp
        rw [h2]; exact h1
      have hwr : Wor σ1 (gs1 ++ marks [] :: (rctx P n l rc .ready caller cs2 fs σ1 (FinR J JE o1)).fr) w2 := by
        refine hw2.perm ?_
        simp only [rctx, marks, List.map_nil, List.flatten_append, List.flatten_cons, List.nil_append, List.cons_append]
        have hrr : ({ rc with state := .ready } : Loop) = rc := by rw [hrc]
        rw [hrr]
        exact List.perm_middle.symm
      obtain ⟨m', hs, jump, w3, σ3, gs3, rfl, hF, hle3, hw3⟩ := hbody x s o1 σ1 gs1 vx hlσ hB henc hJ1 l rc caller cs2 fs [] _ w2 hfrm hwr
      have hfr : Frame.round l c.b.fn ((pa.zip vx.toArray).foldl (fun tmps (t, a) => tmps.setIfInBounds t a) a.tmps) as bo .normal =
          (rctx P n l rc .ready caller cs2 fs σ1 (FinR J JE o1)).b.atR { tmps := (pa.zip vx.toArray).foldl (fun tmps (t, a) => tmps.setIfInBounds t a) a.tmps, defers := [] } [.code as, .beginRound, .code bo] := by
        simp [Frame.round, Frame.atR, rctx, hrc]
      rw [← hfr] at hs
      have hw3' : Wor σ3 ([(l, .loop { rc with state := if jump.isNone then .ready else .done, pending := jump }) :: gs3.flatten] ++ fs) w3 := by
        refine hw3.perm ?_
        simp only [List.flatten_append, List.flatten_cons, List.cons_append, List.nil_append]
        exact List.perm_middle
      cases jump with
      | none =>
        obtain ⟨s', rfl, hj⟩ := hF
        rcases ho1 with ⟨s2, h1, h2⟩ | ⟨e2, h1, _⟩
        · cases h1; cases h2
          refine ⟨.bool true, w3, σ3, _, ⟨rfl, _, rfl, hlσ.trans hle3, _, List.Perm.refl _, gs3, hj, ?_⟩, hle3, hw3', hs⟩
          simp only [Option.isNone_none, if_true]
          rw [hrc]
        · cases h1
      | some cd =>
        obtain ⟨e, rfl, hj⟩ := hF
        rcases ho1 with ⟨s2, h1, _⟩ | ⟨e2, h1, h2⟩
        · cases h1
        · cases h1; cases h2
          exact ⟨.bool false, w3, σ3, _, ⟨rfl, _, rfl, hlσ.trans hle3, _, List.Perm.refl _, cd, gs3, hj, by simp⟩, hle3, hw3', hs⟩)
    (.inl s0) t hR σ ((l, .loop rc) :: r0) hle ⟨Sto.Le.refl σ, _, hfp, gs, h0, rfl⟩
  have hw1' : Wor σ ([foot ++ (l, .loop rc) :: r0] ++ (marks ds' :: c.fr)) w1 := by
    refine hw1.perm ?_
    simp only [List.flatten_append, List.flatten_cons, List.cons_append, List.nil_append]
    have := (hfp.symm.append_right (marks ds' ++ c.fr.flatten))
    simpa [List.append_assoc] using this
  obtain ⟨d, nx, hd1, hd2, hnx⟩ := hcall _ _ hw1'
  have hres : (resolve a.eval (rangeCall g l) 0).run P w1 = .ok d w1 := by
    simp only [resolve, ha.eval hg]
    simpa [Act.eval] using hd1
  have ha' : Frm { a with defers := mark ++ a.defers } n ρ ds' := ⟨ha.size, ha.at_, hmark⟩
  have fin : ∀ fr, step P (lone (c.b.atR a (.code (.rangeFunc g pa as bo) :: k)) c.cs w) = .next (lone fr (c.b.atR { a with defers := mark ++ a.defers } (.inRangeFunc l :: k) :: c.cs) w1) →
      Ret P fr w1 (marks ds' :: c.fr) σ (fun _ σ' gs' => ∃ g', gs' = [g'] ∧ (σ.Le σ' ∧ ∃ g0, g'.Perm g0 ∧ I t σ' g0)) → ∃ m', Steps P (lone (c.b.atR a (.code (.rangeFunc g pa as bo) :: k)) c.cs w) m' ∧ c.G m' := by
    intro fr hstep hret
    obtain ⟨v, w2, σ2, gs2, ⟨g', rfl, hl2, g0, hp2, hI2⟩, _, hw2, hs2⟩ := hret (c.b.atR { a with defers := mark ++ a.defers } (.inRangeFunc l :: k)) c.cs
    replace hw2 : Wor σ2 ([g0] ++ (marks ds' :: c.fr)) w2 := hw2.perm (by simp only [List.flatten_append, List.flatten_cons]; exact (hp2.append_right _).append_right _)
    rw [finish_atR_inRangeFunc] at hs2
    cases t with
    | inl s =>
      obtain ⟨gs3, hj, rfl⟩ := hI2
      have hrec : w2.heap[l]? = some (.loop rc) := hw2.has (l, .loop rc) (by simp)
      have hend := run_endLoop (P := P) hrec (by rw [hrc]; simp)
      have hw3 : Wor σ2 (gs3 ++ marks ds' :: c.fr) (w2.putObj l (.loop { rc with state := .exhausted })) := by
        have h1 := (Wor.turn (o := .loop rc) (g := gs3.flatten) (gs := marks ds' :: c.fr) hw2 (w' := w2.putObj l (.loop { rc with state := .exhausted })) (o' := .loop { rc with state := .exhausted }) rfl rfl rfl (World.putObj_heap_same (Array.getElem?_eq_some_iff.1 hrec).1) (fun k hk => World.putObj_heap_other hk))
        have h2 : Wor σ2 (gs3.flatten :: (marks ds' :: c.fr)) (w2.putObj l (.loop { rc with state := .exhausted })) := h1.sub (by simp only [List.flatten_cons, List.cons_append]; exact List.sublist_cons_self _ _)
        refine h2.perm ?_
        simp only [List.flatten_append, List.flatten_cons]
        exact List.Perm.refl _
      obtain ⟨m', h5, h6⟩ := hdone s σ2 gs3 rfl hl2 hj ds' _ _ ha' hw3
      have hp : rc.pending = none := by rw [hrc]
      replace hend := hend.trans (congrArg (fun p => Result.ok p (w2.putObj l (.loop { rc with state := .exhausted }))) hp)
      have h7 := stepR_endRangeFunc (P := P) (b := c.b) (a := { a with defers := mark ++ a.defers }) (k := k) (cs := c.cs) hend
      exact ⟨m', .head hstep (Steps.trans hs2 (.head h7 h5)), h6⟩
    | inr e =>
      obtain ⟨cd, gs3, hj, rfl⟩ := hI2
      have hrec : w2.heap[l]? = some (.loop { rc with state := .done, pending := some cd }) := hw2.has (l, _) (by simp)
      have hend := run_endLoop (P := P) hrec (by simp)
      have hw3 : Wor σ2 (gs3 ++ marks ds' :: c.fr) (w2.putObj l (.loop { rc with state := .exhausted, pending := some cd })) := by
        have h1 := (Wor.turn (o := .loop { rc with state := .done, pending := some cd }) (g := gs3.flatten) (gs := marks ds' :: c.fr) hw2 (w' := w2.putObj l (.loop { rc with state := .exhausted, pending := some cd })) (o' := .loop { rc with state := .exhausted, pending := some cd }) rfl rfl rfl (World.putObj_heap_same (Array.getElem?_eq_some_iff.1 hrec).1) (fun k hk => World.putObj_heap_other hk))
        have h2 : Wor σ2 (gs3.flatten :: (marks ds' :: c.fr)) (w2.putObj l (.loop { rc with state := .exhausted, pending := some cd })) := h1.sub (by simp only [List.flatten_cons, List.cons_append]; exact List.sublist_cons_self _ _)
        refine h2.perm ?_
        simp only [List.flatten_append, List.flatten_cons]
        exact List.Perm.refl _
      obtain ⟨m', h5, h6⟩ := hstop e cd σ2 gs3 rfl hl2 hj ds' _ _ ha' hw3
      have h7 := stepR_endRangeFunc (P := P) (b := c.b) (a := { a with defers := mark ++ a.defers }) (k := k) (cs := c.cs) hend
      exact ⟨m', .head hstep (Steps.trans hs2 (.head h7 h5)), h6⟩
  cases nx with
  | enter f as' => exact fin _ (stepR_rangeAny he hres hd2 rfl) hnx
  | round l f tmps assign body => exact fin _ (stepR_rangeAny he hres hd2 rfl) hnx
  | _ => exact hnx.elim
end Go.Eng
