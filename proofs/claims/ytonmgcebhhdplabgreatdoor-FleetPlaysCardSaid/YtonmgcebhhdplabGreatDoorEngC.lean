import Derived.Test.YtonmgcebhhdplabGreatDoorEngB
/-! The engine, part C: a loop over a function, its rounds. -/
namespace Go.Eng
open Go

def rctx (P : Program) (n : Nat) (l : Nat) (rc : Loop) (st : LoopState) (caller : Frame) (cs : List Frame) (fs : List Grp) (σ0 : Sto) (FinR : Option Code → Sto → List Grp → Prop) : Ctx P n where
 b := { (default : Frame) with fn := rc.fn, kind := .normal, roundOf := some l }
 cs := caller :: cs
 fr := [(l, .loop { rc with state := st })] :: fs
 G := fun m' => ∃ jump w' σ' gs', m' = lone (caller.finish (.bool jump.isNone)) cs w' ∧ FinR jump σ' gs' ∧ σ0.Le σ' ∧
  Wor σ' (gs' ++ [(l, .loop { rc with state := if jump.isNone then .ready else .done, pending := jump })] :: fs) w'

theorem perm_mid {α : Type} (A B C : List α) : (A ++ (B ++ C)).Perm (B ++ (A ++ C)) := by
 rw [← List.append_assoc, ← List.append_assoc]; exact List.Perm.append_right _ List.perm_append_comm

theorem Wor.turnMid {σ : Sto} {A C : List Grp} {w w' : World} {b : Nat} {o o' : Obj} (h : Wor σ (A ++ [(b, o)] :: C) w) (hos : w'.os = w.os) (htape : w'.tape = w.tape) (hout : w'.output = w.output)
    (hb : w'.heap[b]? = some o') (hother : ∀ k, k ≠ b → w'.heap[k]? = w.heap[k]?) : Wor σ (A ++ [(b, o')] :: C) w' := by
  have h1 : Wor σ ([(b, o)] :: (A ++ C)) w := h.perm (by simp only [List.flatten_append, List.flatten_cons]; exact perm_mid _ _ _)
  have h2 := h1.turn hos htape hout hb hother
  exact h2.perm (by simp only [List.flatten_append, List.flatten_cons]; exact (perm_mid _ _ _).symm)

section
variable {P : Program} {n : Nat} {l : Nat} {rc : Loop} {caller : Frame} {cs : List Frame} {fs : List Grp} {σ0 σ : Sto} {FinR : Option Code → Sto → List Grp → Prop} {ρ : Env} {gs gs' : List Grp} {k : List Item}

theorem Wor.noMarks {σ : Sto} {A C : List Grp} {ds : List Nat} {w : World} (h : Wor σ (A ++ marks ds :: C) w) : Wor σ (A ++ C) w :=
 h.sub (by simp only [List.flatten_append, List.flatten_cons]; exact (List.Sublist.refl _).append (List.sublist_append_right _ _))
theorem st_begin (h : St (rctx P n l rc .busy caller cs fs σ0 FinR) ρ σ gs k) : St (rctx P n l rc .ready caller cs fs σ0 FinR) ρ σ gs (.beginRound :: k) := by
 intro ds a w ha hw
 have hl : w.heap[l]? = some (.loop { rc with state := .ready }) := hw.has (l, _) (by simp [rctx])
 have hs := stepR_beginRound (P := P) (b := (rctx P n l rc .ready caller cs fs σ0 FinR).b) (a := a) (k := k) (cs := caller :: cs) (l := l) rfl (run_beginRound hl rfl)
 have hw2 : Wor σ (gs ++ marks ds :: [(l, .loop { rc with state := .busy })] :: fs) (w.putObj l (.loop { rc with state := .busy })) := by
  have h1 : Wor σ ((gs ++ [marks ds]) ++ [(l, .loop { rc with state := .ready })] :: fs) w := by simpa [rctx] using hw
  have h2 := h1.turnMid (w' := w.putObj l (.loop { rc with state := .busy })) (o' := .loop { rc with state := .busy }) rfl rfl rfl (World.putObj_heap_same (Array.getElem?_eq_some_iff.1 hl).1) (fun k hk => World.putObj_heap_other hk)
  simpa using h2
 obtain ⟨m', h1, h2⟩ := h ds a _ ha hw2
 exact ⟨m', .head hs h1, h2⟩

theorem round_end {ds : List Nat} {w : World} (jump : Option Code) (hs : gs'.flatten.Sublist gs.flatten) (hle : σ0.Le σ) (hF : FinR jump σ gs') (hw : Wor σ (gs ++ marks ds :: (rctx P n l rc .busy caller cs fs σ0 FinR).fr) w) :
    (Instr.endRound l jump).run P w = .ok (.bool jump.isNone) (w.putObj l (.loop { rc with state := if jump.isNone then .ready else .done, pending := jump })) ∧
    (rctx P n l rc .busy caller cs fs σ0 FinR).G (lone (caller.finish (.bool jump.isNone)) cs (w.putObj l (.loop { rc with state := if jump.isNone then .ready else .done, pending := jump }))) := by
  have hl : w.heap[l]? = some (.loop { rc with state := .busy }) := hw.has (l, _) (by simp [rctx])
  refine ⟨by have := run_endRound (P := P) jump hl; exact this, jump, _, σ, gs', rfl, hF, hle, ?_⟩
  have h1 : Wor σ (gs ++ [(l, .loop { rc with state := .busy })] :: fs) w := hw.noMarks
  have h2 : Wor σ (gs' ++ [(l, .loop { rc with state := .busy })] :: fs) w := h1.sub (by simp only [List.flatten_append, List.flatten_cons]; exact hs.append (List.Sublist.refl _))
  exact h2.turnMid rfl rfl rfl (World.putObj_heap_same (Array.getElem?_eq_some_iff.1 hl).1) (fun k hk => World.putObj_heap_other hk)

theorem st_rend (hs : gs'.flatten.Sublist gs.flatten) (hle : σ0.Le σ) (hF : FinR none σ gs') : St (rctx P n l rc .busy caller cs fs σ0 FinR) ρ σ gs [] := by
 intro ds a w ha hw
 obtain ⟨h1, h2⟩ := round_end (n := n) none hs hle hF hw
 exact ⟨_, .one (stepR_round_end rfl rfl h1), h2⟩
end

def puts : Env → List Nat → List Value → Env
 | ρ, p :: ps, v :: vs => puts ((p, v) :: ρ) ps vs
 | ρ, _, _ => ρ
theorem Frm.puts {n : Nat} : ∀ (ps : List Nat) (vs : List Value) {a : Act} {ρ : Env} {ds : List Nat}, Frm a n ρ ds → ps.all (Nat.blt · n) = true → Frm { a with tmps := (ps.zip vs).foldl (fun t (p, v) => t.setIfInBounds p v) a.tmps } n (Eng.puts ρ ps vs) ds
  | [], _, a, ρ, ds, h, _ => by simpa [Eng.puts] using h
  | _ :: _, [], a, ρ, ds, h, _ => by simpa [Eng.puts] using h
  | p :: ps, v :: vs, a, ρ, ds, h, hn => by
    simp only [List.all_cons, Bool.and_eq_true] at hn
    have h1 := h.put (some p) hn.1 v
    exact Frm.puts ps vs h1 hn.2

def FinR {S E : Type} (J : S → Sto → List Grp → Prop) (JE : E → Code → Sto → List Grp → Prop) (o : Sum S E) : Option Code → Sto → List Grp → Prop
 | none, σ, gs => ∃ s', o = .inl s' ∧ J s' σ gs
 | some cd, σ, gs => ∃ e, o = .inr e ∧ JE e cd σ gs

theorem stepR_rangeAny {P : Program} {b : Frame} {a : Act} {k : List Item} {cs : List Frame} {w : World} {g : Operand} {ps : Array Tmp} {assign body : Code} {l : Nat} {mark : List Deferred} {w₁ : World} {d : Deferred} {nx : Next} {fr : Frame}
    (he : (Instr.enterLoop b.fn a.tmps ps assign body b.roundOf).run P w = .ok (l, mark) w₁)
    (hres : (resolve a.eval (rangeCall g l) 0).run P w₁ = .ok d w₁) (hinv : (invoke d.target d.args).run P w₁ = .ok nx w₁)
    (hnx : match nx with | .enter f as => fr = Frame.enter P f as .normal | .round l f tmps assign body => fr = Frame.round l f tmps assign body .normal | _ => False) :
    step P (lone (b.atR a (.code (.rangeFunc g ps assign body) :: k)) cs w) = .next (lone fr (b.atR { a with defers := mark ++ a.defers } (.inRangeFunc l :: k) :: cs) w₁) :=
  step_lone_go (by
    have hev := Frame.eval_atR b { a with defers := mark ++ a.defers } (.inRangeFunc l :: k)
    simp only [Frame.atR] at hev
    have hres' : Sem.run P (resolve ({ tmps := a.tmps, defers := mark ++ a.defers } : Act).eval { callee := .value g, args := #[.const (.func (.yield l) #[] #[])], argTypes := #[] } 0) w₁ = .ok d w₁ := hres
    cases nx with
    | enter f as => subst hnx; simp [stepG, stepG.exec, Frame.atR, Sem.runT_eq, he, GStep.bare_after, stepG.apply, hev, Sem.run_bind, hres', hinv, Result.andThen]
    | round l f tmps assign body => subst hnx; simp [stepG, stepG.exec, Frame.atR, Sem.runT_eq, he, GStep.bare_after, stepG.apply, hev, Sem.run_bind, hres', hinv, Result.andThen]
    | _ => exact hnx.elim)

def Ranges {P : Program} {n : Nat} (c : Ctx P n) : Prop := c.b.roundOf = none ∨ ∃ l r, c.b.roundOf = some l ∧ [(l, .loop r)] ∈ c.fr
theorem ranges_fctx {P : Program} {n : Nat} {f : FuncId} {cs : List Frame} {fs : List Grp} {σ0 : Sto} {Q : Value → Sto → List Grp → Prop} : Ranges (fctx P n f cs fs σ0 Q) := .inl rfl
end Go.Eng
