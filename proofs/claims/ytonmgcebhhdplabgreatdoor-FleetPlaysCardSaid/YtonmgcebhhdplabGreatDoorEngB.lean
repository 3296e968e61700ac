import Derived.Test.YtonmgcebhhdplabGreatDoorEngA
import Derived.Test.YtonmgcebhhdplabGreatDoorEngP
/-! The engine, part B: calls, returns, loops, loops over functions. -/
namespace Go.Eng
open Go

/-! ### What a call comes to -/
def Ret (P : Program) (fr : Frame) (w : World) (fs : List Grp) (σ : Sto) (Q : Value → Sto → List Grp → Prop) : Prop :=
 ∀ (c : Frame) (cs : List Frame), ∃ v w' σ' gs', Q v σ' gs' ∧ σ.Le σ' ∧ Wor σ' (gs' ++ fs) w' ∧ Steps P (lone fr (c :: cs) w) (lone (c.finish v) cs w')

def Does (P : Program) (f : FuncId) (args : List Value) (σ : Sto) (gs : List Grp) (Q : Value → Sto → List Grp → Prop) : Prop :=
 ∀ fs w, Wor σ (gs ++ fs) w → ∀ cs, ∃ v w' fr' σ' gs', Q v σ' gs' ∧ σ.Le σ' ∧ Wor σ' (gs' ++ fs) w' ∧
  Steps P (lone (Frame.enter P f args.toArray .normal) cs w) (lone fr' cs w') ∧ fr'.fn = f ∧ fr'.leaving P w' (.returned v)

def DoesV (P : Program) (fv : Value) (args : List Value) (σ : Sto) (gs : List Grp) (Q : Value → Sto → List Grp → Prop) : Prop :=
 ∀ fs w, Wor σ (gs ++ fs) w → ∃ d nx, (Deferred.ofValue fv args.toArray).run P w = .ok d w ∧ (invoke d.target d.args).run P w = .ok nx w ∧
  match nx with
  | .enter f as => Ret P (Frame.enter P f as .normal) w fs σ Q
  | .round l f tmps assign body => Ret P (Frame.round l f tmps assign body .normal) w fs σ Q
  | _ => False

section
variable {P : Program} {f : FuncId} {args : List Value} {σ : Sto} {gs : List Grp} {Q Q' : Value → Sto → List Grp → Prop} {fv : Value}

theorem Does.mono (h : Does P f args σ gs Q) (hq : ∀ v σ' gs', σ.Le σ' → Q v σ' gs' → Q' v σ' gs') : Does P f args σ gs Q' :=
 fun fs w hw cs => let ⟨v, w', fr', σ', gs', q, le, wo, st, hf, hl⟩ := h fs w hw cs; ⟨v, w', fr', σ', gs', hq v σ' gs' le q, le, wo, st, hf, hl⟩
theorem DoesV.mono (h : DoesV P fv args σ gs Q) (hq : ∀ v σ' gs', σ.Le σ' → Q v σ' gs' → Q' v σ' gs') : DoesV P fv args σ gs Q' := by
 intro fs w hw
 obtain ⟨d, nx, h1, h2, h3⟩ := h fs w hw
 refine ⟨d, nx, h1, h2, ?_⟩
 cases nx with
 | enter f as => exact fun c cs => let ⟨v, w', σ', gs', q, le, wo, st⟩ := h3 c cs; ⟨v, w', σ', gs', hq v σ' gs' le q, le, wo, st⟩
 | round l f tmps assign body => exact fun c cs => let ⟨v, w', σ', gs', q, le, wo, st⟩ := h3 c cs; ⟨v, w', σ', gs', hq v σ' gs' le q, le, wo, st⟩
 | _ => exact h3.elim
theorem Does.frame (h : Does P f args σ gs Q) (gs2 : List Grp) : Does P f args σ (gs ++ gs2) (fun v σ' gs' => ∃ g1, gs' = g1 ++ gs2 ∧ Q v σ' g1) := by
 intro fs w hw cs
 rw [List.append_assoc] at hw
 obtain ⟨v, w', fr', σ', gs', q, le, wo, st, hf, hl⟩ := h (gs2 ++ fs) w hw cs
 exact ⟨v, w', fr', σ', gs' ++ gs2, ⟨gs', rfl, q⟩, le, by rw [List.append_assoc]; exact wo, st, hf, hl⟩

theorem Does.calls {w : World} (h : Does P f args (Sto.of w) [] Q) : Calls P f args.toArray w fun e w' => ∃ v σ' gs', e = .returned v ∧ Q v σ' gs' ∧ (Sto.of w).Le σ' ∧ Wor σ' gs' w' := by
 intro cs
 obtain ⟨v, w', fr', σ', gs', q, le, wo, st, hf, hl⟩ := h [] w (Wor.of w) cs
 rw [List.append_nil] at wo
 exact ⟨.returned v, w', fr', ⟨v, σ', gs', rfl, q, le, wo⟩, st, hf, hl⟩

def enters (P : Program) (f : FuncId) : Bool := match P.funcs[f]? with
 | some fn => fn.body.isSome && !(fn.name == "runtime.NumGoroutine")
 | none => false
theorem run_callFunc (h : enters P f = true) (as : Array Value) (w : World) : (callFunc f as).run P w = .ok (.enter f as) w := by
 unfold enters at h
 cases hf : P.funcs[f]? with
 | none => rw [hf] at h; cases h
 | some fn =>
  rw [hf] at h
  simp only [Bool.and_eq_true, Bool.not_eq_true'] at h
  have hb : fn.body.isNone = false := by cases hb : fn.body <;> simp_all
  simp only [callFunc, Sem.run_bind, run_program, Result.andThen_ok, hf, h.2, hb, Bool.false_eq_true, if_false, Sem.run_pure]

theorem callV_of {caps : List Value} (he : enters P f = true) (h : Does P f (args ++ caps) σ gs Q) : DoesV P (.func (.func f) #[] caps.toArray) args σ gs Q := by
 intro fs w hw
 refine ⟨{ target := .fn (.func f) caps.toArray, args := args.toArray }, .enter f (args ++ caps).toArray, by simp [Deferred.ofValue], ?_, ?_⟩
 ·simp only [invoke]
  rw [show args.toArray ++ caps.toArray = (args ++ caps).toArray by simp]
  exact run_callFunc he _ w
 ·intro c cs
  obtain ⟨v, w', fr', σ', gs', q, le, wo, st, hf, hl⟩ := h fs w hw (c :: cs)
  exact ⟨v, w', σ', gs', q, le, wo, Steps.trans st (.one (step_leave_returned hl))⟩
theorem callV_fn (he : enters P f = true) (h : Does P f args σ gs Q) : DoesV P (.func (.func f) #[] #[]) args σ gs Q :=
 callV_of (caps := []) he (by rw [List.append_nil]; exact h)
end

/-! ### A function's body -/
def fctx (P : Program) (n : Nat) (f : FuncId) (cs : List Frame) (fs : List Grp) (σ0 : Sto) (Q : Value → Sto → List Grp → Prop) : Ctx P n where
 b := { (default : Frame) with fn := f, kind := .normal, roundOf := none }
 cs := cs
 fr := fs
 G := fun m' => ∃ v w' fr' σ' gs', m' = lone fr' cs w' ∧ Q v σ' gs' ∧ σ0.Le σ' ∧ Wor σ' (gs' ++ fs) w' ∧ fr'.fn = f ∧ fr'.leaving P w' (.returned v)

def argEnv : List Value → Nat → Env
 | [], _ => []
 | v :: l, i => (i, v) :: argEnv l (i + 1)
theorem argEnv_look : ∀ (l : List Value) (i t : Nat) (v : Value), look (argEnv l i) t = some v → i ≤ t ∧ l[t - i]? = some v
 | [], _, _, _, h => by simp [argEnv, look] at h
 | u :: l, i, t, v, h => by
  simp only [argEnv, look] at h
  cases hb : Nat.beq t i with
  | true => rw [hb] at h; simp at h; subst h; have := Nat.eq_of_beq_eq_true hb; subst this; simp
  | false =>
   rw [hb] at h
   obtain ⟨h1, h2⟩ := argEnv_look l (i + 1) t v h
   refine ⟨by omega, ?_⟩
   rw [show t - i = (t - (i + 1)) + 1 by omega]; simpa using h2

theorem call_of {P : Program} {f : FuncId} {fn : Func} {n : Nat} {body : Code} {args : List Value} {σ : Sto} {gs : List Grp} {Q : Value → Sto → List Grp → Prop} (hf : P.funcs[f]? = some fn) (hn : fn.ntmps = n) (hb : fn.body = some body) (hl : Nat.ble args.length n = true)
    (h : ∀ cs fs, St (fctx P n f cs fs σ Q) (argEnv args 0) σ gs [.code body]) : Does P f args σ gs Q := by
  intro fs w hw cs
  have hle := Nat.le_of_ble_eq_true hl
  have ha : Frm { tmps := args.toArray ++ Array.replicate (n - args.length) undef, defers := [] } n (argEnv args 0) [] := by
    refine ⟨by simp; omega, fun t v hv => ?_, rfl⟩
    obtain ⟨_, h2⟩ := argEnv_look args 0 t v hv
    rw [Nat.sub_zero] at h2
    have hlt := (List.getElem?_eq_some_iff.1 h2).1
    simp only [Array.getD_eq_getD_getElem?]
    rw [Array.getElem?_append_left (by simpa using hlt)]
    simp [h2]
  obtain ⟨m', hs, v, w', fr', σ', gs', rfl, q, le, wo, hfn, hl'⟩ := h cs fs [] _ w ha (by
    refine hw.sub ?_
    simp [marks, List.flatten_append, fctx])
  refine ⟨v, w', fr', σ', gs', q, le, wo, ?_, hfn, hl'⟩
  have he : Frame.enter P f args.toArray .normal = (fctx P n f cs fs σ Q).b.atR { tmps := args.toArray ++ Array.replicate (n - args.length) undef, defers := [] } [.code body] := by
    simp [Frame.enter, hf, hn, hb, Frame.atR, fctx]
  rw [he]; exact hs

def resV (ρ : Env) : List ResultVar → Option (List Value)
 | [] => some []
 | .tmp t :: l => match look ρ t, resV ρ l with
  | some v, some vs => some (v :: vs)
  | _, _ => none
 | .cell _ _ :: _ => none
def packV : List Value → Value
 | [v] => v
 | vs => .tuple vs.toArray

theorem run_results {P : Program} {fn : Func} {a : Act} {n : Nat} {ρ : Env} {ds : List Nat} (ha : Frm a n ρ ds) {vs : List Value} (hv : resV ρ fn.results.toList = some vs) (w : World) : (results fn a.tmps).run P w = .ok (packV vs) w := by
 have key : ∀ (rs : List ResultVar) (vs : List Value), resV ρ rs = some vs → (rs.mapM (m := Sem) (fun | .tmp t => pure (a.tmps.getD t undef) | .cell x t => do loadVar t (← asAddr (a.tmps.getD x undef)))).run P w = .ok vs w := by
  intro rs
  induction rs with
  | nil => intro vs h; simp [resV] at h; subst h; simp
  | cons r rs ih =>
   intro vs h
   cases r with
   | tmp t =>
    simp only [resV] at h
    cases hl : look ρ t with
    | none => rw [hl] at h; simp at h
    | some v =>
     rw [hl] at h
     cases hr : resV ρ rs with
     | none => rw [hr] at h; simp at h
     | some us =>
      rw [hr] at h; simp at h; subst h
      have h1 := ha.at_ t v hl
      simp only [List.mapM_cons, Sem.run_bind, Sem.run_pure, Result.andThen_ok]
      rw [ih us hr]
      simp [h1]
   | cell x t => simp [resV] at h
 have h2 := key _ _ hv
 have h3 : (fn.results.mapM (m := Sem) (fun | .tmp t => pure (a.tmps.getD t undef) | .cell x t => do loadVar t (← asAddr (a.tmps.getD x undef)))).run P w = .ok vs.toArray w := by
  clear key hv
  revert h2
  generalize fn.results = rs
  obtain ⟨rs⟩ := rs
  intro h2
  rw [List.mapM_toArray]
  simp only [Sem.run_map]
  rw [h2]; rfl
 unfold results
 simp only [Sem.run_bind]
 refine (congrArg (fun r => Result.andThen r _) h3).trans ?_
 simp only [Result.andThen_ok, Sem.run_pure]
 congr 1
 match vs with
 | [] => simp [packV]
 | [v] => simp [packV]
 | v :: u :: vs => simp [packV]

theorem leaves {P : Program} {n : Nat} {f : FuncId} {fn : Func} {cs : List Frame} {fs : List Grp} {σ0 σ : Sto} {Q : Value → Sto → List Grp → Prop} {ρ : Env} {gs : List Grp} {vs : List Value} {gs' : List Grp} (hf : P.funcs[f]? = some fn) (hr : ∀ ds a w, Frm a n ρ ds → Wor σ (gs ++ marks ds :: fs) w → (results fn a.tmps).run P w = .ok (packV vs) w) (hsb : gs'.flatten.Sublist gs.flatten) (hQ : Q (packV vs) σ gs') (hle : σ0.Le σ) :
    ∀ (ds : List Nat) (a : Act) (w : World) (todo : List Item), Frm a n ρ ds → Wor σ (gs ++ marks ds :: fs) w →
      ∃ m', Steps P (lone { (fctx P n f cs fs σ0 Q).b.atR a todo with mode := .returning } cs w) m' ∧ (fctx P n f cs fs σ0 Q).G m' := by
  intro ds
  induction ds with
  | nil =>
    intro a w todo ha hw
    refine ⟨_, Steps.refl _ _, packV vs, w, _, σ, gs', rfl, hQ, hle, hw.sub (by simp only [marks, List.map_nil, List.flatten_append, List.flatten_cons, List.nil_append]; exact hsb.append (List.Sublist.refl _)), rfl, rfl, ?_, rfl, fn, hf, ?_⟩
    · simpa [Frame.atR] using ha.marks
    · exact hr [] a w ha hw
  | cons d ds ih =>
    intro a w todo ha hw
    have hd : w.heap[d]? = some (.deferred (some [])) := hw.has (d, .deferred (some [])) (by simp [marks, List.flatten_append])
    have h1 := step_collected (P := P) (fr := { (fctx P n f cs fs σ0 Q).b.atR a todo with mode := .returning }) (cs := cs) (by simp) (d := { target := .collected d, args := #[] }) (ds := ds.map fun d => { target := .collected d, args := #[] }) (by simpa [Frame.atR] using ha.marks) rfl (run_takeDeferred hd)
    have hw2 : Wor σ (gs ++ marks ds :: fs) (w.putObj d (.deferred none)) := by
      have h2 : Wor σ (((d, .deferred (some [])) :: marks ds) :: (gs ++ fs)) w := hw.perm (by
        simp only [marks, List.map_cons, List.flatten_append, List.flatten_cons]
        have : ∀ (X Y Z : Grp), (X ++ (Y ++ Z)).Perm (Y ++ (X ++ Z)) := fun X Y Z => by
          rw [← List.append_assoc, ← List.append_assoc]; exact List.Perm.append_right _ List.perm_append_comm
        exact this _ _ _)
      have h3 := h2.turn (w' := w.putObj d (.deferred none)) (o' := .deferred none) rfl rfl rfl (World.putObj_heap_same (Array.getElem?_eq_some_iff.1 hd).1) (fun k hk => World.putObj_heap_other hk)
      have h4 : Wor σ (marks ds :: (gs ++ fs)) (w.putObj d (.deferred none)) := h3.sub (by simp only [List.flatten_cons, List.cons_append]; exact List.sublist_cons_self _ _)
      refine h4.perm ?_
      simp only [List.flatten_append, List.flatten_cons]
      rw [← List.append_assoc, ← List.append_assoc]
      exact List.Perm.append_right _ List.perm_append_comm
    obtain ⟨m', h5, h6⟩ := ih { a with defers := ds.map fun d => { target := .collected d, args := #[] } } (w.putObj d (.deferred none)) todo ⟨ha.size, ha.at_, rfl⟩ hw2
    exact ⟨m', .head h1 h5, h6⟩

def ResOk (P : Program) (ρ : Env) (gs : List Grp) : List ResultVar → List Value → Prop
 | [], [] => True
 | .tmp t :: l, v :: vs => look ρ t = some v ∧ ResOk P ρ gs l vs
 | .cell x t :: l, v :: vs => (∃ b cs E fr, look ρ x = some (.pointer (some ⟨b, 0, none⟩)) ∧ (b, Obj.cells cs E fr) ∈ gs.flatten ∧ ∀ w : World, w.heap[b]? = some (.cells cs E fr) → (loadVar t ⟨b, 0, none⟩).run P w = .ok v w) ∧ ResOk P ρ gs l vs
 | _, _ => False
theorem run_resultsC {P : Program} {fn : Func} {a : Act} {n : Nat} {ρ : Env} {ds : List Nat} {σ : Sto} {gs fs : List Grp} {vs : List Value} (hv : ResOk P ρ gs fn.results.toList vs) {w : World} (ha : Frm a n ρ ds) (hw : Wor σ (gs ++ fs) w) : (results fn a.tmps).run P w = .ok (packV vs) w := by
 have key : ∀ (rs : List ResultVar) (vs : List Value), ResOk P ρ gs rs vs → (rs.mapM (m := Sem) (fun | .tmp t => pure (a.tmps.getD t undef) | .cell x t => do loadVar t (← asAddr (a.tmps.getD x undef)))).run P w = .ok vs w := by
  intro rs
  induction rs with
  | nil => intro vs h; cases vs with
   | nil => simp
   | cons v vs => exact h.elim
  | cons r rs ih =>
   intro vs h
   cases vs with
   | nil => cases r <;> exact h.elim
   | cons v vs =>
   cases r with
   | tmp t =>
    obtain ⟨h1, h2⟩ := h
    have h1 := ha.at_ t v h1
    simp only [List.mapM_cons, Sem.run_bind, Sem.run_pure, Result.andThen_ok]
    rw [ih vs h2]
    simp [h1]
   | cell x t =>
    obtain ⟨⟨b, cs, E, fr, h1, h3, h4⟩, h2⟩ := h
    have h1 := ha.at_ x _ h1
    have h5 := h4 w (hw.has _ (by simp only [List.flatten_append, List.mem_append]; exact .inl h3))
    have h6 : asAddr (a.tmps.getD x undef) = pure ⟨b, 0, none⟩ := by rw [h1]; rfl
    simp only [List.mapM_cons, Sem.run_bind, h6, Sem.run_pure, Result.andThen_ok]
    rw [h5]
    simp only [Result.andThen_ok]
    rw [ih vs h2]
    simp
 have h2 := key _ _ hv
 have h3 : (fn.results.mapM (m := Sem) (fun | .tmp t => pure (a.tmps.getD t undef) | .cell x t => do loadVar t (← asAddr (a.tmps.getD x undef)))).run P w = .ok vs.toArray w := by
  clear key hv
  revert h2
  generalize fn.results = rs
  obtain ⟨rs⟩ := rs
  intro h2
  rw [List.mapM_toArray]
  simp only [Sem.run_map]
  rw [h2]; rfl
 unfold results
 simp only [Sem.run_bind]
 refine (congrArg (fun r => Result.andThen r _) h3).trans ?_
 simp only [Result.andThen_ok, Sem.run_pure]
 congr 1
 match vs with
 | [] => simp [packV]
 | [v] => simp [packV]
 | v :: u :: vs => simp [packV]

section ret
variable {P : Program} {n : Nat} {f : FuncId} {fn : Func} {cs : List Frame} {fs : List Grp} {σ0 σ : Sto} {Q : Value → Sto → List Grp → Prop} {ρ : Env} {gs gs' : List Grp} {vs : List Value} {k : List Item}
theorem st_ret (hf : P.funcs[f]? = some fn) (hv : resV ρ fn.results.toList = some vs) (hs : gs'.flatten.Sublist gs.flatten) (hle : σ0.Le σ) (hQ : Q (packV vs) σ gs') : St (fctx P n f cs fs σ0 Q) ρ σ gs (.code .ret :: k) := by
 intro ds a w ha hw
 obtain ⟨m', h1, h2⟩ := leaves hf (fun _ _ w ha _ => run_results ha hv w) hs hQ hle ds a w (.code .ret :: k) ha hw
 exact ⟨m', .head (stepR_ret rfl) h1, h2⟩
theorem st_fin (hf : P.funcs[f]? = some fn) (hv : resV ρ fn.results.toList = some vs) (hs : gs'.flatten.Sublist gs.flatten) (hle : σ0.Le σ) (hQ : Q (packV vs) σ gs') : St (fctx P n f cs fs σ0 Q) ρ σ gs [] := by
 intro ds a w ha hw
 obtain ⟨m', h1, h2⟩ := leaves hf (fun _ _ w ha _ => run_results ha hv w) hs hQ hle ds a w [] ha hw
 exact ⟨m', .head (stepR_end rfl) h1, h2⟩
theorem st_retC (vs : List Value) (hf : P.funcs[f]? = some fn) (hv : ResOk P ρ gs fn.results.toList vs) (hs : gs'.flatten.Sublist gs.flatten) (hle : σ0.Le σ) (hQ : Q (packV vs) σ gs') : St (fctx P n f cs fs σ0 Q) ρ σ gs (.code .ret :: k) := by
 intro ds a w ha hw
 obtain ⟨m', h1, h2⟩ := leaves hf (fun _ _ w ha hw => run_resultsC hv ha hw) hs hQ hle ds a w (.code .ret :: k) ha hw
 exact ⟨m', .head (stepR_ret rfl) h1, h2⟩
end ret

/-! ### A call in a region -/
section
variable {P : Program} {n : Nat} {c : Ctx P n} {ρ : Env} {σ : Sto} {gs rs : List Grp} {k : List Item} {ops : Array Oper} {i : Nat} {rest : List Nat}

def evs (ρ : Env) : List Operand → Option (List Value)
 | [] => some []
 | x :: l => match ev ρ x, evs ρ l with
  | some v, some vs => some (v :: vs)
  | _, _ => none
theorem Frm.evals {a : Act} {ds : List Nat} (ha : Frm a n ρ ds) : ∀ {xs : List Operand} {vs : List Value}, evs ρ xs = some vs → xs.map a.eval = vs
 | [], vs, h => by simp [evs] at h; subst h; rfl
 | x :: l, vs, h => by
  simp only [evs] at h
  cases hx : ev ρ x with
  | none => rw [hx] at h; simp at h
  | some v =>
   rw [hx] at h
   cases hl : evs ρ l with
   | none => rw [hl] at h; simp at h
   | some us =>
    rw [hl] at h; simp at h; subst h
    simp [ha.eval hx, ha.evals hl]

theorem st_call {d : Option Nat} {fo : Operand} {xs : Array Operand} {ats : Array TypeId} {ty : TypeId} {pos : String} {after : Array Edge} {g : Option (Nat × Bool)} {fv : Value} {vs : List Value} {foot : List Grp} {Q : Value → Sto → List Grp → Prop}
    (ho : ops[i]? = some ⟨d, .call ⟨.value fo, xs, ats⟩, ty, pos, after, g⟩) (hg : wants ops ρ g = true) (hf : fits n d = true)
    (hfo : ev ρ fo = some fv) (hxs : evs ρ xs.toList = some vs) (hgs : gs = foot ++ rs) (hc : DoesV P fv vs σ foot Q)
    (h : ∀ v σ' gs', σ.Le σ' → Q v σ' gs' → St c (put ρ d v) σ' (gs' ++ rs) (.inRegion ops rest :: k)) : St c ρ σ gs (.inRegion ops (i :: rest) :: k) := by
  intro ds a w ha hw
  subst hgs
  have hw0 := hw
  rw [List.append_assoc] at hw
  obtain ⟨dd, nx, hd1, hd2, hnx⟩ := hc _ w hw
  have hexec : (execOp a.eval (⟨d, .call ⟨.value fo, xs, ats⟩, ty, pos, after, g⟩ : Oper)).run P w = .ok nx w := by
    have hmap : xs.map a.eval = vs.toArray := by
      rw [← ha.evals hxs]; obtain ⟨l⟩ := xs; simp
    simp only [execOp, Sem.run_bind, resolve, ha.eval hfo, hmap]
    rw [hd1]; exact hd2
  have hg2 := stepGR_op (P := P) (b := c.b) (k := k) (cs := c.cs) (w := w) (rest := rest) ho (wanted_of ha hg)
  have hse : (⟨d, .call ⟨.value fo, xs, ats⟩, ty, pos, after, g⟩ : Oper).semAt c.b.roundOf a.eval = execOp a.eval ⟨d, .call ⟨.value fo, xs, ats⟩, ty, pos, after, g⟩ := Oper.semAt_eq _ _ _ (fun cc e => by cases e)
  have hfin : ∀ v, (c.b.atR a (.inRegion ops (i :: rest) :: k)).finish v = c.b.atR (a.put d v) (.inRegion ops rest :: k) := fun v => by
    rw [Frame.finish_atR, ho]; rfl
  rw [hse] at hg2
  have go : ∀ (fr : Frame), step P (lone (c.b.atR a (.inRegion ops (i :: rest) :: k)) c.cs w) = .next (lone fr (c.b.atR a (.inRegion ops (i :: rest) :: k) :: c.cs) w) → Ret P fr w (rs ++ marks ds :: c.fr) σ Q →
      ∃ m', Steps P (lone (c.b.atR a (.inRegion ops (i :: rest) :: k)) c.cs w) m' ∧ c.G m' := by
    intro fr hstep hr
    obtain ⟨v, w', σ', gs', q, le, wo, st⟩ := hr (c.b.atR a (.inRegion ops (i :: rest) :: k)) c.cs
    rw [hfin] at st
    rw [← List.append_assoc] at wo
    obtain ⟨m', h3, h4⟩ := h v σ' gs' le q ds _ w' (ha.put d hf v) wo
    exact ⟨m', .head hstep (Steps.trans st h3), h4⟩
  cases nx with
  | enter f as => exact go _ (step_lone_go (by rw [hg2]; simp [stepG.apply, Sem.runT_eq, hexec, GStep.bare_after]; rfl)) hnx
  | round l f tmps assign body => exact go _ (step_lone_go (by rw [hg2]; simp [stepG.apply, Sem.runT_eq, hexec, GStep.bare_after])) hnx
  | _ => exact hnx.elim
end

/-! ### Loops -/
theorem st_loop {P : Program} {n : Nat} {c : Ctx P n} {ρ : Env} {σ : Sto} {gs : List Grp} {k : List Item} {S E : Type} {step : S → Sum S E → Prop} {s0 : S} {e0 : E} {x : Code} {id : Nat} (hl : Loops step s0 e0) (J : S → Env → Sto → List Grp → Prop) (h0 : J s0 ρ σ gs)
    (hb : ∀ s o, step s o → (∀ e, o = .inr e → e = e0) → ∀ ρ σ gs, J s ρ σ gs → (∀ s' ρ' σ' gs', o = .inl s' → J s' ρ' σ' gs' → St c ρ' σ' gs' (.inLoop x :: .inBlock id :: k)) → St c ρ σ gs (.code x :: .inLoop x :: .inBlock id :: k)) :
    St c ρ σ gs (.code (.block id (.loop x)) :: k) := by
  have key : ∀ s e, Loops step s e → e = e0 → ∀ ρ σ gs, J s ρ σ gs → St c ρ σ gs (.code x :: .inLoop x :: .inBlock id :: k) := by
    intro s e hl
    induction hl with
    | done h =>
      intro he ρ σ gs hJ
      exact hb _ _ h (fun e' h' => by cases h'; exact he) ρ σ gs hJ (fun s' _ _ _ h' => by cases h')
    | next h _ ih =>
      intro he ρ σ gs hJ
      exact hb _ _ h (fun e' h' => by cases h') ρ σ gs hJ (fun s' ρ' σ' gs' h' hJ' => by cases h'; exact st_inLoop0 (ih he ρ' σ' gs' hJ'))
  exact st_block (st_loop0 (key s0 e0 hl rfl ρ σ gs h0))
end Go.Eng
