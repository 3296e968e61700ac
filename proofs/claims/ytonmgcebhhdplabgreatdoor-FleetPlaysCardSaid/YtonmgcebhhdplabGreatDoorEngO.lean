import Derived.Test.YtonmgcebhhdplabGreatDoorEngU
/-! The engine, part O: steps in their shortest spelling. -/
namespace Go.Eng
open Go
theorem LR {σ : Sto} : σ.Le σ := Sto.Le.refl σ
theorem CO {P : Program} {f : FuncId} {fn : Func} {n : Nat} {body : Code} {args : List Value} {σ : Sto} {gs : List Grp} {Q : Value → Sto → List Grp → Prop} (hf : P.funcs[f]? = some fn) (hn : fn.ntmps = n) (hb : fn.body = some body)
    (h : ∀ cs fs, St (fctx P n f cs fs σ Q) (argEnv args 0) σ gs [.code body]) (hl : Nat.ble args.length n = true := by exact rfl) : Does P f args σ gs Q := call_of hf hn hb hl h
section
variable {P : Program} {n : Nat} {c : Ctx P n} {ρ : Env} {σ : Sto} {gs : List Grp} {k : List Item}
theorem I2 {x : Operand} {y z : Code} {t : Bool} {A B : Prop} (h : if t = true then A else B) (ht : A → St c ρ σ gs (.code y :: k)) (hf : B → St c ρ σ gs (.code z :: k)) (hx : ev ρ x = some (.bool t) := by exact rfl) : St c ρ σ gs (.code (.cond x y z) :: k) := st_if hx h ht hf
theorem M2 {ops : Array Oper} {i : Nat} {rest : List Nat} {d : Option Nat} {ty : TypeId} {pos : String} {after : Array Edge} {g : Option (Nat × Bool)} {x : Operand} {b : Bool} {A B : Prop} (h : if b = true then A else B)
    (ht : A → St c (put ρ d (.bool true)) σ gs (.inRegion ops rest :: k)) (hn : B → St c (put ρ d (.bool false)) σ gs (.inRegion ops rest :: k))
    (ho : ops[i]? = some ⟨d, .move x, ty, pos, after, g⟩ := by exact rfl) (hg : wants ops ρ g = true := by exact rfl) (hf : fits n d = true := by exact rfl) (hx : ev ρ x = some (.bool b) := by exact rfl) : St c ρ σ gs (.inRegion ops (i :: rest) :: k) :=
  o_mif ho hg hf hx h ht hn
theorem SC {f : Nat} {ops : Array Oper} {i : Nat} {rest : List Nat} {d : Option Nat} {fo : Operand} {xs : Array Operand} {ats : Array TypeId} {ty : TypeId} {pos : String} {after : Array Edge} {g : Option (Nat × Bool)} {vs : List Value} {Q : Value → Sto → List Grp → Prop}
    (he : enters P f = true) (hd : Does P f vs σ [] Q) (h : ∀ v σ' gs', σ.Le σ' → Q v σ' gs' → St c (put ρ d v) σ' (gs' ++ gs) (.inRegion ops rest :: k))
    (ho : ops[i]? = some ⟨d, .call ⟨.value fo, xs, ats⟩, ty, pos, after, g⟩ := by exact rfl) (hg : wants ops ρ g = true := by exact rfl) (hf : fits n d = true := by exact rfl)
    (hfo : ev ρ fo = some (.func (.func f) #[] #[]) := by exact rfl) (hxs : evs ρ xs.toList = some vs := by exact rfl) : St c ρ σ gs (.inRegion ops (i :: rest) :: k) :=
  st_call (foot := []) ho hg hf hfo hxs rfl (callV_fn he hd) h
theorem cutS {S : Type} {x : Item} (σ1 : Sto) (R : S → Prop) (E : S → Env) (G : S → List Grp) (h1 : ∀ s τ, R s → σ1.Le τ → St c (E s) τ (G s) k)
    (h : (∀ ρ τ gs, (∃ s, R s ∧ σ1.Le τ ∧ ESub ρ (E s) ∧ gs = G s) → St c ρ τ gs k) → St c ρ σ gs (x :: k)) : St c ρ σ gs (x :: k) :=
  h (fun _ τ _ ⟨s, hR, hl, hρ, hG⟩ => st_es hρ (hG ▸ h1 s τ hR hl))
end
section
variable {P : Program} {n : Nat} {f : FuncId} {fn : Func} {cs : List Frame} {fs : List Grp} {σ0 σ : Sto} {ρ : Env} {gs : List Grp} {vs : List Value} {k : List Item} {Q : Value → Sto → List Grp → Prop}
theorem RT (hf : P.funcs[f]? = some fn) (hv : resV ρ fn.results.toList = some vs) (hle : σ0.Le σ) (hQ : Q (packV vs) σ []) : St (fctx P n f cs fs σ0 Q) ρ σ gs (.code .ret :: k) :=
 st_ret (gs' := []) hf hv (List.nil_sublist _) hle hQ
theorem RC (vs : List Value) (hf : P.funcs[f]? = some fn) (hv : ResOk P ρ gs fn.results.toList vs) (hle : σ0.Le σ) (hQ : Q (packV vs) σ []) : St (fctx P n f cs fs σ0 Q) ρ σ gs (.code .ret :: k) :=
 st_retC (gs' := []) vs hf hv (List.nil_sublist _) hle hQ
end
theorem cN {P : Program} {ρ : Env} {gs : List Grp} {x : Nat} {t : TypeId} {b : Nat} {cs : Array Value} {E : TypeId} {fr : Nat × Nat} {vs : List Value} (j : Nat) (ht : aggSize P t = some vs.length)
    (hl : look ρ x = some (.pointer (some ⟨b, 0, none⟩)) := by exact rfl) (hm : gs[j]? = some [(b, .cells cs E fr)] := by exact rfl) (hc : cs.toList.take vs.length = vs := by exact rfl) :
    ∃ b cs E fr, look ρ x = some (.pointer (some ⟨b, 0, none⟩)) ∧ (b, Obj.cells cs E fr) ∈ gs.flatten ∧ ∀ w : World, w.heap[b]? = some (.cells cs E fr) → (loadVar t ⟨b, 0, none⟩).run P w = .ok (.agg vs.toArray) w :=
  ⟨_, _, _, _, hl, mem_flat j hm, fun w hw => cellOfN ht hc w hw⟩
theorem c1 {P : Program} {ρ : Env} {gs : List Grp} {x : Nat} {t : TypeId} {b : Nat} {cs : Array Value} {E : TypeId} {fr : Nat × Nat} {v : Value} (j : Nat) (ht : isScalar P t = true)
    (hl : look ρ x = some (.pointer (some ⟨b, 0, none⟩)) := by exact rfl) (hm : gs[j]? = some [(b, .cells cs E fr)] := by exact rfl) (hc : cs[0]? = some v := by exact rfl) :
    ∃ b cs E fr, look ρ x = some (.pointer (some ⟨b, 0, none⟩)) ∧ (b, Obj.cells cs E fr) ∈ gs.flatten ∧ ∀ w : World, w.heap[b]? = some (.cells cs E fr) → (loadVar t ⟨b, 0, none⟩).run P w = .ok v w :=
  ⟨_, _, _, _, hl, mem_flat j hm, fun w hw => cellOf ht hc w hw⟩
theorem o4 {a b c d : Value} {l : List Value} (h : ∀ u ∈ l, u.oneCell' = true) (ha : a.oneCell' = true := by exact rfl) (hb : b.oneCell' = true := by exact rfl) (hc : c.oneCell' = true := by exact rfl) (hd : d.oneCell' = true := by exact rfl) :
    ∀ u ∈ a :: b :: c :: d :: l, u.oneCell' = true := ones_cons ha (ones_cons hb (ones_cons hc (ones_cons hd h)))
theorem oT {ρ ρ' : Env} {p : Nat → Bool} {v : Value} (h : ∀ t, p t = false → look ρ' t = look ρ t) (t : Nat) (hp : p t = false := by exact rfl) (hv : look ρ t = some v := by exact rfl) : look ρ' t = some v := (h t hp).trans hv
end Go.Eng
