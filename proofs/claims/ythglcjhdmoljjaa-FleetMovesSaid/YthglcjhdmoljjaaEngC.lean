import Derived.Test.YthglcjhdmoljjaaEngB
/-! The engine, part C: a loop over a function, its rounds. -/
namespace Go.Eng
open Go

theorem perm_mid {α : Type} (A B C : List α) : (A ++ (B ++ C)).Perm (B ++ (A ++ C)) := by
  rw [← List.append_assoc, ← List.append_assoc]; exact List.Perm.append_right _ List.perm_append_comm

theorem Wor.turnMid {σ : Sto} {A C : List Grp} {w w' : World} {b : Nat} {o o' : Obj} (h : Wor σ (A ++ [(b, o)] :: C) w) (hos : w'.os = w.os) (htape : w'.tape = w.tape) (hout : w'.output = w.output)
    (hb : w'.heap[b]? = some o') (hother : ∀ k, k ≠ b → w'.heap[k]? = w.heap[k]?) : Wor σ (A ++ [(b, o')] :: C) w' := by
  have h1 : Wor σ ([(b, o)] :: (A ++ C)) w := h.perm (by simp only [List.flatten_append, List.flatten_cons]; exact perm_mid _ _ _)
  have h2 := h1.turn hos htape hout hb hother
  exact h2.perm (by simp only [List.flatten_append, List.flatten_cons]; exact (perm_mid _ _ _).symm)

section
variable {P : Program} {n : Nat} {l : Nat} {rc : Loop} {caller : Frame} {cs : List Frame} {fs : List Grp} {σ0 σ : Sto} {FinR : Option Code → Sto → List Grp → Prop} {ρ : Env} {gs gs' : List Grp} {k : List Item}

end

def FinR {S E : Type} (J : S → Sto → List Grp → Prop) (JE : E → Code → Sto → List Grp → Prop) (o : Sum S E) : Option Code → Sto → List Grp → Prop
  | none, σ, gs => ∃ s', o = .inl s' ∧ J s' σ gs
  | some cd, σ, gs => ∃ e, o = .inr e ∧ JE e cd σ gs

end Go.Eng
