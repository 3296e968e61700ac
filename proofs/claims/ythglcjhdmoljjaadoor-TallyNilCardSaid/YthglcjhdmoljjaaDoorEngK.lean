import Derived.Test.YthglcjhdmoljjaaDoorEngJ
import Derived.ChangeKeysEq
/-! The engine, part K: a region that draws its order and turns what is held. -/
namespace Go.Eng
open Go

/-! Slices without room. -/
def Full (v : Value) : Prop := ∃ a n, v = .slice a n n
theorem full_nil : Full (.slice none 0 0) := ⟨none, 0, rfl⟩
section
variable {P : Program} {n : Nat} {c : Ctx P n} {ρ : Env} {σ : Sto} {gs : List Grp} {k : List Item} {ops : Array Oper} {i : Nat} {rest : List Nat}
variable {d : Option Nat} {ty : TypeId} {pos : String} {after : Array Edge} {g : Option (Nat × Bool)} {x y z : Operand} {v u : Value} {t : TypeId}
end
/-! Equality of arrays of whole numbers. -/
def tlI (l : List (Sto → Value → List Grp → Prop)) (i : Nat) : Sto → Value → List Grp → Prop := match l[i]? with
  | some p => p
  | none => fun _ _ _ => True
def MonoI : List (Sto → Value → List Grp → Prop) → Prop
  | [] => True
  | p :: l => (∀ σ τ v F, σ.Le τ → p σ v F → p τ v F) ∧ MonoI l
theorem tlI_mono {l : List (Sto → Value → List Grp → Prop)} (h : MonoI l) : ∀ i σ τ v F, σ.Le τ → tlI l i σ v F → tlI l i τ v F := by
  intro i
  induction l generalizing i with
  | nil => intro σ τ v F _ h; simp [tlI]
  | cons p l ih =>
    cases i with
    | zero => exact h.1
    | succ i => have := ih h.2 i; simpa [tlI] using this
end Go.Eng
